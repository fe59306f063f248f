import Derived.Test.YtkkkfkopcfdmaaaGreatDoorD
import Derived.Test.YtkkkfkopcfdmaaaGreatDoorB
import Derived.Test.YtkkkfkopcfdmaaaGreatDoorC
set_option linter.all false
namespace Go.Proofs.YtkkkfkopcfdmaaaGreatDoor
open Go Go.Vc Go.RowKit Go.Proofs
set_option maxRecDepth 100000
set_option maxHeartbeats 8000000
set_option linter.unusedVariables false
variable {R:Ending->World->Prop} {w:World} {a0 a1 a2 a3 a4 a5 a6 a7 a8 a9 aA ar au aU aV aZ bG bC bD Cf aj aq aw bt bR bH eB eO eC wh bA bQ bw wi wm vb vd wo wu wx Ch Ci Cj Ck Cm Cn Co Cp Cq Cr:Int}
def Xz.vc(h:
 ∀w0,w0=w.alloc (.map #[] 0)->
 Aw w0 #[.int .i64 (if 4096<(if 1>a0 then 1 else a0) then 4096 else (if 1>a0 then 1 else a0)),aa,.slice none 0 0,.map (some w.heap.size)] 226 λw1=>
 R (Value.pointer (aB w0)) w1):ah 97 #[a0] w R:=
 cq bU Tryz.func97 h
def DX.vc{a0:Addr}(h:
 Aw w #[aj,aq,aw] 41 λw0=>
 ah 262 #[a0,.agg #[aj,aq,aw]] w0 (λe w1=>∃(x2:Int)(b3:Bool),e=Value.tuple #[x2,b3]/\Kp w w0 w1/\
 Br b3
 (Br (x2<=a2)
 (R false w1)
 (Br b3
 (ah 263 #[a0,.agg #[aj,aq,aw]] w1 (Rb λb5 w4=>Kp w w1 w4/\
 ah 264 #[a0,.agg #[a2,aj,aq,aw]] w4 (Rt λw6=>Kp w w4 w6/\
 R true w6)))
 (∃(s7:Sl),ld w1.drew (ae (some a0) 2)=some (.slice s7.a s7.n s7.c)/\
 ∃(x8:Int),ld w1.drew (ae (some a0) 0)=some (.int .i64 x8)/\
 Br ((((s7.n:Nat):Int):Int)==x8)
 (∃(x9:Int),ld w1.drew (ae (some a0) 1)=some (.int .i64 x9)/\
 (true=true/\Wr w1.drew (ae (some a0) 1) 1)/\bz (ae (some a0) 1)≠some w.heap.size/\(∀bP,bP=aL w1.drew (ae (some a0) 1) [(ao (x9+1))]->
 R false bP))
 (ah 264 #[a0,.agg #[a2,aj,aq,aw]] w1.drew (Rt λbg=>Kp w w1.drew bg/\
 R true bg)))))
 (Br b3
 (ah 263 #[a0,.agg #[aj,aq,aw]] w1 (Rb λHn dj=>Kp w w1 dj/\
 ah 264 #[a0,.agg #[a2,aj,aq,aw]] dj (Rt λbO=>Kp w dj bO/\
 R true bO)))
 (∃(lZ:Sl),ld w1.drew (ae (some a0) 2)=some (.slice lZ.a lZ.n lZ.c)/\
 ∃(cH:Int),ld w1.drew (ae (some a0) 0)=some (.int .i64 cH)/\
 Br ((((lZ.n:Nat):Int):Int)==cH)
 (∃(dh:Int),ld w1.drew (ae (some a0) 1)=some (.int .i64 dh)/\
 (true=true/\Wr w1.drew (ae (some a0) 1) 1)/\bz (ae (some a0) 1)≠some w.heap.size/\(∀dH,dH=aL w1.drew (ae (some a0) 1) [(ao (dh+1))]->
 R false dH))
 (ah 264 #[a0,.agg #[a2,aj,aq,aw]] w1.drew (Rt λgg=>Kp w w1.drew gg/\
 R true gg)))))):ah 211 #[a0,.agg #[aj,aq,aw],a2] w R:=
 cq bU Tryz.func211 h
def DR.vc{a0:Addr}(h:
 ∃I0:Nat->Int->World->Prop,
 (∃n1,I0 n1 (0) w)/\
 ∀(n1:Nat)(yI:Nat->Value)(x3:Int)(w4:World),I0 n1 x3 w4->
 ∃(s6:Sl),ld w4 (ae (some a0) 2)=some (.slice s6.a s6.n s6.c)/\
 Br (decide (x3<((s6.n:Nat):Int)))
 (Br (x3<a2)
 (∃(s7:Sl),ld w4 (ae (some a0) 2)=some (.slice s7.a s7.n s7.c)/\
 eA s7.a x3 s7.n/\aP (dq (ae s7.a ((x3:Int).toNat*4))) (∃(x8:Int),ld w4 (ae (ae s7.a ((x3:Int).toNat*4)) 0)=some (.int .i64 x8)/\
 Br (x8<=a1)
 (∃n5,n5<n1/\I0 n5 ((ao (x3+1))) w4)
 (∃(s9:Sl),ld w4 (ae (some a0) 2)=some (.slice s9.a s9.n s9.c)/\
 (0:Int)<=x3/\x3<=((s9.c:Nat):Int)/\(0:Int)<=x3/\x3<=x3/\∃Eg:Nat->Int->Sl->World->Prop,
 (∃tG,Eg tG (0) ⟨none,0,0⟩ w4)/\
 ∀(tG:Nat)(aj5:Nat->Value)(cn:Int)(s14:Sl)(dB:World),Eg tG cn s14 dB->
 Br (decide (cn<((((x3:Int).toNat-0):Nat):Int)))
 (eA (aJ s9.a (0) ((x3:Int).toNat) 4) cn ((x3:Int).toNat-0)/\∃(dh cA cu di:Int),af dB (ae (aJ s9.a (0) ((x3:Int).toNat) 4) ((cn:Int).toNat*4)) 0 [dh,cA,cu,di]/\
 Aw dB #[aa,aa,aa,aa] 157 λeZ=>
 Sw eZ dB #[dh,cA,cu,di] λdP=>
 Aw dP #[cA,cu,di] 41 λeP=>
 ba 24 3 eP s14 1 [cA,cu,di]/\∀(wE:Sl)(cW:World),aY 41 3 eP s14 1 [cA,cu,di] wE cW->K2 dB dP eP cW (
 ∃(m26:Option Nat),ld cW.drew (ae (some a0) 3)=some (.map m26)/\
 ∃(G27:Value->Prop)(kvs28:List (Value × Value)),iW Tryz.prog 41 G27/\(m26:Option Nat).isSome=true/\cD G27 cW.drew m26 kvs28/\G27 (.agg #[cA,cu,di])/\∀dW:World,Rec ((m26:Option Nat).getD 0) cW.drew dW->cD G27 dW m26 (Gy kvs28 (.agg #[cA,cu,di]))->
 ∃IE,IE<tG/\Eg IE ((ao (cn+1))) wE dW))
 (∃(ug:Sl),ld dB (ae (some a0) 2)=some (.slice ug.a ug.n ug.c)/\
 ah 241 #[ug,aa,x3] dB (λe gf=>∃(wA:Sl),e=wA/\
 (true=true/\Wr gf (ae (some a0) 2) 1)/\(∀eT,eT=aL gf (ae (some a0) 2) [wA]->
 R s14 eT))))))
 (∃(s34:Sl),ld w4 (ae (some a0) 2)=some (.slice s34.a s34.n s34.c)/\
 (0:Int)<=x3/\x3<=((s34.c:Nat):Int)/\(0:Int)<=x3/\x3<=x3/\∃I35:Nat->Int->Sl->World->Prop,
 (∃n36,I35 n36 (0) ⟨none,0,0⟩ w4)/\
 ∀(n36:Nat)(aCW:Nat->Value)(gk:Int)(Vw:Sl)(jP:World),I35 n36 gk Vw jP->
 Br (decide (gk<((((x3:Int).toNat-0):Nat):Int)))
 (eA (aJ s34.a (0) ((x3:Int).toNat) 4) gk ((x3:Int).toNat-0)/\∃(nj rU lD pI:Int),af jP (ae (aJ s34.a (0) ((x3:Int).toNat) 4) ((gk:Int).toNat*4)) 0 [nj,rU,lD,pI]/\
 Aw jP #[aa,aa,aa,aa] 157 λqo=>
 Sw qo jP #[nj,rU,lD,pI] λlW=>
 Aw lW #[rU,lD,pI] 41 λgj=>
 ba 24 3 gj Vw 1 [rU,lD,pI]/\∀(s49:Sl)(mT:World),aY 41 3 gj Vw 1 [rU,lD,pI] s49 mT->K2 jP lW gj mT (
 ∃(m51:Option Nat),ld mT.drew (ae (some a0) 3)=some (.map m51)/\
 ∃(G52:Value->Prop)(kvs53:List (Value × Value)),iW Tryz.prog 41 G52/\(m51:Option Nat).isSome=true/\cD G52 mT.drew m51 kvs53/\G52 (.agg #[rU,lD,pI])/\∀Hy:World,Rec ((m51:Option Nat).getD 0) mT.drew Hy->cD G52 Hy m51 (Gy kvs53 (.agg #[rU,lD,pI]))->
 ∃n41,n41<n36/\I35 n41 ((ao (gk+1))) s49 Hy))
 (∃(s55:Sl),ld jP (ae (some a0) 2)=some (.slice s55.a s55.n s55.c)/\
 ah 241 #[s55,aa,x3] jP (λe qH=>∃(s57:Sl),e=s57/\
 (true=true/\Wr qH (ae (some a0) 2) 1)/\(∀Cx,Cx=aL qH (ae (some a0) 2) [s57]->
 R Vw Cx)))))
 (∃(s59:Sl),ld w4 (ae (some a0) 2)=some (.slice s59.a s59.n s59.c)/\
 (0:Int)<=x3/\x3<=((s59.c:Nat):Int)/\(0:Int)<=x3/\x3<=x3/\∃I60:Nat->Int->Sl->World->Prop,
 (∃n61,I60 n61 (0) ⟨none,0,0⟩ w4)/\
 ∀(n61:Nat)(aCX:Nat->Value)(uf:Int)(s64:Sl)(EJ:World),I60 n61 uf s64 EJ->
 Br (decide (uf<((((x3:Int).toNat-0):Nat):Int)))
 (eA (aJ s59.a (0) ((x3:Int).toNat) 4) uf ((x3:Int).toNat-0)/\∃(pd mS qN py:Int),af EJ (ae (aJ s59.a (0) ((x3:Int).toNat) 4) ((uf:Int).toNat*4)) 0 [pd,mS,qN,py]/\
 Aw EJ #[aa,aa,aa,aa] 157 λw71=>
 Sw w71 EJ #[pd,mS,qN,py] λw72=>
 Aw w72 #[mS,qN,py] 41 λKy=>
 ba 24 3 Ky s64 1 [mS,qN,py]/\∀(s74:Sl)(sY:World),aY 41 3 Ky s64 1 [mS,qN,py] s74 sY->K2 EJ w72 Ky sY (
 ∃(m76:Option Nat),ld sY.drew (ae (some a0) 3)=some (.map m76)/\
 ∃(G77:Value->Prop)(kvs78:List (Value × Value)),iW Tryz.prog 41 G77/\(m76:Option Nat).isSome=true/\cD G77 sY.drew m76 kvs78/\G77 (.agg #[mS,qN,py])/\∀l6:World,Rec ((m76:Option Nat).getD 0) sY.drew l6->cD G77 l6 m76 (Gy kvs78 (.agg #[mS,qN,py]))->
 ∃n66,n66<n61/\I60 n66 ((ao (uf+1))) s74 l6))
 (∃(s80:Sl),ld EJ (ae (some a0) 2)=some (.slice s80.a s80.n s80.c)/\
 ah 241 #[s80,aa,x3] EJ (λe wC=>∃(s82:Sl),e=s82/\
 (true=true/\Wr wC (ae (some a0) 2) 1)/\(∀w83,w83=aL wC (ae (some a0) 2) [s82]->
 R s64 w83))))):ah 172 #[a0,a1,a2] w R:=
 cq ⟨[(6,⟨[(45,.int .i64),(8,.slice)],[],[]⟩),(6,⟨[(45,.int .i64),(8,.slice)],[],[]⟩),(6,⟨[(45,.int .i64),(8,.slice)],[],[]⟩),(2,⟨[(7,.int .i64)],[],[]⟩)],[],[]⟩ Tryz.func172 h
def Gz.vc{a0:Addr}(h:
 Aw w #[aj,aq,aw] 41 λw0=>
 ∃(m1:Option Nat),ld w0.drew (ae (some a0) 3)=some (.map m1)/\
 ∃(G2:Value->Prop)(kvs3:List (Value × Value)),iW Tryz.prog 41 G2/\cD G2 w0.drew m1 kvs3/\G2 (.agg #[aj,aq,aw])/\∃(x4:Int),∃b5:Bool,Ie kvs3 (.agg #[aj,aq,aw]) (0:Int) x4 b5/\
 R (Value.tuple #[x4,b5]) w0.drew):ah 262 #[a0,.agg #[aj,aq,aw]] w R:=
 cq bU Tryz.func262 h
def BR.vc{a0:Addr}(h:
 Aw w #[aj,aq,aw] 41 λw0=>
 ∃(m1:Option Nat),ld w0.drew (ae (some a0) 3)=some (.map m1)/\
 ∃(G2:Value->Prop)(kvs3:List (Value × Value)),iW Tryz.prog 41 G2/\cD G2 w0.drew m1 kvs3/\G2 (.agg #[aj,aq,aw])/\∃(x4:Int),∃b5:Bool,Ie kvs3 (.agg #[aj,aq,aw]) (0:Int) x4 b5/\
 Br (!b5)
 (R false w0.drew)
 (∃(m6:Option Nat),ld w0.drew.drew (ae (some a0) 3)=some (.map m6)/\
 ∃(G7:Value->Prop)(kvs8:List (Value × Value)),iW Tryz.prog 41 G7/\(m6:Option Nat).isSome=true/\cD G7 w0.drew.drew m6 kvs8/\G7 (.agg #[aj,aq,aw])/\∀w9:World,Rec ((m6:Option Nat).getD 0) w0.drew.drew w9->cD G7 w9 m6 (Gy kvs8 (.agg #[aj,aq,aw]))->
 ∃(yN:Sl),ld w9 (ae (some a0) 2)=some (.slice yN.a yN.n yN.c)/\
 ah 286 #[yN,.func (.func 287) #[] #[w]] w9 (λe bg=>∃(kg:Sl),e=kg/\
 (true=true/\Wr bg (ae (some a0) 2) 1)/\(∀bK,bK=aL bg (ae (some a0) 2) [kg]->
 R true bK)))):ah 263 #[a0,.agg #[aj,aq,aw]] w R:=
 cq bU Tryz.func263 h
def BO.vc{a0:Addr}(h:
 Aw w #[aj,aq,aw,bt] 157 λw0=>
 ∃(s1:Sl),ld w0.drew (ae (some a0) 2)=some (.slice s1.a s1.n s1.c)/\
 ah 288 #[s1,.agg #[aj,aq,aw,bt],.func (.func 289) #[] #[]] w0.drew (λe w2=>∃(x3:Int)(b4:Bool),e=Value.tuple #[x3,b4]/\Kp w w0.drew w2/\
 ∃(s5:Sl),ld w2.drew (ae (some a0) 2)=some (.slice s5.a s5.n s5.c)/\
 Aw w2.drew #[aj,aq,aw,bt] 157 λw6=>
 ah 292 #[s5,x3,.slice (aB w2.drew.heap.size) 1 1] w6 (Rs λs8 w7=>Kp w w6 w7/\
 (true=true/\Wr w7 (ae (some a0) 2) 1)/\bz (ae (some a0) 2)≠some w.heap.size/\(∀w9,w9=aL w7 (ae (some a0) 2) [s8]->
 ∃(m10:Option Nat),ld w9.drew (ae (some a0) 3)=some (.map m10)/\
 ∃(G11:Value->Prop)(kvs12:List (Value × Value)),iW Tryz.prog 41 G11/\(m10:Option Nat).isSome=true/\cD G11 w9.drew m10 kvs12/\G11 (.agg #[aq,aw,bt])/\∀bK:World,Rec ((m10:Option Nat).getD 0) w9.drew bK->cD G11 bK m10 (xQ kvs12 (.agg #[aq,aw,bt]) aj)->
 R po bK)))):ah 264 #[a0,.agg #[aj,aq,aw,bt]] w R:=
 cq bU Tryz.func264 h
def xB.vc{a0:Sl}(h:
 (0:Int)<=((a0.n:Nat):Int)/\((a0.n:Nat):Int)<=((a0.c:Nat):Int)/\(0:Int)<=a2/\a2<=((a0.n:Nat):Int)/\(0:Int)<=a1/\a1<=a2/\Br (a1==a2)
 (R a0 w)
 ((0:Int)<=a1/\a1<=((a0.c:Nat):Int)/\(0:Int)<=a2/\a2<=((a0.n:Nat):Int)/\∃l0:LV,Rd w.drew (aJ a0.a ((a2:Int).toNat) (a0.c) 4) l0/\ba 32 4 w.drew ⟨(aJ a0.a (0) (a0.c) 4),((a1:Int).toNat-0),(a0.c-0)⟩ (a0.n-(a2:Int).toNat) l0/\∀(s1:Sl)(w2:World),aY 157 4 w.drew ⟨(aJ a0.a (0) (a0.c) 4),((a1:Int).toNat-0),(a0.c-0)⟩ (a0.n-(a2:Int).toNat) l0 s1 w2->
 (0:Int)<=((a0.n:Nat):Int)/\((a0.n:Nat):Int)<=((s1.c:Nat):Int)/\(0:Int)<=((s1.n:Nat):Int)/\(((s1.n:Nat):Int):Int)<=((a0.n:Nat):Int)/\Wr w2 (aJ s1.a ((((s1.n:Nat):Int):Int).toNat) (s1.c) 4) (((((a0.n:Nat):Int):Int).toNat-(((s1.n:Nat):Int):Int).toNat)*4)/\(∀w3,w3=aL w2 (aJ s1.a ((((s1.n:Nat):Int):Int).toNat) (s1.c) 4) (bo [aa,aa,aa,aa] ((((a0.n:Nat):Int):Int).toNat-(((s1.n:Nat):Int):Int).toNat))->
 R s1 w3))):ah 241 #[a0,a1,a2] w R:=
 cq bU Tryz.func241 h
def DQ.vc{a0:Addr}(h:
 ∃(s0:Sl),ld w (ae (some a0) 2)=some (.slice s0.a s0.n s0.c)/\
 ah 191 #[s0] w (λe w1=>∃(s2:Sl),e=s2/\
 R s2 w1)):ah 138 #[a0] w R:=
 cq bU Tryz.func138 h
def sr.vc{a0:Sl}{a1:Value}(h:
 ah 304 #[a0,a1] w (λe w0=>∃(x1:Int),e=x1/\
 Br (x1==(-1))
 (R a0 w0)
 (∃I2:Nat->Int->Int->World->Prop,
 (∃n3,I2 n3 ((ao (x1+1))) x1 w0)/\
 ∀(n3:Nat)(us4:Nat->Value)(x5 x6:Int)(w7:World),I2 n3 x5 x6 w7->
 Br (decide (x5<((a0.n:Nat):Int)))
 (eA a0.a x5 a0.n/\∃(x9 bj bu bV:Int),af w7 (ae a0.a ((x5:Int).toNat*4)) 0 [x9,bj,bu,bV]/\
 Aw w7 #[aa,aa,aa,aa] 157 λbK=>
 Sw bK w7 #[x9,bj,bu,bV] λbO=>
 cC Tryz.prog a1 [.agg #[x9,bj,bu,bV]] bO (Rb λb16 dB=>Kp w7 bO dB/\
 Br (!b16)
 (eA a0.a x6 a0.n/\(((ae a0.a ((x6:Int).toNat*4))).isSome=true/\Wr dB (ae a0.a ((x6:Int).toNat*4)) 4)/\bz (ae a0.a ((x6:Int).toNat*4))≠some w7.heap.size/\(∀cL,cL=aL dB (ae a0.a ((x6:Int).toNat*4)) [x9,bj,bu,bV]->
 ∃n8,n8<n3/\I2 n8 ((ao (x5+1))) ((ao (x6+1))) cL))
 (∃n8,n8<n3/\I2 n8 ((ao (x5+1))) x6 dB)))
 ((0:Int)<=x6/\x6<=((a0.n:Nat):Int)/\Wr w7 (aJ a0.a ((x6:Int).toNat) (a0.c) 4) ((a0.n-(x6:Int).toNat)*4)/\(∀dH,dH=aL w7 (aJ a0.a ((x6:Int).toNat) (a0.c) 4) (bo [aa,aa,aa,aa] (a0.n-(x6:Int).toNat))->
 (0:Int)<=x6/\x6<=((a0.c:Nat):Int)/\R (Value.slice (aJ a0.a (0) (a0.c) 4) ((x6:Int).toNat-0) (a0.c-0)) dH))))):ah 286 #[a0,a1] w R:=
 cq ⟨[(5,⟨[(6,.int .i64),(5,.int .i64)],[],[]⟩)],[],[]⟩ Tryz.func286 h
def yq.vc{c0:Addr}(h:
 Aw w #[aA,ar,au,aU] 157 λw0=>
 ∃(x1 x2 x3:Int),af w0 (some c0) 0 [x1,x2,x3]/\
 R (Value.bool ((ar==x1) &&((au==x2) &&(aU==x3)))) w0):ah 287 #[.agg #[aA,ar,au,aU],c0] w R:=
 cq bU Tryz.func287 h
def nc.vc{a0:Sl}{a2:Value}(h:
 Aw w #[aj,aq,aw,bt] 157 λw0=>
 ∃I1:Nat->Int->Int->World->Prop,
 (∃n2,aO [aj,aq,aw,bt]/\I1 n2 (0) (((a0.n:Nat):Int)) w0)/\
 ∀(n2:Nat)(us3:Nat->Value)(x4 x5:Int)(w6:World),I1 n2 x4 x5 w6->
 Br (x4<x5)
 (eA a0.a (ao (((dc (ao (x4+x5))):Int).fdiv (2 ^(min (1:Int).toNat 64)))) a0.n/\∃(x8 x9 bj bu:Int),af w6.drew (ae a0.a (((ao (((dc (ao (x4+x5))):Int).fdiv (2 ^(min (1:Int).toNat 64)))):Int).toNat*4)) 0 [x8,x9,bj,bu]/\
 cC Tryz.prog a2 [.agg #[x8,x9,bj,bu],.agg #[aj,aq,aw,bt]] w6.drew (Ri λcn dj=>Kp w w6.drew dj/\
 Br (cn<0)
 (∃n7,n7<n2/\aO [aj,aq,aw,bt]/\I1 n7 ((ao ((ao (((dc (ao (x4+x5))):Int).fdiv (2 ^(min (1:Int).toNat 64))))+1))) x5 dj)
 (∃n7,n7<n2/\aO [aj,aq,aw,bt]/\I1 n7 x4 ((ao (((dc (ao (x4+x5))):Int).fdiv (2 ^(min (1:Int).toNat 64))))) dj)))
 (Br (decide (x4<((a0.n:Nat):Int)))
 (eA a0.a x4 a0.n/\∃(bI cw cH dh:Int),af w6.drew (ae a0.a ((x4:Int).toNat*4)) 0 [bI,cw,cH,dh]/\
 cC Tryz.prog a2 [.agg #[bI,cw,cH,dh],.agg #[aj,aq,aw,bt]] w6.drew (Ri λcu dH=>Kp w w6.drew dH/\
 R (Value.tuple #[x4,.bool (cu==0)]) dH))
 (R (Value.tuple #[x4,false]) w6.drew))):ah 288 #[a0,.agg #[aj,aq,aw,bt],a2] w R:=
 cq ⟨[(3,⟨[(9,.int .i64),(10,.int .i64)],[],[]⟩)],[],[]⟩ Tryz.func288 h
def yr.vc(h:
 Aw w #[aA,ar,au,aU] 157 λw0=>
 Aw w0 #[aj,aq,aw,bt] 157 λw1=>
 ah 291 #[aA,aj] w1 (Ri λx3 w2=>K2 w w0 w1 w2 (
 Aw w2 #[x3,(-1:Int)] 3 λw4=>
 ah 290 #[.slice (aB w2) 2 2] w4 (Ri λx6 w5=>K2 w w0 w4 w5 (
 R x6 w5))))):ah 289 #[.agg #[aA,ar,au,aU],.agg #[aj,aq,aw,bt]] w R:=
 cq bU Tryz.func289 h
def Tv.vc{a0:Sl}(h:
 ∃I0:Nat->Int->World->Prop,
 (∃n1,I0 n1 (0) w)/\
 ∀(n1:Nat)(yI:Nat->Value)(x3:Int)(w4:World),I0 n1 x3 w4->
 Br (decide (x3<((a0.n:Nat):Int)))
 (eA a0.a x3 a0.n/\∃(x6:Int),ld w4 (ae a0.a ((x3:Int).toNat*1))=some (.int .i64 x6)/\
 Br (x6 !=0)
 (R x6 w4)
 (∃n5,n5<n1/\I0 n5 ((ao (x3+1))) w4))
 (R (0:Int) w4)):ah 290 #[a0] w R:=
 cq ⟨[(3,⟨[(8,.int .i64)],[],[]⟩)],[],[]⟩ Tryz.func290 h
def D3.vc(h:
 ah 305 #[a0] w (λe w0=>∃(b1:Bool),e=b1/\
 ah 305 #[a1] w0 (λe w2=>∃(b3:Bool),e=b3/\
 Br b1
 (Br b3
 (R (0:Int) w2)
 (R (Value.int .i64 (-1)) w2))
 (Br b3
 (R (1:Int) w2)
 (Br (a0<a1)
 (R (Value.int .i64 (-1)) w2)
 (Br (a0>a1)
 (R (1:Int) w2)
 (R (0:Int) w2))))))):ah 291 #[a0,a1] w R:=
 cq bU Tryz.func291 h
def yt.vc{a0:Sl}{a2:Sl}(h:
 (0:Int)<=a1/\a1<=((a0.n:Nat):Int)/\Br ((((a2.n:Nat):Int):Int)==0)
 (R a0 w)
 (Br (a1==((a0.n:Nat):Int))
 (∃l0:LV,Rd w a2.a l0/\ba 32 4 w a0 a2.n l0/\∀(s1:Sl)(w2:World),aY 157 4 w a0 a2.n l0 s1 w2->
 R s1 w2)
 (Br (decide (((ao (((a0.n:Nat):Int)+((a2.n:Nat):Int))):Int)>((a0.c:Nat):Int)))
 ((0:Int)<=a1/\a1<=((a0.c:Nat):Int)/\((0:Int)<=(ao ((ao (((a0.n:Nat):Int)+((a2.n:Nat):Int)))-a1))/\ao (ao ((ao (((a0.n:Nat):Int)+((a2.n:Nat):Int)))-a1))=(ao ((ao (((a0.n:Nat):Int)+((a2.n:Nat):Int)))-a1))/\((ao ((ao (((a0.n:Nat):Int)+((a2.n:Nat):Int)))-a1)):Int)*32<=281474976710656)/\ba 32 4 w ⟨(aJ a0.a (0) (a0.c) 4),((a1:Int).toNat-0),(a0.c-0)⟩ ((ao ((ao (((a0.n:Nat):Int)+((a2.n:Nat):Int)))-a1)):Int).toNat (bo [aa,aa,aa,aa] ((ao ((ao (((a0.n:Nat):Int)+((a2.n:Nat):Int)))-a1)):Int).toNat)/\∀(s3:Sl)(w4:World),aY 157 4 w ⟨(aJ a0.a (0) (a0.c) 4),((a1:Int).toNat-0),(a0.c-0)⟩ ((ao ((ao (((a0.n:Nat):Int)+((a2.n:Nat):Int)))-a1)):Int).toNat (bo [aa,aa,aa,aa] ((ao ((ao (((a0.n:Nat):Int)+((a2.n:Nat):Int)))-a1)):Int).toNat) s3 w4->
 (0:Int)<=a1/\a1<=((s3.n:Nat):Int)/\∃l5:LV,(l5.length=min a2.n (s3.n-(a1:Int).toNat)*4/\Rd w4 a2.a l5/\One l5/\Wr w4 (aJ s3.a ((a1:Int).toNat) (s3.c) 4) l5.length)/\(∀w6,w6=aL w4 (aJ s3.a ((a1:Int).toNat) (s3.c) 4) l5->
 (0:Int)<=(ao (a1+((a2.n:Nat):Int)))/\(ao (a1+((a2.n:Nat):Int)))<=((s3.n:Nat):Int)/\(0:Int)<=a1/\a1<=((a0.n:Nat):Int)/\∃l7:LV,(l7.length=min (a0.n-(a1:Int).toNat) (s3.n-((ao (a1+((a2.n:Nat):Int))):Int).toNat)*4/\Rd w6.drew (aJ a0.a ((a1:Int).toNat) (a0.c) 4) l7/\One l7/\Wr w6.drew (aJ s3.a (((ao (a1+((a2.n:Nat):Int))):Int).toNat) (s3.c) 4) l7.length)/\(∀w8,w8=aL w6.drew (aJ s3.a (((ao (a1+((a2.n:Nat):Int))):Int).toNat) (s3.c) 4) l7->
 R s3 w8)))
 ((0:Int)<=(ao (((a0.n:Nat):Int)+((a2.n:Nat):Int)))/\(ao (((a0.n:Nat):Int)+((a2.n:Nat):Int)))<=((a0.c:Nat):Int)/\(0:Int)<=(ao (a1+((a2.n:Nat):Int)))/\(ao (a1+((a2.n:Nat):Int)))<=(((((ao (((a0.n:Nat):Int)+((a2.n:Nat):Int))):Int).toNat-0):Nat):Int)/\aaG Tryz.prog 306 [a2,.slice (aJ (aJ a0.a (0) (a0.c) 4) (((ao (a1+((a2.n:Nat):Int))):Int).toNat) ((a0.c-0)) 4) ((((ao (((a0.n:Nat):Int)+((a2.n:Nat):Int))):Int).toNat-0)-((ao (a1+((a2.n:Nat):Int))):Int).toNat) ((a0.c-0)-((ao (a1+((a2.n:Nat):Int))):Int).toNat)] w (λe w9=>∃(b10:Bool),e=b10/\
 Br (!b10)
 ((0:Int)<=(ao (a1+((a2.n:Nat):Int)))/\(ao (a1+((a2.n:Nat):Int)))<=(((((ao (((a0.n:Nat):Int)+((a2.n:Nat):Int))):Int).toNat-0):Nat):Int)/\(0:Int)<=a1/\a1<=(((((ao (((a0.n:Nat):Int)+((a2.n:Nat):Int))):Int).toNat-0):Nat):Int)/\∃l11:LV,(l11.length=min ((((ao (((a0.n:Nat):Int)+((a2.n:Nat):Int))):Int).toNat-0)-(a1:Int).toNat) ((((ao (((a0.n:Nat):Int)+((a2.n:Nat):Int))):Int).toNat-0)-((ao (a1+((a2.n:Nat):Int))):Int).toNat)*4/\Rd w9.drew (aJ (aJ a0.a (0) (a0.c) 4) ((a1:Int).toNat) ((a0.c-0)) 4) l11/\One l11/\Wr w9.drew (aJ (aJ a0.a (0) (a0.c) 4) (((ao (a1+((a2.n:Nat):Int))):Int).toNat) ((a0.c-0)) 4) l11.length)/\(∀dj,dj=aL w9.drew (aJ (aJ a0.a (0) (a0.c) 4) (((ao (a1+((a2.n:Nat):Int))):Int).toNat) ((a0.c-0)) 4) l11->
 (0:Int)<=a1/\a1<=(((((ao (((a0.n:Nat):Int)+((a2.n:Nat):Int))):Int).toNat-0):Nat):Int)/\∃l13:LV,(l13.length=min a2.n ((((ao (((a0.n:Nat):Int)+((a2.n:Nat):Int))):Int).toNat-0)-(a1:Int).toNat)*4/\Rd dj a2.a l13/\One l13/\Wr dj (aJ (aJ a0.a (0) (a0.c) 4) ((a1:Int).toNat) ((a0.c-0)) 4) l13.length)/\(∀bO,bO=aL dj (aJ (aJ a0.a (0) (a0.c) 4) ((a1:Int).toNat) ((a0.c-0)) 4) l13->
 R (Value.slice (aJ a0.a (0) (a0.c) 4) (((ao (((a0.n:Nat):Int)+((a2.n:Nat):Int))):Int).toNat-0) (a0.c-0)) bO)))
 ((0:Int)<=((a0.n:Nat):Int)/\((a0.n:Nat):Int)<=(((((ao (((a0.n:Nat):Int)+((a2.n:Nat):Int))):Int).toNat-0):Nat):Int)/\∃l15:LV,(l15.length=min a2.n ((((ao (((a0.n:Nat):Int)+((a2.n:Nat):Int))):Int).toNat-0)-(((a0.n:Nat):Int):Int).toNat)*4/\Rd w9 a2.a l15/\One l15/\Wr w9 (aJ (aJ a0.a (0) (a0.c) 4) ((((a0.n:Nat):Int):Int).toNat) ((a0.c-0)) 4) l15.length)/\(∀cF,cF=aL w9 (aJ (aJ a0.a (0) (a0.c) 4) ((((a0.n:Nat):Int):Int).toNat) ((a0.c-0)) 4) l15->
 (0:Int)<=a1/\a1<=(((((ao (((a0.n:Nat):Int)+((a2.n:Nat):Int))):Int).toNat-0):Nat):Int)/\ah 307 #[.slice (aJ (aJ a0.a (0) (a0.c) 4) ((a1:Int).toNat) ((a0.c-0)) 4) ((((ao (((a0.n:Nat):Int)+((a2.n:Nat):Int))):Int).toNat-0)-(a1:Int).toNat) ((a0.c-0)-(a1:Int).toNat),((a2.n:Nat):Int)] cF (λe cL=>e=po/\
 R (Value.slice (aJ a0.a (0) (a0.c) 4) (((ao (((a0.n:Nat):Int)+((a2.n:Nat):Int))):Int).toNat-0) (a0.c-0)) cL)))))))):ah 292 #[a0,a1,a2] w R:=
 cq bU Tryz.func292 h
def Am.vc{a0:Sl}(h:
 Br (a0.a).isNone
 (R (Value.slice none 0 0) w)
 (Aw w #[] 157 λw0=>
 ∃l1:LV,Rd w0 a0.a l1/\ba 32 4 w0 ⟨(aB w),0,0⟩ a0.n l1/\∀(s2:Sl)(w3:World),aY 157 4 w0 ⟨(aB w),0,0⟩ a0.n l1 s2 w3->Kp w w0 w3/\
 R s2 w3)):ah 191 #[a0] w R:=
 cq bU Tryz.func191 h
def ua.vc{a0:Sl}{a1:Value}(h:
 ∃I0:Nat->Int->World->Prop,
 (∃n1,I0 n1 (0) w)/\
 ∀(n1:Nat)(yI:Nat->Value)(x3:Int)(w4:World),I0 n1 x3 w4->
 Br (decide (x3<((a0.n:Nat):Int)))
 (eA a0.a x3 a0.n/\∃(x6 x7 x8 x9:Int),af w4 (ae a0.a ((x3:Int).toNat*4)) 0 [x6,x7,x8,x9]/\
 cC Tryz.prog a1 [.agg #[x6,x7,x8,x9]] w4 (λe bP=>∃(ZH:Bool),e=ZH/\
 Br ZH
 (R x3 bP)
 (∃n5,n5<n1/\I0 n5 ((ao (x3+1))) bP)))
 (R (Value.int .i64 (-1)) w4)):ah 304 #[a0,a1] w R:=
 cq ⟨[(2,⟨[(8,.int .i64)],[],[]⟩)],[],[]⟩ Tryz.func304 h
def Is.vc(h:
 R (Value.bool (a0 !=a0)) w):ah 305 #[a0] w R:=
 cq bU Tryz.func305 h
end Go.Proofs.YtkkkfkopcfdmaaaGreatDoor
namespace Go.Proofs.YtkkkfkopcfdmaaaGreatDoor.Q
open Go Go.Vc Go.RowKit Go.Proofs Go.fh
set_option maxRecDepth 100000
abbrev zf:TypeId:=41
abbrev cJ:TypeId:=157
abbrev ku:TypeId:=226
def GC(v:Value):Prop:=∃c:Cl,v=cv c
def Ah:iW Tryz.prog zf GC:=by
 refine ⟨?_,?_,?_⟩
 ·rintro x y ⟨a,rfl⟩ ⟨b,rfl⟩;refine ⟨a.1==b.1 &&(a.2.1==b.2.1 && a.2.2==b.2.2),by kernel_rfl,?_⟩;simp only [fk,beq_iff_eq];constructor
  ·rintro ⟨h1,h2,h3⟩;unfold cv;rw [h1,h2,h3]
  ·intro h;rw [Gp h];simp
 ·rintro x ⟨a,rfl⟩ b w;kernel_rfl
 ·rintro x ⟨a,rfl⟩;simp [cv,Instr.sameBits]
def GX(a:Int)(w:World):ah 305 #[a] w λe w'=>e=false/\w'=w:=by apply Is.vc;simp
def L2(a b:Int)(w:World):ah 291 #[a,b] w λe w'=>e=Value.int .i64 (if a<b then -1 else if b<a then 1 else 0)/\w'=w:=by
 apply D3.vc;refine (GX a w).mono ?_;rintro e w1 ⟨rfl,rfl⟩;refine ⟨_,rfl,(GX b w1).mono ?_⟩;rintro e w2 ⟨rfl,rfl⟩;refine ⟨_,rfl,Br.mk (λh=>by cases h) (λ_=>Br.mk (λh=>by cases h) (λ_=>Br.mk (λh=> ?_) (λh=>Br.mk (λh2=> ?_) (λh2=> ?_))))⟩
 ·replace h:=nA h;rw [if_pos h];exact ⟨rfl,rfl⟩
 ·simp only [cN,fm] at h h2;rw [if_neg h,if_pos h2];exact ⟨rfl,rfl⟩
 ·simp only [fm] at h h2;rw [if_neg h,if_neg h2];exact ⟨rfl,rfl⟩
def abZ(a b:Int)(g:Nat)(w:World)(hr:Row w g [a,b] 3):
  ah 290 #[.slice (aB g) 2 2] w λe w'=>e=Value.int .i64 (if a=0 then b else a)/\w'=w:=by
 apply (Tv.vc (a0:=⟨aB g,2,2⟩));refine ⟨λn x wr=>wr=w/\∃k:Nat,x=k/\k+n=2/\(1<=k->a=0)/\(2<=k->b=0),⟨2,rfl,0,rfl,rfl,by omega,by omega⟩,?_⟩;rintro n us x wr ⟨rfl,k,rfl,hk,h1,h2⟩;have hw:=aK (n:=(k:Int)+1) (by unfold bN;omega);rw [hw];apply Br.mk<;>intro h<;>simp only [cN,fm] at h
 ·refine ⟨⟨rfl,by omega,by omega⟩,if k=0 then a else b,?_,Br.mk (λh3=> ?_) (λh3=> ?_)⟩
  ·show ld wr (ae (aB g) _)=_;rw [bh,hr.ld];have:k=0\/k=1:=by simp at h;omega
   rcases this with rfl|rfl<;>rfl
  ·simp only [bne_iff_ne,ne_eq] at h3;have:k=0\/k=1:=by simp at h;omega
   rcases this with rfl|rfl
   ·rw [if_pos rfl] at h3 ⊢;rw [if_neg h3];exact ⟨rfl,rfl⟩
   ·rw [if_neg (show ¬((1:Nat)=0) by omega)] at h3 ⊢;rw [if_pos (h1 ab)];exact ⟨rfl,rfl⟩
  ·simp only [bne_eq_false_iff_eq] at h3;have:k=0\/k=1:=by simp at h;omega
   rcases this with rfl|rfl
   ·rw [if_pos rfl] at h3;exact ⟨n-1,by omega,rfl,1,by omega,by omega,λ_=>h3,by omega⟩
   ·rw [if_neg (show ¬((1:Nat)=0) by omega)] at h3;exact ⟨n-1,by omega,rfl,2,by omega,by omega,λ_=>h1 ab,λ_=>h3⟩
 ·have:k=2:=by simp at h;omega
  subst this;rw [if_pos (h1 ab),h2 ab];exact ⟨rfl,rfl⟩
def GW(x y:It)(w:World):ah 289 #[.agg (fV x).toArray,.agg (fV y).toArray] w λe w'=>(∃z:Int,e=z/\(z<0 ↔ x.1<=y.1))/\Ext w w':=by
 apply yr.vc;intro w0 e0 w1 e1;have x1:Ext w w1:=by rw [e1,e0];exact (Ext.al _ _).tr (Ext.al _ _)
 refine (L2 x.1 y.1 _).mono ?_;intro e w2 hh;obtain ⟨rfl,ew⟩:=hh;have x2:Ext w w2:=by rw [ew];exact x1
 refine ⟨_,rfl,by rw [ew],by rw [ew],?_⟩;intro w4 e4;have x4:Ext w w4:=x2.bF e4;have dy:Row w4 w2 [.int .i64 (if x.1<y.1 then -1 else if y.1<x.1 then 1 else 0),(-1:Int)] 3:=by rw [e4];exact Row.new w2 [_,_] _
 refine (abZ _ _ _ _ dy).mono ?_;intro e w5 hh;obtain ⟨rfl,ew5⟩:=hh;refine ⟨_,rfl,by rw [ew5],by rw [ew5],⟨_,rfl,?_⟩,by rw [ew5];exact x4⟩;by_cases h1:x.1<y.1
 ·rw [if_pos h1];simp;omega
 ·by_cases h2:y.1<x.1
  ·rw [if_neg h1,if_pos h2];simp;omega
  ·rw [if_neg h1,if_neg h2];simp;omega
def fG(l:List It):∀r ∈ l.map fV,r.length=4:=by intro r hr;obtain ⟨x,_,rfl⟩:=aW.1 hr;rfl
def kU(l:List It):∀r ∈ l.map fV,One r:=by intro r hr;obtain ⟨x,_,rfl⟩:=aW.1 hr;intro u hu;simp at hu;rcases hu with rfl|rfl|rfl|rfl<;>rfl
def sq(x:It):One (fV x):=by intro u hu;simp at hu;rcases hu with rfl|rfl|rfl|rfl<;>rfl
def Jr(l:List It)(i:Nat):(l.map fV).flatten.take (i*4)=((l.take i).map fV).flatten:=by
 have hw:=fG (l.take i);rcases jD i l.length with h|h
 ·conv=>lhs;rw [<-qZ i l,bW,CN]
  rw [Fe (by rw [bJ hw];simp;omega)]
 ·rw [fN h,fN];rw [bJ (fG l)];simp;omega
def Jt(l:List It)(i:Nat):(l.map fV).flatten.drop (i*4)=((l.drop i).map fV).flatten:=by
 rcases jD i l.length with h|h
 ·conv=>lhs;rw [<-qZ i l,bW,CN]
  rw [List.drop_left' (by rw [bJ (fG _)];simp;omega)]
 ·rw [Js h,Js]
  ·rfl
  ·rw [bJ (fG l)];simp;omega
def Fg{cs:LV}{l:List It}{n:Nat}(ht:cs.take (n*4)=(l.map fV).flatten)(hn:n=l.length)(i j:Nat)(hj:j<((l.drop i).map fV).flatten.length):cs[i*4+j]? =((l.drop i).map fV).flatten[j]? :=by rw [<-Jt,wH,<-ht,qX,if_pos];rw [bJ (fG _)] at hj;simp at hj;omega
set_option maxRecDepth 100000 in
def Il{w:World}{g g':Nat}{x cs:LV}(hx:Row w g x cJ)(hr:Row w g' cs cJ)(jh:g≠g')(hc:cs.length≠0)(o:Nat)(la ca lb cb:Nat){R:Ending->World->Prop}(h:R (.returned (.bool false)) w):
  aaG Tryz.prog 306 [.slice (aB g) la ca,.slice (dC g' o) lb cb] w R:=by
 refine ⟨_,⟨_,rfl,by kernel_rfl,by kernel_rfl,by kernel_rfl⟩,_,_,Lib.run_overlaps_apart w 153 0 cJ (by kernel_rfl) 4 (λw=>by kernel_rfl) ⟨g,0,none⟩ ⟨g',o,none⟩ la ca lb cb jh cJ cJ x.length cs.length ?_ ?_ hc ?_ ?_,h⟩
 ·simp [World.shape?,show w.heap[g]? =_ from hx]
 ·simp [World.shape?,show w.heap[g']? =_ from hr]
 ·simp [World.frozen?,show w.heap[g]? =_ from hx]
 ·simp [World.frozen?,show w.heap[g]? =_ from hx]
def Gl{w:World}{g g':Nat}{x cs:LV}(hx:Row w g x cJ)(hr:Row w g' cs cJ)(jh:g≠g')(hc:cs.length≠0){p:Option Addr}{o:Nat}(hp:p=some ⟨g',o,none⟩)(la ca lb cb:Nat){R:Ending->World->Prop}(h:R (.returned (.bool false)) w):
  aaG Tryz.prog 306 [.slice (aB g) la ca,.slice p lb cb] w R:=by
 subst hp;exact Il hx hr jh hc o la ca lb cb h
def CM(n:Nat):bo [aa,aa,aa,aa] n=((List.replicate n ((0,0,0,0):It)).map fV).flatten:=by unfold bo;simp
def O0{w:World}{s:Sl}{l:List It}{i g:Nat}{x:It}(ho:aE 0 cJ 4 w s (l.map fV))(hx:Row w g (fV x) cJ)(hi:i<=l.length)(hl:l.length<=5000)(jh:s.bf≠some g):
  ah 292 #[s,(i:Int),.slice (aB g) 1 1] w λe w'=>∃s':Sl,e=Value.slice s'.a s'.n s'.c/\aE 0 cJ 4 w' s' ((l.take i++x::l.drop i).map fV)/\Mod (λb=>s.bf=some b) w w'/\(∀b,s'.bf=some b->s.bf=some b\/w.heap.size<=b):=by
 have hn:s.n=l.length:=by rw [(ho.rd aF).n,aN]
 apply yt.vc (a2:=⟨aB g,1,1⟩);have Zk:ao (((s.n:Nat):Int)+((1:Nat):Int))=((s.n+1:Nat):Int):=by rw [wI];omega
 have Cu:ao ((i:Int)+((1:Nat):Int))=((i+1:Nat):Int):=by rw [wI];omega
 have Re:ao (((s.n+1:Nat):Int)-(i:Int))=((s.n+1-i:Nat):Int):=by rw [wI];omega
 have hw4:ao ((s.n+1-i:Nat):Int)=((s.n+1-i:Nat):Int):=wI;have hrx:Rd w (aB g) (fV x):=hx.rd0 λj hj=>rfl
 dsimp only;rw [Zk,Cu,Re,hw4];simp only [dQ,Nat.sub_zero,eF];refine ⟨by omega,by omega,Br.mk (λh=>by cases h) (λ_=>Br.mk (λh=> ?_) (λh=> ?_))⟩
 ·
  have he:i=l.length:=by simp at h;omega
  obtain ⟨hp,hr⟩:=ho.append (bytes:=32) (news:=fV x) (g7 _) rfl (sq x) ab ab;refine ⟨fV x,hrx,hp,λs' w' bk=> ?_⟩;obtain ⟨h1,h2,h3,h4,h5⟩:=hr s' w' bk;refine ⟨s',rfl,?_,Mod.xt h3 h4,?_⟩
  ·rw [he,iR,List.drop_length,bW];exact h1
  ·intro b hb;rcases h5 with h5|h5
   ·exact .inl (h5▸hb)
   ·rw [h5] at hb;cases hb;exact .inr (aC _)
 ·have iC:i<l.length:=by
   have:i≠l.length:=λe=>by subst e;simp [hn] at h
   omega
  rcases ho.form aF with ⟨hs,D6⟩|⟨g0,cs,ha,hg0,hr,hc,Qn,ht,hn'⟩
  ·have:l=[]:=by simpa using D6
   subst this;simp at iC
  have ahd:g0≠g:=λe=>jh (by unfold Sl.bf;rw [ha,e];rfl)
  have iG:s.bf=some g0:=by unfold Sl.bf;rw [ha];rfl
  have xi:cs.take (i*4)=((l.take i).map fV).flatten:=by rw [<-Jr,<-ht,List.take_take,Nat.min_eq_left ab]
  rw [ha];apply Br.mk<;>intro h2
  ·
   replace h2:=nA h2;have alk:aE 0 cJ 4 w ⟨aB g0,i,s.c⟩ ((l.take i).map fV):=aE.jI (g7 _) hr hc ab xi (fG _);obtain ⟨hp,-⟩:=alk.H2 (bytes:=32) (more:=(List.replicate (s.n+1-i) ((0,0,0,0):It)).map fV) (g7 _) (fG _) (kU _) (by simp;omega) (by simp;omega);have dN:((List.replicate (s.n+1-i) ((0,0,0,0):It)).map fV).length=s.n+1-i:=by simp
   rw [dN] at hp;rw [CM];refine ⟨by omega,by omega,⟨by omega,trivial,by omega⟩,hp,λs3 w4 bk=> ?_⟩;generalize hz:((List.replicate (s.n+1-i) ((0,0,0,0):It)).map fV).flatten=zs at bk;have Q1:zs.length=(s.n+1-i)*4:=by rw [<-hz,bJ (fG _)];simp
   cases bk with
   |fits hf=>simp only at hf;omega
   |CE hg fI rest cap q1 q2 q3 q4=>
    simp only at q1 q2 q3;have Hk:fI=cs.take (i*4):=by
     refine Wi q2 (hr.rd0 (vs:=cs.take (i*4)) λj hj=> ?_) ?_
     ·rw [dK] at hj;rw [qX,if_pos ab]
     ·rw [q1,dK];omega
    have hR:Row (w.drew.alloc (.cells (fI++zs++rest).toArray cJ)) w.heap.size (fI++zs++rest) cJ:=Row.new w.drew _ _;generalize aw1:w.drew.alloc (.cells (fI++zs++rest).toArray cJ)=w4 at hR;have x4:Ext w w4:=by rw [<-aw1];exact (Ext.dr w).tr (Ext.al _ _)
    have hr4:=hr.ext x4;have hlt0:=hr.lt;have hn3:i+(s.n+1-i)=s.n+1:=by omega
    have hCl:(s.n+1)*4<=(fI++zs++rest).length:=by rw [q4];exact wJ _ ab
    dsimp only;rw [hn3];have hx4:=hx.ext x4;have pw:((l.drop i).map fV).flatten.length=(s.n-i)*4:=by rw [bJ (fG _)];simp;omega
    have hm1:min 1 (s.n+1-i)*4=4:=by
     have:min 1 (s.n+1-i)=1:=by omega
     rw [this]
    have Mz:min (s.n-i) (s.n+1-(i+1))=s.n-i:=by omega
    obtain ⟨p1,p2,p3⟩:=hR.aaa (vs:=fV x) (l:=i) (m:=cap) (size:=4) (by intro e;omega) (by simp;omega) (sq x);refine ⟨by omega,by omega,fV x,⟨hm1.symm,hx4.rd0 λj hj=>rfl,sq x,p1⟩,?_⟩;intro w6 e6;rw [<-e6] at p2 p3;have hr6:Row w6.drew g0 cs cJ:=(p3.row hr4 ab).ext (Ext.dr _);have p2':Row w6.drew w _ cJ:=p2.ext (Ext.dr _);obtain ⟨u1,u2,u3⟩:=p2'.aaa (vs:=((l.drop i).map fV).flatten) (l:=i+1) (m:=cap) (size:=4) (by intro e;rw [Js ab];rfl) (by rw [pw,Go.Vc.dz];omega) (fX (kU _));refine ⟨by omega,by omega,by omega,by omega,((l.drop i).map fV).flatten,⟨by rw [Mz,pw],hr6.aiR (by intro e;rw [Js ab];rfl) (Fg ht hn i),fX (kU _),u1⟩,?_⟩;intro w8 e8;rw [<-e8] at u2 u3;refine ⟨⟨aB w.heap.size,s.n+1,cap⟩,rfl,aE.jI (g7 _) u2 (by rw [Go.Vc.dz,Go.Vc.dz,q4];exact aC _) ab ?_ (fG _),?_,?_⟩
    ·rw [abN (by simp;omega) (by rw [pw];omega) hCl,gK,gK,Fe (by rw [q1]),Hk,xi];simp
    ·refine ((Mod.aH x4).tr p3 (λb hb=> .inr ab)).tr (F':=λb=>b=w.heap.size) ?_ (λb hb=> .inr ab);exact (Mod.aH (Ext.dr _)).trans u3
    ·intro b hb;have:w.heap.size=b:=by simpa [Sl.bf] using hb
     exact .inr ab
  ·
   replace h2:=nN h2;have hCl:(s.n+1)*4<=cs.length:=gx (wJ _ ab) hc;have pw:((l.drop i).map fV).flatten.length=(s.n-i)*4:=by rw [bJ (fG _)];simp;omega
   refine ⟨by omega,by omega,by omega,by omega,?_⟩;refine Gl hx hr (Ne.symm ahd) ab (by rw [sC,if_neg ab]) _ _ _ _ ⟨_,rfl,Br.mk (λ_=> ?_) (λh=>by cases h)⟩;have Mz:min (s.n+1-i) (s.n+1-(i+1))=s.n-i:=by omega
   have hm1:min 1 (s.n+1-i)*4=4:=by
    have:min 1 (s.n+1-i)=1:=by omega
    rw [this]
   have hr':=hr.ext (Ext.dr w);obtain ⟨u1,u2,u3⟩:=hr'.aaa (vs:=((l.drop i).map fV).flatten) (l:=i+1) (m:=s.c) (size:=4) (by intro e;omega) (by rw [pw];omega) (fX (kU _));refine ⟨by omega,by omega,by omega,by omega,((l.drop i).map fV).flatten,⟨by rw [Mz,pw],hr'.aiR (by intro e;omega) (Fg ht hn i),fX (kU _),u1⟩,?_⟩;intro dj Q9;rw [<-Q9] at u2 u3;obtain ⟨p1,p2,p3⟩:=u2.aaa (vs:=fV x) (l:=i) (m:=s.c) (size:=4) (by intro e;omega) (by rw [Go.Vc.dz];simp;omega) (sq x);have aw2:Row dj g (fV x) cJ:=u3.row (hx.ext (Ext.dr w)) (Ne.symm ahd);refine ⟨by omega,by omega,fV x,⟨hm1.symm,aw2.rd0 λj hj=>rfl,sq x,p1⟩,?_⟩;intro bO vH;rw [<-vH] at p2 p3;refine ⟨⟨aB g0,s.n+1,s.c⟩,rfl,aE.jI (g7 _) p2 (by rw [Go.Vc.dz,Go.Vc.dz];exact hc) ab ?_ (fG _),?_,?_⟩
   ·rw [XW (by simp;omega) (by rw [pw];omega) hCl,xi];simp
   ·refine (((Mod.aH (Ext.dr w)).trans u3).trans p3).mono λb _ hb=> ?_
    rw [iG,hb]
   ·intro b hb;exact .inl (iG.trans hb)
def RdK.item{w:World}{s:Sl}{l:List It}(h:RdK w s 4 (l.map fV)){i:Nat}{x:It}(hi:l[i]? =some x):af w (ae s.a (i*4)) 0 (fV x):=
 h.bY (by rw [aR,hi];rfl)
def aa8{w:World}{s:Sl}{l:List It}(x:It)(h:RdK w s 4 (l.map fV))(hs:l.Pairwise λa b=>a.1<=b.1)(hl:l.length<=5000):
  ah 288 #[s,.agg (fV x).toArray,.func (.func 289) #[] #[]] w λe w'=>(∃b,e=Value.tuple #[.int .i64 ((l.takeWhile λy=>y.1<=x.1).length:Nat),.bool b])/\Ext w w':=by
 have hn:s.n=l.length:=by rw [h.n,aN]
 apply nc.vc;intro w0 e0;have x0:=aQ e0;have QY:w0.heap.size=w.heap.size+1:=by rw [e0];simp [World.alloc_eq]
 have hk:(l.takeWhile λy=>decide (y.1<=x.1)).length<=l.length:=(List.takeWhile_sublist _).length_le;generalize hkk:(l.takeWhile λy=>decide (y.1<=x.1)).length=k at hk;have HR:∀{i:Nat} {y:It},l[i]? =some y->(i<k ↔ y.1<=x.1):=λhi=>by rw [<-hkk];exact Aj hs x.1 hi
 refine ⟨λn a b wr=>Ext w0 wr/\∃lo hi:Nat,a=lo/\b=hi/\lo<=k/\k<=hi/\hi<=l.length/\n=hi-lo,⟨_,rfl,Ext.cM _,0,s.n,rfl,rfl,g7 _,by omega,by omega,rfl⟩,?_⟩;rintro n us a b wr ⟨xr,lo,hi,rfl,rfl,h1,h2,h3,rfl⟩;refine Br.mk (λiC=> ?_) (λTL=> ?_)<;>simp only [cN,fm] at*
 ·rw [ajE ab];have apq:(lo+hi) / 2<l.length:=by omega
  have gu:l[(lo+hi) / 2]? =some l[(lo+hi) / 2]:=dm apq;generalize l[(lo+hi) / 2]=y at gu;have hr:=(h.ext (x0.tr xr)).ext (Ext.dr wr);have YQ:=xr.size;refine ⟨⟨?_,by omega,by omega⟩,y.1,y.2.1,y.2.2.1,y.2.2.2,RdK.item hr gu,?_⟩
  ·exact h.isSome aF (i:=(lo+hi) / 2) (by simpa using apq)
  refine cX (by kernel_rfl) rfl ((GW y x _).mono ?_);rintro e w2 ⟨⟨z,rfl,hz⟩,x2⟩;have hz':=(HR gu).trans hz.symm;have x3:=(xr.tr (Ext.dr wr)).tr x2;refine ⟨z,rfl,(x2.heap ?_),Br.mk (λhb=> ?_) (λhb=> ?_)⟩
  ·show w.heap.size<wr.heap.size;omega
  ·replace hb:=nA hb;have:=hz'.2 hb;have hw:ao ((((lo+hi) / 2:Nat):Int)+1)=(((lo+hi) / 2+1:Nat):Int):=by rw [wI];omega
   rw [hw];exact ⟨_,by omega,trivial,x3,(lo+hi) / 2+1,hi,rfl,rfl,by omega,h2,h3,rfl⟩
  ·replace hb:=nN hb;have:¬(lo+hi) / 2<k:=λh=>hb (hz'.1 h)
   exact ⟨_,by omega,trivial,x3,lo,(lo+hi) / 2,rfl,rfl,h1,by omega,by omega,rfl⟩
 ·have:lo=k:=by omega
  subst this;have hr:=(h.ext (x0.tr xr)).ext (Ext.dr wr);have YQ:=xr.size;refine Br.mk (λhb=> ?_) (λhb=>⟨⟨_,rfl⟩,x0.tr (xr.tr (Ext.dr _))⟩);replace hb:=nA hb;have gu:l[lo]? =some (l[lo]'ab):=dm ab;generalize l[lo]'ab=y at gu;refine ⟨⟨h.isSome aF (i:=lo) (by simp;omega),by omega,by omega⟩,y.1,y.2.1,y.2.2.1,y.2.2.2,RdK.item hr gu,?_⟩;refine cX (by kernel_rfl) rfl ((GW y x _).mono ?_);rintro e w2 ⟨⟨z,rfl,hz⟩,x2⟩;refine ⟨z,rfl,x2.heap (show w.heap.size<wr by omega),⟨_,rfl⟩,(x0.tr (xr.tr (Ext.dr wr))).tr x2⟩
def Ff(x:It){b:Nat}{c:Cl}{w:World}(hb:Row w b (eg c) zf):ah 287 #[.agg (fV x).toArray,b] w λe w'=>e=Value.bool (x.2==c)/\Ext w w':=by apply yq.vc;intro w0 e0;have x0:=aQ e0;exact ⟨c.1,c.2.1,c.2.2,(hb.ext x0).bY (λj hj=>by rw [eK]),rfl,x0⟩
def xA{w:World}{s:Sl}{l:List It}{b:Nat}{c:Cl}(h:RdK w s 4 (l.map fV))(hb:Row w b (eg c) zf)(hl:l.length<=5000):
  ah 304 #[s,.func (.func 287) #[] #[b]] w λe w'=>(∃i:Int,e=i/\((i= -1/\∀x ∈ l,x.2≠c)\/∃k:Nat,i=k/\k<l.length/\(∀x ∈ l.take k,x.2≠c)/\∀x,l[k]? =some x->x.2=c))/\Ext w w':=by
 have hn:s.n=l.length:=by rw [h.n,aN]
 apply ua.vc;refine ⟨λn a wr=>Ext w wr/\∃k:Nat,a=k/\k+n=l.length/\(∀x ∈ l.take k,x.2≠c),⟨l.length,Ext.cM _,0,rfl,by omega,by simp⟩,?_⟩;rintro n us a wr ⟨xr,k,rfl,h1,h2⟩;refine Br.mk (λiC=> ?_) (λTL=> ?_)<;>simp only [cN,fm] at*
 ·have gu:l[k]? =some (l[k]'ab):=dm ab;generalize l[k]'ab=y at gu;refine ⟨⟨h.isSome aF (i:=k) (by simp;omega),by omega,by omega⟩,y.1,y.2.1,y.2.2.1,y.2.2.2,RdK.item (h.ext xr) gu,?_⟩;refine cX (by kernel_rfl) rfl ((Ff y (hb.ext xr)).mono ?_);rintro e w2 ⟨rfl,x2⟩;refine ⟨_,rfl,Br.mk (λhb=> ?_) (λhb=> ?_)⟩
  ·refine ⟨⟨_,rfl,.inr ⟨k,rfl,by omega,h2,λx hx=> ?_⟩⟩,xr.tr x2⟩;rw [gu] at hx;cases hx;simpa using hb
  ·have hw:=nS (j:=k);rw [hw];refine ⟨n-1,by omega,xr.tr x2,k+1,rfl,by omega,λx hx=> ?_⟩;rw [dR,gu] at hx;rcases cV.1 hx with hx|hx
   ·exact h2 x hx
   ·simp at hx;subst hx;simpa using hb
 ·refine ⟨⟨_,rfl,.inl ⟨rfl,?_⟩⟩,xr⟩;rw [fN ab] at h2;exact h2
def Fc{w:World}{s:Sl}{l:List It}(ho:aE 0 cJ 4 w s (l.map fV)){i:Nat}(hi:i<=l.length):
  Wr w (aJ s.a i s.c 4) ((s.n-i)*4)/\∀w',w'=aL w (aJ s.a i s.c 4) (bo [aa,aa,aa,aa] (s.n-i))->
   aE 0 cJ 4 w' ⟨s.a,i,s.c⟩ ((l.take i).map fV)/\Mod (λb=>s.bf=some b) w w':=by
 have hn:s.n=l.length:=by rw [(ho.rd aF).n,aN]
 rw [CM];rcases ho.form aF with ⟨hs,D6⟩|⟨g0,cs,ha,hg0,hr,hc,Qn,ht,hn'⟩
 ·have:l=[]:=by simpa using D6
  subst this;have:i=0:=by simpa using hi
  subst this;subst hs;refine ⟨λj hj=>by simp at hj,λw' e=> ?_⟩;have:w'=w:=by rw [e];rfl
  subst this;exact ⟨aE.nil,Mod.refl _ _⟩
 ·have iG:s.bf=some g0:=by unfold Sl.bf;rw [ha];rfl
  have Q1:((List.replicate (s.n-i) ((0,0,0,0):It)).map fV).flatten.length=(s.n-i)*4:=by rw [bJ (fG _)];simp
  have hcl:s.n*4<=cs.length:=gx (wJ _ Qn) hc;rw [ha];have hz0:s.c=i->((List.replicate (s.n-i) ((0,0,0,0):It)).map fV).flatten=[]:=λe=>by
   have:s.n-i=0:=by omega
   rw [this];rfl
  obtain ⟨p1,p2,p3⟩:=hr.aaa (l:=i) (m:=s.c) (size:=4) hz0 (by rw [Q1];omega) (fX (kU _));rw [Q1] at p1;refine ⟨p1,λw' e=> ?_⟩;rw [<-e] at p2 p3;refine ⟨aE.jI (g7 _) p2 (by rw [Go.Vc.dz];exact hc) ab ?_ (fG _),p3.mono λb _ hb=>by rw [iG,hb]⟩;rw [dt _ _ _ (by rw [Q1];omega),gK,Fe (by rw [dK];omega),<-Jr,<-ht,List.take_take,Nat.min_eq_left ab]
def aab{w:World}{s:Sl}{l:List It}(ho:aE 0 cJ 4 w s (l.map fV)){i:Nat}(hi:i<l.length)(x:It):
  (ae s.a (i*4)).isSome=true/\Wr w (ae s.a (i*4)) 4/\∀w',w'=aL w (ae s.a (i*4)) (fV x)->aE 0 cJ 4 w' s ((l.set i x).map fV)/\Mod (λb=>s.bf=some b) w w':=by
 obtain ⟨h1,h2,h3,h4,h5⟩:=ho.put (i:=i) (r:=fV x) (by simpa using hi) aF rfl (sq x);refine ⟨h1,h2,λw' e=> ?_⟩;subst e;exact ⟨by rw [jC];exact h3,h4.os,h4.tape,h4.output,h4.size,λj _ hn=>h5 j hn⟩
def Dt{w:World}{s:Sl}{l:List It}{b:Nat}{c:Cl}(ho:aE 0 cJ 4 w s (l.map fV))(hb:Row w b (eg c) zf)(hl:l.length<=5000):
  ah 286 #[s,.func (.func 287) #[] #[.pointer (some ⟨b,0,none⟩)]] w λe w'=>∃s':Sl,e=s'/\aE 0 cJ 4 w' s' ((g9 l c).map fV)/\Mod (λb=>s.bf=some b) w w'/\s'.bf=s.bf:=by
 have hn:s.n=l.length:=by rw [(ho.rd aF).n,aN]
 have Q3:s.bf≠some b:=λe=>by
  rcases ho.form aF with ⟨hs,D6⟩|⟨g0,cs,ha,hg0,hr,hc,Qn,ht,hn'⟩
  ·rw [hs] at e;cases e
  ·have:g0=b:=by unfold Sl.bf at e;rw [ha] at e;simpa using e
   exact hr.ne hb aF this
 apply sr.vc;refine (xA (ho.rd aF) hb hl).mono ?_;rintro e w1 ⟨⟨i,rfl,hi⟩,x1⟩;refine ⟨i,rfl,Br.mk (λh=> ?_) (λh=> ?_)⟩
 ·have hm:i= -1:=by simpa using h
  rcases hi with ⟨-,rO⟩|⟨k,hk,-⟩
  ·refine ⟨s,rfl,?_,Mod.aH x1,rfl⟩;have:g9 l c=l:=by unfold g9;rw [MZ];intro x hx;simpa using rO x hx
   rw [this];exact ho.ext x1
  ·omega
 ·have hm:i≠-1:=by simpa using h
  rcases hi with ⟨hi,-⟩|⟨k,rfl,hk,asJ,hkc⟩
  ·exact absurd hi hm
  have hw:=nS (j:=k);have hq:g9 (l.take (k+1)) c=l.take k:=by
   unfold g9;rw [dR,qc];have e1:(l.take k).filter (λx=>x.2 !=c)=l.take k:=by rw [MZ];intro x hx;simpa using asJ x hx
   have gu:l[k]? =some (l[k]'hk):=dm hk;have:=hkc _ gu;rw [e1,gu];simp [this]
  refine ⟨λn a d wr=>Mod (λb=>s.bf=some b) w wr/\∃(j m:Nat)(l':List It),a=j/\d=m/\j+n=l.length/\m<j/\m=(g9 (l.take j) c).length/\aE 0 cJ 4 wr s (l'.map fV)/\l'.length=l.length/\l'.take m=g9 (l.take j) c/\l'.drop j=l.drop j,⟨l.length-(k+1),Mod.aH x1,k+1,k,l,hw,rfl,by omega,by omega,?_,ho.ext x1,rfl,hq.symm,rfl⟩,?_⟩
  ·rw [hq,dK];omega
  rintro n us a d wr ⟨qE,j,m,l',rfl,rfl,h1,h2,h3,ho',h4,h5,h6⟩;have hbr:Row wr b (eg c) zf:=qE.row hb Q3;refine Br.mk (λiC=> ?_) (λTL=> ?_)
  ·replace iC:=nA iC;have gu:l[j]? =some (l[j]'ab):=dm ab;generalize l[j]'ab=y at gu;have ang:l'[j]? =some y:=by have:=congrArg (λq:List It=>q[0]?) h6;simpa [wH,gu] using this
   refine ⟨⟨(ho'.rd aF).isSome aF (i:=j) (by simp;omega),by omega,by omega⟩,y.1,y.2.1,y.2.2.1,y.2.2.2,RdK.item (ho'.rd aF) ang,?_⟩;intro bK Hl bO vH;have bI:Ext wr bO:=(Ext.cM wr|>.bF Hl).ag vH (aC _);have aj7:wr.heap.size<bO:=by rw [vH,setRow_size,Hl];simp
   refine cX (by kernel_rfl) rfl ((Ff y (hbr.ext bI)).mono ?_);rintro e w2 ⟨rfl,x2⟩;have x3:=bI.tr x2;have hwj:=nS (j:=j);have hwm:=nS (j:=m);have hqj:g9 (l.take (j+1)) c=g9 (l.take j) c++(if y.2=c then [] else [y]):=by unfold g9;rw [dR,gu,qc];congr 1;by_cases hy:y.2=c<;>simp [hy]
   refine ⟨_,rfl,x2.heap aj7,Br.mk (λkE=> ?_) (λkE=> ?_)⟩
   ·have hy:y.2≠c:=by simpa using kE
    obtain ⟨p1,p2,p3⟩:=aab (ho'.ext x3) (i:=m) ab y;refine ⟨⟨(ho'.rd aF).isSome aF (i:=m) (by simp;omega),by omega,by omega⟩,⟨p1,p2⟩,?_,?_⟩
    ·rw [c5];intro e;have:=ho'.own.lt (g:=wr.heap.size) e;omega
    ·intro cL AZ;obtain ⟨q1,q2⟩:=p3 cL AZ;rw [hwj,hwm];refine ⟨n-1,by omega,(qE.trans (Mod.aH x3)).trans q2,j+1,m+1,l'.set m y,rfl,rfl,by omega,by omega,?_,q1,by rw [gW,h4],?_,?_⟩
     ·rw [hqj,if_neg hy,dv,<-h3];rfl
     ·rw [hqj,if_neg hy,<-h5,dR,List.take_set_of_le (aC _),pR ab];rfl
     ·rw [List.drop_set_of_lt ab];have:=congrArg (List.drop 1) h6;simpa [List.drop_drop] using this
   ·have hy:y.2=c:=by simpa using kE
    rw [hwj];refine ⟨n-1,by omega,qE.trans (Mod.aH x3),j+1,m,l',rfl,rfl,by omega,by omega,?_,ho'.ext x3,h4,?_,?_⟩
    ·rw [hqj,if_pos hy,q8];exact h3
    ·rw [hqj,if_pos hy,q8];exact h5
    ·have:=congrArg (List.drop 1) h6;simpa [List.drop_drop] using this
  ·replace TL:=nN TL;have hj:j=l.length:=by omega
   have YV:=(ho'.form aF);have Qn:s.n<=s.c:=by
    rcases YV with ⟨hs,-⟩|⟨g0,cs,ha,hg0,hr,hc,Qn,ht,hn'⟩
    ·rw [hs];exact aC _
    ·exact Qn
   obtain ⟨p1,p2⟩:=Fc ho' (i:=m) ab;refine ⟨by omega,by omega,p1,λdH YX=> ?_⟩;obtain ⟨q1,q2⟩:=p2 dH YX;refine ⟨by omega,by omega,⟨s.a,m,s.c⟩,?_,?_,qE.trans q2,rfl⟩
   ·rw [eF];rfl
   ·rw [h5,hj,iR] at q1;exact q1
def M3{w:World}{s:Sl}{l:List It}{n:Nat}(ho:aE 0 cJ 4 w s (l.map fV))(hi:n<=l.length)(hl:l.length<=5000):
  ah 241 #[s,aa,(n:Int)] w λe w'=>∃s':Sl,e=s'/\aE 0 cJ 4 w' s' ((l.drop n).map fV)/\Mod (λb=>s.bf=some b) w w'/\s'.bf=s.bf:=by
 have hn:s.n=l.length:=by rw [(ho.rd aF).n,aN]
 have Qn:s.n<=s.c:=by
  rcases ho.form aF with ⟨hs,-⟩|⟨g0,cs,ha,hg0,hr,hc,Qn,ht,hn'⟩
  ·rw [hs];exact aC _
  ·exact Qn
 apply xB.vc;refine ⟨by omega,by omega,by omega,by omega,by omega,by omega,Br.mk (λh=> ?_) (λh=> ?_)⟩
 ·have:n=0:=by
   have:(0:Int)=n:=by simpa using h
   omega
  subst this;exact ⟨s,rfl,ho,Mod.refl _ _,rfl⟩
 ·have Cd:0<n:=by
   have:(0:Int)≠n:=by simpa using h
   omega
  rcases ho.form aF with ⟨hs,D6⟩|⟨g0,cs,ha,hg0,hr,hc,Qn,ht,hn'⟩
  ·have:l=[]:=by simpa using D6
   subst this;simp at hi;omega
  have iG:s.bf=some g0:=by unfold Sl.bf;rw [ha];rfl
  have pw:((l.drop n).map fV).flatten.length=(s.n-n)*4:=by rw [bJ (fG _)];simp;omega
  have hcl:s.n*4<=cs.length:=gx (wJ _ Qn) hc;have hr':=hr.ext (Ext.dr w);simp only [dQ,Nat.sub_zero,eF,Int.toNat_zero];rw [ha];refine ⟨by omega,by omega,by omega,by omega,((l.drop n).map fV).flatten,?_,?_,?_⟩
  ·exact hr'.aiR (by intro e;rw [Js ab];rfl) (Fg ht hn n)
  ·refine ⟨λ_=> ?_,λh=> ?_,λh=> ?_,pw,fX (kU _)⟩
   ·show Wr _ (ae (aB g0) (0*4)) _;rw [bh];exact hr'.wr (by rw [pw];omega)
   ·simp only at h;omega
   ·simp only at h;omega
  ·intro s1 w2 bk
   cases bk with
   |CE hg=>simp only at hg;omega
   |fits hf=>
    dsimp only;have e0:ae (some (⟨g0,0,none⟩:Addr)) (0*4)=aB g0:=by rw [bh]
    rw [e0];have pH:=hr'.aL (o:=0) (vs:=((l.drop n).map fV).flatten) (by rw [pw];omega) (fX (kU _));have qM:Row (Go.Vc.aL w.drew (aB g0) ((l.drop n).map fV).flatten) g0 (aS cs 0 ((l.drop n).map fV).flatten) cJ:=by rw [pH];exact hr'.set _
    have Mz:Mod (λi=>i=g0) w (Go.Vc.aL w.drew (aB g0) ((l.drop n).map fV).flatten):=by rw [pH];exact (Mod.aH (Ext.dr w)).trans ⟨rfl,rfl,rfl,by rw [setRow_size];exact aC _,λi _ hn=>setRow_other _ _ _ _ hn⟩
    generalize Go.Vc.aL w.drew (aB g0) ((l.drop n).map fV).flatten=w2 at qM Mz;have hz:0+(s.n-n)=s.n-n:=by omega
    rw [hz];have AJ:aE 0 cJ 4 w2 ⟨aB g0,s.n,s.c⟩ ((l.drop n++l.drop (l.length-n)).map fV):=by refine aE.jI (g7 _) qM (by rw [Go.Vc.dz];exact hc) Qn ?_ (fG _);rw [dt _ _ _ (by rw [pw];omega),bW,CN,CO,aac];rw [List.take_append,fN (by rw [pw];omega),pw,eK,<-Jt l (l.length-n),<-ht];congr 1;rw [List.drop_take,hn]
    obtain ⟨p1,p2⟩:=Fc AJ (i:=s.n-n) (by simp;omega);have hnn:((s.n:Nat):Int).toNat-(((s.n-n:Nat):Nat):Int).toNat=s.n-(s.n-n):=by omega
    refine ⟨by omega,by omega,by omega,by omega,p1,λw3 e3=> ?_⟩;obtain ⟨q1,q2⟩:=p2 w3 e3;refine ⟨⟨aB g0,s.n-n,s.c⟩,rfl,?_,?_,iG.symm⟩
    ·rw [Fe (by simp;omega)] at q1;exact q1
    ·refine (Mz.mono λb _ hb=>by rw [iG,hb]).trans (q2.mono λb _ hb=> ?_);have:g0=b:=by simpa [Sl.bf] using hb
     rw [iG,this]
def ja(g m:Nat)(s:Sl):Nat->Prop:=λi=>i=g\/i=m\/s.bf=some i
abbrev BP(q:QS)(s:Sl)(m:Nat):LV:=[.int .i64 q.room,.int .i64 q.lost,.slice s.a s.n s.c,.map (some m)]
def qm(kvs:List (Value × Value))(l:List It):Prop:=(∀c t,(cv c,tv t) ∈ kvs ↔(t,c) ∈ l)/\∀e ∈ kvs,∃c t,e=(cv c,tv t)
structure wX(w:World)(g m:Nat)(s:Sl)(q:QS):Prop where
 row:Row w g (BP q s m) ku
 own:aE 0 cJ 4 w s (q.l.map fV)
 map:∃kvs,cD GC w (some m) kvs/\qm kvs q.l
def wX.dU{w:World}{g m:Nat}{s:Sl}{q:QS}(h:wX w g m s q){b:Nat}{cs:LV}{E:TypeId}(hb:Row w b cs E)(h1:E≠ku)(h2:E≠cJ):¬ja g m s b:=by
 rintro (rfl|rfl|e)
 ·exact hb.ne h.row h1 rfl
 ·obtain ⟨kvs,hm,-⟩:=h.map;exact hb.jK hm rfl
 ·obtain ⟨cs',hr⟩:=bc h.own aF e;exact hb.ne hr h2 rfl
def wX.abl{w:World}{g m:Nat}{s:Sl}{q:QS}(h:wX w g m s q){B E k:Nat}{s':Sl}{rows:List (LV)}(ho:aE B E k w s' rows)(hk:0<k)(h1:E≠ku)(h2:E≠cJ):∀b,s'.bf=some b->¬ja g m s b:=λb hb=>by
 obtain ⟨cs,hr⟩:=bc ho hk hb
 exact h.dU hr h1 h2
def wX.lt{w:World}{g m:Nat}{s:Sl}{q:QS}(h:wX w g m s q):∀i,ja g m s i->i<w.heap.size:=by
 rintro i (rfl|rfl|e)
 ·exact h.row.lt
 ·obtain ⟨kvs,hm,-⟩:=h.map;exact hm.lt
 ·exact (h.own.own.lt e).2
def wX.de{w w':World}{g m:Nat}{s:Sl}{q:QS}(h:wX w g m s q){F:Nat->Prop}(hm:Mod F w w')(hn:∀i,ja g m s i->¬F i):wX w' g m s q:=by obtain ⟨kvs,h1,h2⟩:=h.map;exact ⟨hm.row h.row (hn g (.inl rfl)),hm.iq h.own λb hb=>hn b (.inr (.inr hb)),kvs,hm.map h1 (hn m (.inr (.inl rfl))),h2⟩
def wX.ext{w w':World}{g m:Nat}{s:Sl}{q:QS}(h:wX w g m s q)(x:Ext w w'):wX w' g m s q:=
 h.de (F:=λ_=>False) ⟨x.os,x.tape,x.output,x.size,λi hi _=>x.heap hi⟩ λ_ _ hf=>hf
def wX.yf{w:World}{g m:Nat}{s:Sl}{q:QS}(h:wX w g m s q):g≠m:=by obtain ⟨kvs,hm,-⟩:=h.map;exact h.row.jK hm
def wX.BQ{w:World}{g m:Nat}{s:Sl}{q:QS}(h:wX w g m s q):s.bf≠some m:=λe=>by
 obtain ⟨kvs,hm,-⟩:=h.map
 obtain ⟨cs,hr⟩:=bc h.own aF e
 exact hr.jK hm rfl
def wX.Ly{w:World}{g m:Nat}{s:Sl}{q:QS}(h:wX w g m s q):s.bf≠some g:=λe=>by
 obtain ⟨cs,hr⟩:=bc h.own aF e
 exact hr.ne h.row aF rfl
def qm.look{kvs:List (Value × Value)}{l:List It}(h:qm kvs l)(hn:(l.map (·.2)).Nodup)(c:Cl):Ie kvs (cv c) (tv 0) (tv ((oX l c).getD 0)) (oX l c).isSome:=by
 cases hq:oX l c with
 |some t=>exact .inl ⟨rfl,(h.1 c t).2 (Gq hq)⟩
 |none=>
  refine .inr ⟨rfl,rfl,λe he hk=> ?_⟩;obtain ⟨c',t,rfl⟩:=h.2 e he;exact sM hq (t,c') ((h.1 _ _).1 he) (Gp hk)
open Classical in
def qm.del{kvs:List (Value × Value)}{l:List It}(h:qm kvs l)(c:Cl):qm (Gy kvs (cv c)) (g9 l c):=by
 refine ⟨λc' t=> ?_,λe he=>h.2 e (iI.1 he).1⟩;unfold Gy g9;rw [iI,iI,h.1];refine and_congr_right λ_=> ?_
 rw [bne_iff_ne];refine decide_eq_true_iff.trans ?_;exact not_congr ⟨λe=>Gp e,λe=>by rw [show c'=c from e]⟩
def qm.ins{kvs:List (Value × Value)}{l:List It}(h:qm kvs l){x:It}(hx:∀y ∈ l,y.2≠x.2):qm (xQ kvs (cv x.2) (tv x.1)) (ye l x):=by
 unfold xQ;rw [if_neg]
 ·refine ⟨λc t=> ?_,λe he=> ?_⟩
  ·rw [cV,h.1,Gr,iN];constructor
   ·rintro (h1|h1)
    ·exact .inr h1
    ·obtain ⟨e1,e2⟩:=Prod.mk.inj h1;have:=Gp e1;have h2:t=x.1:=by unfold tv at e2;injection e2
     left;rw [this,h2]
   ·rintro (h1|h1)
    ·right;rw [<-h1]
    ·exact .inl h1
  ·rcases cV.1 he with he|he
   ·exact h.2 e he
   ·rw [iN] at he;exact ⟨_,_,he⟩
 ·rintro ⟨e,he,hk⟩;obtain ⟨c',t,rfl⟩:=h.2 e he;exact hx (t,c') ((h.1 _ _).1 he) (Gp hk)
def qm.perm{kvs:List (Value × Value)}{l l':List It}(h:qm kvs l)(hl:∀x,x ∈ l ↔ x ∈ l'):qm kvs l':=⟨λc t=>(h.1 c t).trans (hl _),h.2⟩
def Gi(room:Int)(w:World):ah 97 #[room] w λe w'=>∃g m,e=Value.pointer (aB g)/\wX w' g m ⟨none,0,0⟩ ⟨min (max room 1) 4096,0,[]⟩/\Ext w w'/\w.heap.size<=g/\w.heap.size<=m:=by
 apply Xz.vc;intro w0 e0 w1 e1;have hm:cD GC w0 (some w.heap.size) []:=by rw [e0];exact cD.new
 have x1:=aQ e1;refine ⟨w0.heap.size,w.heap.size,rfl,⟨?_,aE.nil,[],?_,by simp [qm]⟩,(aQ e0).tr x1,?_,aC _⟩
 ·have:(min (max room 1) 4096)=(if 4096<(if 1>room then 1 else room) then 4096 else (if 1>room then 1 else room)):=by split<;>split<;>omega
  rw [e1,this];exact Row.new w0 [_,_,_,_] _
 ·exact hm.same (x1.heap hm.lt)
 ·rw [e0];simp
def Ew{w:World}{g m:Nat}{s:Sl}{q:QS}(h:wX w g m s q)(hq:Lw q)(c:Cl):ah 262 #[g,cv c] w λe w'=>e=Value.tuple #[.int .i64 ((oX q.l c).getD 0),.bool (oX q.l c).isSome]/\Ext w w':=by apply Gz.vc;intro w0 e0;have x0:Ext w w0.drew:=(Ext.cM w|>.bF e0).drew;have h0:=h.ext x0;obtain ⟨kvs,hm,ht⟩:=h0.map;exact ⟨some m,h0.row.at 3 rfl,GC,kvs,Ah,hm,⟨c,rfl⟩,_,_,ht.look hq.nodup c,rfl,x0⟩
def ja.uJ{g m:Nat}{s s':Sl}{w w':World}(hm:Mod (ja g m s) w w')(hs:∀b,s'.bf=some b->s.bf=some b\/w.heap.size<=b):aM (ja g m s) (ja g m s') w w':=
 ⟨hm,λi hi=>by
  rcases hi with h|h|h
  ·exact .inl (.inl h)
  ·exact .inl (.inr (.inl h))
  ·rcases hs i h with h|h
   ·exact .inl (.inr (.inr h))
   ·exact .inr h⟩
def JQ{w:World}{g m:Nat}{s:Sl}{q:QS}(h:wX w g m s q)(hsort:q.l.Pairwise λa b=>a.1<=b.1)(hl:q.l.length<=4998){x:It}(hx:∀y ∈ q.l,y.2≠x.2):
  ah 264 #[g,.agg (fV x).toArray] w λe w'=>e=po/\∃s',wX w' g m s' {q with l:=ye q.l x}/\aM (ja g m s) (ja g m s') w w':=by
 apply BO.vc;intro w0 e0;have x0:=aQ e0;have QY:=eR e0;have h0:=h.ext (x0.drew);refine ⟨s,h0.row.at 2 rfl,?_⟩;refine (aa8 x (h0.own.rd aF) hsort ab).mono ?_;rintro e w2 ⟨⟨b,rfl⟩,x2⟩;refine ⟨_,b,rfl,x2.heap (show w.heap.size<w0 by omega),?_⟩;have h2:=(h0.ext x2).ext (Ext.dr _);refine ⟨s,h2.row.at 2 rfl,?_⟩;intro w6 e6;have x6:=aQ e6;have h6:=h2.ext x6;have dy:Row w6 w2.drew.heap.size (fV x) cJ:=by rw [e6];exact Row.new _ _ _
 have hz2:=x2.size;have YQ:w.heap.size<w2.drew.heap.size:=kM (show w.heap.size<w0 by omega) hz2;have hk:=(List.takeWhile_sublist (λy:It=>decide (y.1<=x.1)) (l:=q.l)).length_le;have Q3:s.bf≠some w2.drew.heap.size:=λe=>by have:=h2.lt _ (.inr (.inr e));omega
 refine (O0 h6.own dy hk ab Q3).mono ?_;rintro e w7 ⟨s8,rfl,yM,hm8,hs8⟩;have auw:s.bf≠some w.heap.size:=λe=>by have:=h.lt _ (.inr (.inr e));omega
 have x06:Ext w w6:=((x0.drew).tr x2).tr ((Ext.dr _).tr x6);refine ⟨s8,rfl,hm8.same _ (by have:=x6.size;omega) auw,?_⟩;have hr7:Row w7 g (BP q s m) ku:=hm8.row h6.row h6.Ly;obtain ⟨p1,p2⟩:=hr7.kl (j:=2) (v:=.slice s8.a s8.n s8.c) cp rfl;refine ⟨⟨rfl,p1⟩,?_,?_⟩
 ·rw [c5];intro e;have:=h.row.lt;have:g=w.heap.size:=by simpa [bz] using e
  omega
 intro w9 e9;obtain ⟨q1,q2⟩:=p2 w9 e9;have x9:=Ext.dr w9;have hr9:=q1.ext x9;refine ⟨some m,hr9.at 3 rfl,?_⟩;obtain ⟨kvs,adJ,ht⟩:=h6.map;have hmap9:cD GC w9.drew (some m) kvs:=(Mod.aH (F:=λ_=>False) x9).map (q2.map (hm8.map adJ h6.BQ) (Ne.symm h.yf)) cp;refine ⟨GC,kvs,Ah,rfl,hmap9,⟨x.2,rfl⟩,?_⟩;intro bK gJ hmap13;have ak1:=Mod.sI gJ;refine ⟨rfl,s8,⟨?_,?_,_,hmap13,ht.ins hx⟩,ja.uJ ?_ ?_⟩
 ·exact ak1.row hr9 h.yf
 ·have he:=afz q.l x;rw [he] at yM;have hrow8:=λb hb=>bc yM aF (b:=b) hb
  refine ak1.iq ((q2.iq yM λb hb hf=> ?_).ext x9) λb hb hf=> ?_
  ·obtain ⟨cs,hr⟩:=hrow8 b hb;exact hr.ne hr7 aF hf
  ·obtain ⟨cs,hr⟩:=hrow8 b hb;exact hr.jK (hm8.map adJ h6.BQ) hf
 ·refine ((((Mod.aH x06).trans (hm8.mono λb _ hb=> .inr (.inr hb))).trans (q2.mono λb _ hb=> .inl hb)).trans (Mod.aH x9)).trans (ak1.mono λb _ hb=> .inr (.inl hb))
 ·intro b hb;rcases hs8 b hb with h1|h1
  ·exact .inl h1
  ·exact .inr (gx x06.size h1)
def Xh{w:World}{g m:Nat}{s:Sl}{q:QS}(h:wX w g m s q)(hq:Lw q)(c:Cl):
  ah 263 #[g,cv c] w λe w'=>e=Value.bool (oX q.l c).isSome/\∃s',wX w' g m s' {q with l:=g9 q.l c}/\aM (ja g m s) (ja g m s') w w':=by
 apply BR.vc;intro w0 e0;have x0:=aQ e0;have hbox0:Row w0 w (eg c) zf:=by rw [e0];exact Row.new _ _ _
 have h0:=h.ext x0.drew;obtain ⟨kvs,hm,ht⟩:=h0.map;refine ⟨some m,h0.row.at 3 rfl,GC,kvs,Ah,hm,⟨c,rfl⟩,_,_,ht.look hq.nodup c,Br.mk (λhb=> ?_) (λhb=> ?_)⟩
 ·have hn:oX q.l c=none:=by simpa using hb
  refine ⟨by rw [hn];rfl,s,?_,aM.aH x0.drew⟩;have:g9 q.l c=q.l:=by unfold g9;rw [MZ];intro y hy;simpa using sM hn y hy
  rw [this];exact h0
 ·have hsome:(oX q.l c).isSome=true:=by simpa using hb
  have h1:=h0.ext (Ext.dr _);refine ⟨some m,h1.row.at 3 rfl,GC,kvs,Ah,rfl,(Mod.aH (F:=λ_=>False) (Ext.dr _)).map hm cp,⟨c,rfl⟩,?_⟩;intro w9 gJ hmap9;have hm9:=Mod.sI gJ;have hr9:Row w9 g (BP q s m) ku:=hm9.row h1.row h.yf;refine ⟨s,hr9.at 2 rfl,?_⟩;have dN:=hq.len;have hroom:=hq.room;have hbox9:Row w9 w (eg c) zf:=hm9.row (hbox0.ext (Ext.dr _|>.tr (Ext.dr _))) (λe=>by have:w.heap.size=m:=e;have:=h.lt m (.inr (.inl rfl));omega);have ho9:aE 0 cJ 4 w9 s (q.l.map fV):=hm9.iq h1.own λb hb hf=>h1.BQ (by rw [hb];exact congrArg some hf)
  refine (Dt ho9 hbox9 ab).mono ?_;rintro e bg ⟨kg,rfl,agW,ak2,akU⟩;have hsm:s.bf≠some m:=h.BQ;have aoI:Row bg g (BP q s m) ku:=ak2.row hr9 h.Ly;obtain ⟨p1,p2⟩:=aoI.kl (j:=2) (v:=.slice kg.a kg.n kg.c) cp rfl;refine ⟨kg,rfl,⟨rfl,p1⟩,λbK Hl=> ?_⟩;obtain ⟨q1,q2⟩:=p2 bK Hl;refine ⟨by rw [hsome],kg,⟨q1,?_,_,q2.map (ak2.map hmap9 hsm) (Ne.symm h.yf),ht.del c⟩,ja.uJ ?_ ?_⟩
  ·refine q2.iq agW λb hb hf=> ?_
   obtain ⟨cs,hr⟩:=bc agW aF hb;exact hr.ne aoI aF hf
  ·exact (((Mod.aH (x0.drew.drew)).trans (hm9.mono λb _ hb=> .inr (.inl hb))).trans (ak2.mono λb _ hb=> .inr (.inr hb))).trans (q2.mono λb _ hb=> .inl hb)
  ·intro b hb;exact .inl (akU▸hb)
def Oy{w:World}{g m:Nat}{s:Sl}{q:QS}(h:wX w g m s q)(hq:Lw q)(hl:0<=q.lost/\q.lost<=1000000)(c:Cl)(t:Int):
  ah 211 #[g,cv c,t] w λe w'=>e=Value.bool (pF q c t).2/\∃s',wX w' g m s' (pF q c t).1/\aM (ja g m s) (ja g m s') w w':=by
 apply DX.vc;intro w0 e0;have x0:=aQ e0;have QY:=eR e0;have h0:=h.ext x0;have hn:s.n=q.l.length:=by rw [(h.own.rd aF).n,aN]
 have dN:=hq.len;have hroom:=hq.room;have hbg:g<w:=h.row.lt;have hbf:∀{s':Sl} {w1 w':World},w.heap.size<w1->aM (ja g m s) (ja g m s') w1 w'->w'.heap[w.heap.size]? =w1.heap[w.heap.size]? :=λiC ht=>
  ht.mod.same _ iC λhf=>by have:=h.lt _ hf;omega
 refine (Ew h0 hq c).mono ?_;rintro e w1 ⟨rfl,x1⟩;have h1:=h0.ext x1;have jQ:=x0.tr x1;have hz1:w.heap.size<w1:=by have:=x1.size;omega
 refine ⟨_,_,rfl,x1.heap (show w.heap.size<w0 by omega),Br.mk (λhb=> ?_) (λhb=> ?_)⟩
 ·obtain ⟨was,hw⟩:=oE.1 hb;have hg:(oX q.l c).getD 0=was:=by rw [hw];rfl
  rw [hg];refine Br.mk (λhc=> ?_) (λhc=>Br.mk (λ_=> ?_) (λhn=>by rw [hb] at hn;cases hn))
  ·replace hc:=nA hc;have e:pF q c t=(q,false):=by unfold pF;rw [hw];simp [hc]
   rw [e];exact ⟨rfl,s,h1,aM.aH jQ⟩
  ·replace hc:=nN hc;have e:pF q c t=({q with l:=ye (g9 q.l c) (t,c)},true):=by unfold pF;rw [hw];simp [hc]
   rw [e];refine (Xh h1 hq c).mono ?_;rintro e w4 ⟨rfl,s4,h4,t4⟩;refine ⟨_,rfl,hbf hz1 t4,?_⟩;have hq4:=hq.drop c;have hl4:=hq4.len;have hz4:=t4.mod.size;refine (JQ (x:=(t,c)) h4 hq4.sorted (by simp only at hl4 ⊢;omega) (λy hy=>by have:=(iI.1 hy).2;simpa using this)).mono ?_;rintro e w6 ⟨rfl,s6,h6,t6⟩;refine ⟨rfl,t6.mod.same _ ab (λhf=> ?_),rfl,s6,h6,((aM.aH jQ).trans t4).trans t6⟩;rcases t4.sub _ hf with hf|hf
   ·have:=h.lt _ hf;omega
   ·omega
 ·refine Br.mk (λhb'=>by rw [hb] at hb';cases hb') (λ_=> ?_);have hw:oX q.l c=none:=by simpa using hb
  have h1d:=h1.ext (Ext.dr w1);refine ⟨s,h1d.row.at 2 rfl,q.room,h1d.row.at 0 rfl,?_⟩;rw [hn];apply Br.mk<;>intro hc
  ·have hc':((q.l.length:Nat):Int)=q.room:=by simpa using hc
   have e:pF q c t=({q with lost:=q.lost+1},false):=by unfold pF;rw [hw];simp [hc']
   rw [e];obtain ⟨p1,p2⟩:=h1d.row.kl (j:=1) (v:=.int .i64 (ao (q.lost+1))) cp rfl;refine ⟨q.lost,h1d.row.at 1 rfl,⟨rfl,p1⟩,?_,λbP EP=> ?_⟩
   ·rw [c5];intro e;have:g=w.heap.size:=by simpa [bz] using e
    omega
   ·obtain ⟨q1,q2⟩:=p2 bP EP;rw [wI] at q1;obtain ⟨kvs,hm,ht⟩:=h1d.map;refine ⟨rfl,s,⟨q1,q2.iq h1d.own λb hb hf=>h.Ly (by rw [hb];exact congrArg some hf),kvs,q2.map hm (Ne.symm h.yf),ht⟩,(aM.aH jQ.drew).trans (ja.uJ (q2.mono λb _ hb=> .inl hb) λb hb=> .inl hb)⟩
  ·have hc':((q.l.length:Nat):Int)≠q.room:=by simpa using hc
   have e:pF q c t=({q with l:=ye q.l (t,c)},true):=by
    unfold pF;rw [hw];have:¬(q.l.length:Int)>=q.room:=by omega
    simp only;rw [if_neg this]
   rw [e];refine (JQ (x:=(t,c)) h1d hq.sorted ab (sM hw)).mono ?_;rintro e w6 ⟨rfl,s6,h6,t6⟩;exact ⟨rfl,hbf hz1 t6,rfl,s6,h6,(aM.aH jQ.drew).trans t6⟩
def SW{w:World}{s:Sl}{l:List It}(ho:aE 0 cJ 4 w s (l.map fV))(hl:l.length<=5000):
  ah 191 #[s] w λe w'=>∃s':Sl,e=s'/\aE w cJ 4 w' s' (l.map fV)/\Ext w w':=by
 apply Am.vc;have hn:s.n=l.length:=by rw [(ho.rd aF).n,aN]
 apply Br.mk<;>intro h
 ·rcases ho.form aF with ⟨hs,D6⟩|⟨g0,cs,ha,-⟩
  ·exact ⟨⟨none,0,0⟩,rfl,by rw [D6];exact aE.nil,Ext.cM _⟩
  ·rw [ha] at h;cases h
 ·intro w0 e0;have x0:=aQ e0;have QY:=eR e0;have hr0:Row w0 w [] cJ:=by rw [e0];exact Row.new _ _ _
  have AJ:aE w cJ 4 w0 ⟨aB w.heap.size,0,0⟩ []:=aE.jI (aC _) hr0 cp (aC _) rfl cp;obtain ⟨hp,hr⟩:=AJ.H2 (bytes:=32) (more:=l.map fV) x0.size (fG _) (kU _) (by simp;omega) (by simp;omega);rw [aN,<-hn] at hp hr;refine ⟨(l.map fV).flatten,((ho.ext x0).rd aF).flat aF,hp,λs2 w3 bk=> ?_⟩;obtain ⟨h1,h2,h3,h4,h5⟩:=hr s2 w3 bk;refine ⟨pZ bk (by rw [bJ (fG _),aN,hn]) ab,s2,rfl,h1,x0.trans h3⟩
def aa3{w:World}{g m:Nat}{s:Sl}{q:QS}(h:wX w g m s q)(hq:Lw q):ah 138 #[g] w λe w'=>∃s':Sl,e=s'/\aE w cJ 4 w' s' (q.l.map fV)/\Ext w w':=by apply DQ.vc;have:=hq.len;have:=hq.room;refine ⟨s,h.row.at 2 rfl,(SW h.own ab).mono ?_⟩;rintro e w1 ⟨s',rfl,h1,x1⟩;exact ⟨s',rfl,s',rfl,h1,x1⟩
def late{F G M:Prop}(main:(F->G)->M)(fin:F->G):M:=main fin
def abj{w:World}{g m:Nat}{s:Sl}{q:QS}(h:wX w g m s q)(hq:Lw q)(now many:Int):
  ah 172 #[g,now,many] w λe w'=>∃so:Sl,e=Value.slice so.a so.n so.c/\∃s',aE w zf 3 w' so ((Lx q now many).2.map eg)/\wX w' g m s' (Lx q now many).1/\aM (ja g m s) (ja g m s') w w':=by
 have hn:s.n=q.l.length:=by rw [(h.own.rd aF).n,aN]
 have dN:=hq.len;have hroom:=hq.room;have YV:s.n<=s.c:=by
  rcases h.own.form aF with ⟨hs,-⟩|⟨g0,cs,ha,hg0,hr,hc,Qn,-⟩
  ·rw [hs];exact aC _
  ·exact Qn
 have hql:=Xl q.l now many;apply DR.vc;refine ⟨λn x wr=>w=wr/\∃k:Nat,x=k/\k+n=iu q.l now many,⟨iu q.l now many,rfl,0,rfl,by omega⟩,?_⟩;rintro n0 us x wr ⟨rfl,k,rfl,hk⟩;have QQ:k<=q.l.length:=by omega
 apply late (F:=k=iu q.l now many)
 ·intro fin;refine ⟨s,h.row.at 2 rfl,Br.mk (λhc=> ?_) (λhc=> ?_)⟩
  ·replace hc:=nA hc;have gu:q.l[k]? =some (q.l[k]'ab):=dm ab;have HR:=Xk hq now many gu;generalize q.l[k]'ab=y at gu HR;apply Br.mk<;>intro oC
   ·replace oC:=nA oC;have kF:=h.own.rd aF;refine ⟨s,h.row.at 2 rfl,⟨kF.isSome aF (i:=k) (by simp;omega),by omega,by omega⟩,?_⟩;have hsm:(ae s.a ((k:Int).toNat*4)).isSome=true:=by rw [gL];exact kF.isSome aF (i:=k) (by simp;omega)
    refine bB.2 ⟨jj.2 hsm,y.1,?_,Br.mk (λVE=> ?_) (λVE=> ?_)⟩
    ·exact kF.at (i:=k) (r:=fV y) (by rw [aR,gu];rfl) rfl
    ·replace VE:=nA VE;have:=HR.2 ⟨oC,VE⟩;have hw:=nS (j:=k);exact ⟨n0-1,by omega,rfl,k+1,hw,by omega⟩
    ·replace VE:=nN VE;have hkq:k=iu q.l now many:=by
      have:¬k<iu q.l now many:=λiC=>VE (HR.1 iC).2
      omega
     exact fin hkq
   ·replace oC:=nN oC;have hkq:k=iu q.l now many:=by
     have:¬k<iu q.l now many:=λiC=>oC (HR.1 iC).1
     omega
    exact fin hkq
  ·replace hc:=nN hc;have hkq:k=iu q.l now many:=by omega
   exact fin hkq
 ·intro hkq;refine ⟨s,h.row.at 2 rfl,by omega,by omega,by omega,by omega,λn x so wr=>∃j:Nat,x=j/\j+n=k/\Go.Vc.Mod (λi=>i=m) w wr/\aE w zf 3 wr so ((q.l.take j).map λy=>eg y.2)/\∃kvs,cD GC wr (some m) kvs/\qm kvs (q.l.drop j),⟨k,0,rfl,by omega,Go.Vc.Mod.refl _ _,aE.nil,by simpa using h.map⟩,?_⟩;rintro n us x so wr ⟨j,rfl,hj,qE,AT,kvs,adJ,xi⟩;have dy:Row wr g (BP q s m) ku:=qE.row h.row h.yf;have AJ:aE 0 cJ 4 wr s (q.l.map fV):=qE.iq h.own λb hb hf=>h.BQ (by rw [hb];exact congrArg some hf)
  apply Br.mk<;>intro hc
  ·replace hc:=nA hc;have hjl:j<q.l.length:=by omega
   have gu:q.l[j]? =some (q.l[j]'hjl):=dm hjl;generalize q.l[j]'hjl=y at gu;have kF:=AJ.rd aF;refine ⟨⟨?_,by omega,by omega⟩,y.1,y.2.1,y.2.2.1,y.2.2.2,?_,?_⟩
   ·have:=kF.isSome aF (i:=j) (by simp;omega);unfold aJ;split<;>simpa using this
   ·rw [ux];exact RdK.item kF gu
   intro eZ HL dP HI eP VC;have db:=aQ HL;have ef:Ext wr dP:=db.ag HI (aC _);have dG:Ext wr eP:=ef.bF VC;have aBL:dP.heap.size=wr.heap.size+1:=by rw [HI,setRow_size,HL];simp
   have aBM:=eR VC;have hon:so.n=j:=by rw [(AT.rd aF).n,aN,dK];omega
   have hzw:=qE.size;obtain ⟨hp,hr⟩:=(AT.ext dG).append (bytes:=24) (news:=eg y.2) ab rfl (by intro u hu;simp at hu;rcases hu with rfl|rfl|rfl<;>rfl) ab ab;refine ⟨hp,λwE cW bk=> ?_⟩;obtain ⟨h1,h2,h3,h4,h5⟩:=hr wE cW bk;have Q3:∀b,so.bf=some b->b<wr.heap.size:=λb hb=>(AT.own.lt hb).2
   have auW:Go.Vc.Mod (λi=>so.bf=some i) eP cW:=⟨h3.os,h3.tape,h3.output,h3.size,λi hi hn=>h4 i hn hi⟩;have hsm:so.bf≠some m:=λe=>by have h1:=(AT.own.lt e).1;have h2:=h.lt m (.inr (.inl rfl));omega
   refine ⟨h4 _ (λe=>by have:=Q3 _ e;omega) ab,h4 _ (λe=>by have:=Q3 _ e;omega) ab,?_⟩;have Mz:Go.Vc.Mod (λi=>so.bf=some i) wr cW.drew:=((Go.Vc.Mod.aH dG).trans auW).trans (Go.Vc.Mod.aH (Ext.dr _));have hsg:so.bf≠some g:=λe=>by have h1:=(AT.own.lt e).1;have h2:=h.lt g (.inl rfl);omega
   refine ⟨some m,(Mz.row dy hsg).at 3 rfl,GC,kvs,Ah,rfl,Mz.map adJ hsm,⟨y.2,rfl⟩,?_⟩;intro dW gJ hmap29;have aoY:=Go.Vc.Mod.sI gJ;have hwj:=nS (j:=j);rw [hwj];refine ⟨n-1,by omega,j+1,rfl,by omega,(qE.tr Mz (λi hi=> .inr (AT.own.lt hi).1)).trans aoY,?_,_,hmap29,?_⟩
   ·have e:(q.l.take (j+1)).map (λy=>eg y.2)=(q.l.take j).map (λy=>eg y.2)++ [eg y.2]:=by rw [dR,gu,bW];rfl
    rw [e];refine aoY.iq (h1.ext (Ext.dr _)) λb hb hf=> ?_
    have hb':wE.bf=some m:=by rw [hb];exact congrArg some hf
    have:=h.lt m (.inr (.inl rfl));rcases h5 with h5|h5
    ·exact hsm (h5▸hb')
    ·rw [h5] at hb';have:eP.heap.size=m:=by simpa using hb'
     omega
   ·have hd:=xi.del y.2;refine hd.perm λz=> ?_
    have hcons:q.l.drop j=y::q.l.drop (j+1):=by obtain ⟨iC,he⟩:=cG.1 gu;rw [zU iC,he]
    have hnd:((y::q.l.drop (j+1)).map (·.2)).Nodup:=by rw [<-hcons];exact ((List.drop_sublist j q.l).map _).nodup hq.nodup
    rw [hcons];unfold g9;rw [fu,oL] at hnd;constructor
    ·intro hz;obtain ⟨hz1,hz2⟩:=iI.1 hz;rcases cB.1 hz1 with rfl|hz1
     ·simp at hz2
     ·exact hz1
    ·intro hz;refine iI.2 ⟨CU _ hz,?_⟩;have:z.2≠y.2:=λe=>hnd.1 (e▸List.mem_map_of_mem hz)
     simpa using this
  ·replace hc:=nN hc;have hjk:j=k:=by omega
   subst hjk;refine ⟨s,dy.at 2 rfl,(M3 AJ QQ ab).mono ?_⟩;rintro e gf ⟨wA,rfl,agH,ag0,auX⟩;have aoZ:Row gf g (BP q s m) ku:=ag0.row dy h.Ly;obtain ⟨p1,p2⟩:=aoZ.kl (j:=2) (v:=.slice wA.a wA.n wA.c) cp rfl;refine ⟨wA,rfl,⟨rfl,p1⟩,λeT YY=> ?_⟩;obtain ⟨q1,q2⟩:=p2 eT YY;have hso:∀b,so.bf=some b->w.heap.size<=b:=λb hb=>(AT.own.lt hb).1
   refine ⟨so,rfl,wA,?_,?_,?_⟩
   ·unfold Lx;rw [<-hkq,kS];refine q2.iq (ag0.iq AT λb hb hf=> ?_) λb hb hf=> ?_
    ·have:=hso b hb;have:=h.lt b (.inr (.inr hf));omega
    ·have:=hso b hb;have:=h.lt b (.inl hf);omega
   ·unfold Lx;rw [<-hkq];refine ⟨q1,q2.iq agH λb hb hf=> ?_,kvs,q2.map (ag0.map adJ h.BQ) (Ne.symm h.yf),xi⟩;obtain ⟨cs,hr⟩:=bc agH aF hb;exact hr.ne aoZ aF hf
   ·refine ja.uJ (((qE.mono λb _ hb=> .inr (.inl hb)).trans (ag0.mono λb _ hb=> .inr (.inr hb))).trans (q2.mono λb _ hb=> .inl hb)) λb hb=> .inl (auX▸hb)
end Go.Proofs.YtkkkfkopcfdmaaaGreatDoor.Q
