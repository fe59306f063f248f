import Derived.Test.YtalpkjfpmdpbiaaGreatDoorGW
set_option linter.all false
namespace Go.Proofs.YtalpkjfpmdpbiaaGreatDoor
open Go Go.Vc Go.RowKit Go.Proofs
set_option maxRecDepth 100000
set_option maxHeartbeats 8000000
set_option linter.unusedVariables false
variable {R:Ending->World->Prop} {w:World} {a0 a1 a2 a3 a4 a5 a6 a7 a8 a9 aq ar au aI aJ aK aL aH bM eB ao aj aw dO ic jg jh ji gq gY dj dZ dU lg lO nm xO xP xQ xR xS xU xV xW xX xY xZ ya yb yc:Int}
def OO.vc(h:
 ∀w0,w0=w.alloc (.map #[] 0)->
 Aw w0 #[.int .i64 (if 4096<(if 1>a0 then 1 else a0) then 4096 else (if 1>a0 then 1 else a0)),af,.slice none 0 0,.map (some w.heap.size)] 158 λw1=>
 R (Value.pointer (bu w0)) w1):ah 60 #[a0] w R:=
 cq cf Tryz.func60 h
def xG.vc{a0:Addr}(h:
 Aw w #[ao,aj,aw] 23 λw0=>
 ah 131 #[a0,.agg #[ao,aj,aw]] w0 (λe w1=>∃(x2:Int)(b3:Bool),e=Value.tuple #[x2,b3]/\Kp w w0 w1/\
 Br b3
 (Br (x2<=a2)
 (R false w1)
 (Br b3
 (ah 132 #[a0,.agg #[ao,aj,aw]] w1 (Rb λb5 w4=>Kp w w1 w4/\
 ah 133 #[a0,.agg #[a2,ao,aj,aw]] w4 (Rt λw6=>Kp w w4 w6/\
 R true w6)))
 (∃(s7:Sl),ld w1.drew (ae (some a0) 2)=some (.slice s7.a s7.n s7.c)/\
 ∃(x8:Int),ld w1.drew (ae (some a0) 0)=some (.int .i64 x8)/\
 Br ((((s7.n:Nat):Int):Int)==x8)
 (∃(x9:Int),ld w1.drew (ae (some a0) 1)=some (.int .i64 x9)/\
 (true=true/\Wr w1.drew (ae (some a0) 1) 1)/\cQ (ae (some a0) 1)≠some w.heap.size/\(∀bL,bL=aZ w1.drew (ae (some a0) 1) [(ai (x9+1))]->
 R false bL))
 (ah 133 #[a0,.agg #[a2,ao,aj,aw]] w1.drew (Rt λcH=>Kp w w1.drew cH/\
 R true cH)))))
 (Br b3
 (ah 132 #[a0,.agg #[ao,aj,aw]] w1 (Rb λb13 bR=>Kp w w1 bR/\
 ah 133 #[a0,.agg #[a2,ao,aj,aw]] bR (Rt λcm=>Kp w bR cm/\
 R true cm)))
 (∃(jG:Sl),ld w1.drew (ae (some a0) 2)=some (.slice jG.a jG.n jG.c)/\
 ∃(cY:Int),ld w1.drew (ae (some a0) 0)=some (.int .i64 cY)/\
 Br ((((jG.n:Nat):Int):Int)==cY)
 (∃(cP:Int),ld w1.drew (ae (some a0) 1)=some (.int .i64 cP)/\
 (true=true/\Wr w1.drew (ae (some a0) 1) 1)/\cQ (ae (some a0) 1)≠some w.heap.size/\(∀dJ,dJ=aZ w1.drew (ae (some a0) 1) [(ai (cP+1))]->
 R false dJ))
 (ah 133 #[a0,.agg #[a2,ao,aj,aw]] w1.drew (Rt λfD=>Kp w w1.drew fD/\
 R true fD)))))):ah 88 #[a0,.agg #[ao,aj,aw],a2] w R:=
 cq cf Tryz.func88 h
def xB.vc{a0:Addr}(h:
 ∃I0:Nat->Int->World->Prop,
 (∃n1,I0 n1 (0) w)/\
 ∀(n1:Nat)(oX:Nat->Value)(x3:Int)(w4:World),I0 n1 x3 w4->
 ∃(s6:Sl),ld w4 (ae (some a0) 2)=some (.slice s6.a s6.n s6.c)/\
 Br (decide (x3<((s6.n:Nat):Int)))
 (Br (x3<a2)
 (∃(s7:Sl),ld w4 (ae (some a0) 2)=some (.slice s7.a s7.n s7.c)/\
 cB s7.a x3 s7.n/\bn (eQ (ae s7.a ((x3:Int).toNat*4))) (∃(x8:Int),ld w4 (ae (ae s7.a ((x3:Int).toNat*4)) 0)=some (.int .i64 x8)/\
 Br (x8<=a1)
 (∃n5,n5<n1/\I0 n5 ((ai (x3+1))) w4)
 (∃(s9:Sl),ld w4 (ae (some a0) 2)=some (.slice s9.a s9.n s9.c)/\
 (0:Int)<=x3/\x3<=((s9.c:Nat):Int)/\(0:Int)<=x3/\x3<=x3/\∃I10:Nat->Int->Sl->World->Prop,
 (∃wM,I10 wM (0) ⟨none,0,0⟩ w4)/\
 ∀(wM:Nat)(Z5:Nat->Value)(cD:Int)(sw:Sl)(cS:World),I10 wM cD sw cS->
 Br (decide (cD<((((x3:Int).toNat-0):Nat):Int)))
 (cB (aA s9.a (0) ((x3:Int).toNat) 4) cD ((x3:Int).toNat-0)/\∃(cP cn cN dK:Int),av cS (ae (aA s9.a (0) ((x3:Int).toNat) 4) ((cD:Int).toNat*4)) 0 [cP,cn,cN,dK]/\
 Aw cS #[af,af,af,af] 120 λea=>
 Sw ea cS #[cP,cn,cN,dK] λcx=>
 Aw cx #[cn,cN,dK] 23 λgi=>
 aF 24 3 gi sw 1 [cn,cN,dK]/\∀(kL:Sl)(eg:World),aD 23 3 gi sw 1 [cn,cN,dK] kL eg->K2 cS cx gi eg (
 ∃(m26:Option Nat),ld eg.drew (ae (some a0) 3)=some (.map m26)/\
 ∃(G27:Value->Prop)(kvs28:List (Value × Value)),gF Tryz.prog 23 G27/\(m26:Option Nat).isSome=true/\bK G27 eg.drew m26 kvs28/\G27 (.agg #[cn,cN,dK])/\∀fJ:World,Rec ((m26:Option Nat).getD 0) eg.drew fJ->bK G27 fJ m26 (Aj kvs28 (.agg #[cn,cN,dK]))->
 ∃UW,UW<wM/\I10 UW ((ai (cD+1))) kL fJ))
 (∃(gP:Sl),ld cS (ae (some a0) 2)=some (.slice gP.a gP.n gP.c)/\
 ah 90 #[gP,af,x3] cS (λe ig=>∃(iR:Sl),e=iR/\
 (true=true/\Wr ig (ae (some a0) 2) 1)/\(∀lz,lz=aZ ig (ae (some a0) 2) [iR]->
 R sw lz))))))
 (∃(U5:Sl),ld w4 (ae (some a0) 2)=some (.slice U5.a U5.n U5.c)/\
 (0:Int)<=x3/\x3<=((U5.c:Nat):Int)/\(0:Int)<=x3/\x3<=x3/\∃I35:Nat->Int->Sl->World->Prop,
 (∃n36,I35 n36 (0) ⟨none,0,0⟩ w4)/\
 ∀(n36:Nat)(aqP:Nat->Value)(ja:Int)(si:Sl)(iQ:World),I35 n36 ja si iQ->
 Br (decide (ja<((((x3:Int).toNat-0):Nat):Int)))
 (cB (aA U5.a (0) ((x3:Int).toNat) 4) ja ((x3:Int).toNat-0)/\∃(lU ky jF lj:Int),av iQ (ae (aA U5.a (0) ((x3:Int).toNat) 4) ((ja:Int).toNat*4)) 0 [lU,ky,jF,lj]/\
 Aw iQ #[af,af,af,af] 120 λDn=>
 Sw Dn iQ #[lU,ky,jF,lj] λoO=>
 Aw oO #[ky,jF,lj] 23 λuh=>
 aF 24 3 uh si 1 [ky,jF,lj]/\∀(yF:Sl)(xc:World),aD 23 3 uh si 1 [ky,jF,lj] yF xc->K2 iQ oO uh xc (
 ∃(m51:Option Nat),ld xc.drew (ae (some a0) 3)=some (.map m51)/\
 ∃(G52:Value->Prop)(kvs53:List (Value × Value)),gF Tryz.prog 23 G52/\(m51:Option Nat).isSome=true/\bK G52 xc.drew m51 kvs53/\G52 (.agg #[ky,jF,lj])/\∀ye:World,Rec ((m51:Option Nat).getD 0) xc.drew ye->bK G52 ye m51 (Aj kvs53 (.agg #[ky,jF,lj]))->
 ∃Uw,Uw<n36/\I35 Uw ((ai (ja+1))) yF ye))
 (∃(E7:Sl),ld iQ (ae (some a0) 2)=some (.slice E7.a E7.n E7.c)/\
 ah 90 #[E7,af,x3] iQ (λe MX=>∃(Ql:Sl),e=Ql/\
 (true=true/\Wr MX (ae (some a0) 2) 1)/\(∀A8,A8=aZ MX (ae (some a0) 2) [Ql]->
 R si A8)))))
 (∃(LO:Sl),ld w4 (ae (some a0) 2)=some (.slice LO.a LO.n LO.c)/\
 (0:Int)<=x3/\x3<=((LO.c:Nat):Int)/\(0:Int)<=x3/\x3<=x3/\∃Yc:Nat->Int->Sl->World->Prop,
 (∃U7,Yc U7 (0) ⟨none,0,0⟩ w4)/\
 ∀(U7:Nat)(WR:Nat->Value)(lQ:Int)(E3:Sl)(Jp:World),Yc U7 lQ E3 Jp->
 Br (decide (lQ<((((x3:Int).toNat-0):Nat):Int)))
 (cB (aA LO.a (0) ((x3:Int).toNat) 4) lQ ((x3:Int).toNat-0)/\∃(wN yK qG jB:Int),av Jp (ae (aA LO.a (0) ((x3:Int).toNat) 4) ((lQ:Int).toNat*4)) 0 [wN,yK,qG,jB]/\
 Aw Jp #[af,af,af,af] 120 λw71=>
 Sw w71 Jp #[wN,yK,qG,jB] λw72=>
 Aw w72 #[yK,qG,jB] 23 λw73=>
 aF 24 3 w73 E3 1 [yK,qG,jB]/\∀(s74:Sl)(Jj:World),aD 23 3 w73 E3 1 [yK,qG,jB] s74 Jj->K2 Jp w72 w73 Jj (
 ∃(m76:Option Nat),ld Jj.drew (ae (some a0) 3)=some (.map m76)/\
 ∃(G77:Value->Prop)(kvs78:List (Value × Value)),gF Tryz.prog 23 G77/\(m76:Option Nat).isSome=true/\bK G77 Jj.drew m76 kvs78/\G77 (.agg #[yK,qG,jB])/\∀w79:World,Rec ((m76:Option Nat).getD 0) Jj.drew w79->bK G77 w79 m76 (Aj kvs78 (.agg #[yK,qG,jB]))->
 ∃n66,n66<U7/\Yc n66 ((ai (lQ+1))) s74 w79))
 (∃(A7:Sl),ld Jp (ae (some a0) 2)=some (.slice A7.a A7.n A7.c)/\
 ah 90 #[A7,af,x3] Jp (λe wT=>∃(s82:Sl),e=s82/\
 (true=true/\Wr wT (ae (some a0) 2) 1)/\(∀w83,w83=aZ wT (ae (some a0) 2) [s82]->
 R E3 w83))))):ah 46 #[a0,a1,a2] w R:=
 cq ⟨[(6,⟨[(45,.int .i64),(8,.slice)],[],[]⟩),(6,⟨[(45,.int .i64),(8,.slice)],[],[]⟩),(6,⟨[(45,.int .i64),(8,.slice)],[],[]⟩),(2,⟨[(7,.int .i64)],[],[]⟩)],[],[]⟩ Tryz.func46 h
def xE.vc{a0:Addr}(h:
 ∃(s0:Sl),ld w (ae (some a0) 2)=some (.slice s0.a s0.n s0.c)/\
 R (Value.int .i64 ((s0.n:Nat):Int)) w):ah 48 #[a0] w R:=
 cq cf Tryz.func48 h
def OB.vc(h:
 Aw w #[af,af,.slice none 0 0] 36 λw0=>
 Sw w0 w #[.int .i64 (if 4096<(if 1>a0 then 1 else a0) then 4096 else (if 1>a0 then 1 else a0)),af,.slice none 0 0] λw1=>
 R (Value.agg #[.int .i64 (if 4096<(if 1>a0 then 1 else a0) then 4096 else (if 1>a0 then 1 else a0)),af,.slice none 0 0]) w1):ah 84 #[a0] w R:=
 cq cf Tryz.func84 h
def Ak.vc{a0:Addr}(h:
 Aw w #[ao,aj,aw] 23 λw0=>
 ∃(m1:Option Nat),ld w0.drew (ae (some a0) 3)=some (.map m1)/\
 ∃(G2:Value->Prop)(kvs3:List (Value × Value)),gF Tryz.prog 23 G2/\bK G2 w0.drew m1 kvs3/\G2 (.agg #[ao,aj,aw])/\∃(x4:Int),∃b5:Bool,BF kvs3 (.agg #[ao,aj,aw]) (0:Int) x4 b5/\
 R (Value.tuple #[x4,b5]) w0.drew):ah 131 #[a0,.agg #[ao,aj,aw]] w R:=
 cq cf Tryz.func131 h
def vo.vc{a0:Addr}(h:
 Aw w #[ao,aj,aw] 23 λw0=>
 ∃(m1:Option Nat),ld w0.drew (ae (some a0) 3)=some (.map m1)/\
 ∃(G2:Value->Prop)(kvs3:List (Value × Value)),gF Tryz.prog 23 G2/\bK G2 w0.drew m1 kvs3/\G2 (.agg #[ao,aj,aw])/\∃(x4:Int),∃b5:Bool,BF kvs3 (.agg #[ao,aj,aw]) (0:Int) x4 b5/\
 Br (!b5)
 (R false w0.drew)
 (∃(m6:Option Nat),ld w0.drew.drew (ae (some a0) 3)=some (.map m6)/\
 ∃(G7:Value->Prop)(kvs8:List (Value × Value)),gF Tryz.prog 23 G7/\(m6:Option Nat).isSome=true/\bK G7 w0.drew.drew m6 kvs8/\G7 (.agg #[ao,aj,aw])/\∀w9:World,Rec ((m6:Option Nat).getD 0) w0.drew.drew w9->bK G7 w9 m6 (Aj kvs8 (.agg #[ao,aj,aw]))->
 ∃(cL:Sl),ld w9 (ae (some a0) 2)=some (.slice cL.a cL.n cL.c)/\
 ah 177 #[cL,.func (.func 178) #[] #[w]] w9 (λe cH=>∃(eH:Sl),e=eH/\
 (true=true/\Wr cH (ae (some a0) 2) 1)/\(∀cA,cA=aZ cH (ae (some a0) 2) [eH]->
 R true cA)))):ah 132 #[a0,.agg #[ao,aj,aw]] w R:=
 cq cf Tryz.func132 h
def vj.vc{a0:Addr}(h:
 Aw w #[ao,aj,aw,dO] 120 λw0=>
 ∃(s1:Sl),ld w0.drew (ae (some a0) 2)=some (.slice s1.a s1.n s1.c)/\
 ah 179 #[s1,.agg #[ao,aj,aw,dO],.func (.func 180) #[] #[]] w0.drew (λe w2=>∃(x3:Int)(b4:Bool),e=Value.tuple #[x3,b4]/\Kp w w0.drew w2/\
 ∃(s5:Sl),ld w2.drew (ae (some a0) 2)=some (.slice s5.a s5.n s5.c)/\
 Aw w2.drew #[ao,aj,aw,dO] 120 λw6=>
 ah 183 #[s5,x3,.slice (bu w2.drew.heap.size) 1 1] w6 (Rs λs8 w7=>Kp w w6 w7/\
 (true=true/\Wr w7 (ae (some a0) 2) 1)/\cQ (ae (some a0) 2)≠some w.heap.size/\(∀w9,w9=aZ w7 (ae (some a0) 2) [s8]->
 ∃(UP:Option Nat),ld w9.drew (ae (some a0) 3)=some (.map UP)/\
 ∃(G11:Value->Prop)(kvs12:List (Value × Value)),gF Tryz.prog 23 G11/\(UP:Option Nat).isSome=true/\bK G11 w9.drew UP kvs12/\G11 (.agg #[aj,aw,dO])/\∀cA:World,Rec ((UP:Option Nat).getD 0) w9.drew cA->bK G11 cA UP (rE kvs12 (.agg #[aj,aw,dO]) ao)->
 R Fl cA)))):ah 133 #[a0,.agg #[ao,aj,aw,dO]] w R:=
 cq cf Tryz.func133 h
def rp.vc{a0:Sl}(h:
 (0:Int)<=((a0.n:Nat):Int)/\((a0.n:Nat):Int)<=((a0.c:Nat):Int)/\(0:Int)<=a2/\a2<=((a0.n:Nat):Int)/\(0:Int)<=a1/\a1<=a2/\Br (a1==a2)
 (R a0 w)
 ((0:Int)<=a1/\a1<=((a0.c:Nat):Int)/\(0:Int)<=a2/\a2<=((a0.n:Nat):Int)/\∃l0:LV,Rd w.drew (aA a0.a ((a2:Int).toNat) (a0.c) 4) l0/\aF 32 4 w.drew ⟨(aA a0.a (0) (a0.c) 4),((a1:Int).toNat-0),(a0.c-0)⟩ (a0.n-(a2:Int).toNat) l0/\∀(s1:Sl)(w2:World),aD 120 4 w.drew ⟨(aA a0.a (0) (a0.c) 4),((a1:Int).toNat-0),(a0.c-0)⟩ (a0.n-(a2:Int).toNat) l0 s1 w2->
 (0:Int)<=((a0.n:Nat):Int)/\((a0.n:Nat):Int)<=((s1.c:Nat):Int)/\(0:Int)<=((s1.n:Nat):Int)/\(((s1.n:Nat):Int):Int)<=((a0.n:Nat):Int)/\Wr w2 (aA s1.a ((((s1.n:Nat):Int):Int).toNat) (s1.c) 4) (((((a0.n:Nat):Int):Int).toNat-(((s1.n:Nat):Int):Int).toNat)*4)/\(∀w3,w3=aZ w2 (aA s1.a ((((s1.n:Nat):Int):Int).toNat) (s1.c) 4) (bo [af,af,af,af] ((((a0.n:Nat):Int):Int).toNat-(((s1.n:Nat):Int):Int).toNat))->
 R s1 w3))):ah 90 #[a0,a1,a2] w R:=
 cq cf Tryz.func90 h
def xA.vc{a0:Addr}(h:
 ∃(s0:Sl),ld w (ae (some a0) 2)=some (.slice s0.a s0.n s0.c)/\
 ah 98 #[s0] w (λe w1=>∃(s2:Sl),e=s2/\
 R s2 w1)):ah 52 #[a0] w R:=
 cq cf Tryz.func52 h
def nJ.vc{a0:Sl}{a1:Value}(h:
 ah 220 #[a0,a1] w (λe w0=>∃(x1:Int),e=x1/\
 Br (x1==(-1))
 (R a0 w0)
 (∃I2:Nat->Int->Int->World->Prop,
 (∃n3,I2 n3 ((ai (x1+1))) x1 w0)/\
 ∀(n3:Nat)(U3:Nat->Value)(x5 x6:Int)(w7:World),I2 n3 x5 x6 w7->
 Br (decide (x5<((a0.n:Nat):Int)))
 (cB a0.a x5 a0.n/\∃(x9 br bV bT:Int),av w7 (ae a0.a ((x5:Int).toNat*4)) 0 [x9,br,bV,bT]/\
 Aw w7 #[af,af,af,af] 120 λcA=>
 Sw cA w7 #[x9,br,bV,bT] λcm=>
 dH Tryz.prog a1 [.agg #[x9,br,bV,bT]] cm (Rb λb16 cS=>Kp w7 cm cS/\
 Br (!b16)
 (cB a0.a x6 a0.n/\(((ae a0.a ((x6:Int).toNat*4))).isSome=true/\Wr cS (ae a0.a ((x6:Int).toNat*4)) 4)/\cQ (ae a0.a ((x6:Int).toNat*4))≠some w7.heap.size/\(∀cC,cC=aZ cS (ae a0.a ((x6:Int).toNat*4)) [x9,br,bV,bT]->
 ∃n8,n8<n3/\I2 n8 ((ai (x5+1))) ((ai (x6+1))) cC))
 (∃n8,n8<n3/\I2 n8 ((ai (x5+1))) x6 cS)))
 ((0:Int)<=x6/\x6<=((a0.n:Nat):Int)/\Wr w7 (aA a0.a ((x6:Int).toNat) (a0.c) 4) ((a0.n-(x6:Int).toNat)*4)/\(∀dJ,dJ=aZ w7 (aA a0.a ((x6:Int).toNat) (a0.c) 4) (bo [af,af,af,af] (a0.n-(x6:Int).toNat))->
 (0:Int)<=x6/\x6<=((a0.c:Nat):Int)/\R (Value.slice (aA a0.a (0) (a0.c) 4) ((x6:Int).toNat-0) (a0.c-0)) dJ))))):ah 177 #[a0,a1] w R:=
 cq ⟨[(5,⟨[(6,.int .i64),(5,.int .i64)],[],[]⟩)],[],[]⟩ Tryz.func177 h
def rP.vc{c0:Addr}(h:
 Aw w #[aq,ar,au,aI] 120 λw0=>
 ∃(x1 x2 x3:Int),av w0 (some c0) 0 [x1,x2,x3]/\
 R (Value.bool ((ar==x1) &&((au==x2) &&(aI==x3)))) w0):ah 178 #[.agg #[aq,ar,au,aI],c0] w R:=
 cq cf Tryz.func178 h
def kH.vc{a0:Sl}{a2:Value}(h:
 Aw w #[ao,aj,aw,dO] 120 λw0=>
 ∃I1:Nat->Int->Int->World->Prop,
 (∃n2,aP [ao,aj,aw,dO]/\I1 n2 (0) (((a0.n:Nat):Int)) w0)/\
 ∀(n2:Nat)(Ww:Nat->Value)(x4 x5:Int)(w6:World),I1 n2 x4 x5 w6->
 Br (x4<x5)
 (cB a0.a (ai (((bD (ai (x4+x5))):Int).fdiv (2 ^(min (1:Int).toNat 64)))) a0.n/\∃(x8 x9 br bV:Int),av w6.drew (ae a0.a (((ai (((bD (ai (x4+x5))):Int).fdiv (2 ^(min (1:Int).toNat 64)))):Int).toNat*4)) 0 [x8,x9,br,bV]/\
 dH Tryz.prog a2 [.agg #[x8,x9,br,bV],.agg #[ao,aj,aw,dO]] w6.drew (Ri λcD bR=>Kp w w6.drew bR/\
 Br (cD<0)
 (∃n7,n7<n2/\aP [ao,aj,aw,dO]/\I1 n7 ((ai ((ai (((bD (ai (x4+x5))):Int).fdiv (2 ^(min (1:Int).toNat 64))))+1))) x5 bR)
 (∃n7,n7<n2/\aP [ao,aj,aw,dO]/\I1 n7 x4 ((ai (((bD (ai (x4+x5))):Int).fdiv (2 ^(min (1:Int).toNat 64))))) bR)))
 (Br (decide (x4<((a0.n:Nat):Int)))
 (cB a0.a x4 a0.n/\∃(cl bA cY cP:Int),av w6.drew (ae a0.a ((x4:Int).toNat*4)) 0 [cl,bA,cY,cP]/\
 dH Tryz.prog a2 [.agg #[cl,bA,cY,cP],.agg #[ao,aj,aw,dO]] w6.drew (Ri λcN dJ=>Kp w w6.drew dJ/\
 R (Value.tuple #[x4,.bool (cN==0)]) dJ))
 (R (Value.tuple #[x4,false]) w6.drew))):ah 179 #[a0,.agg #[ao,aj,aw,dO],a2] w R:=
 cq ⟨[(3,⟨[(9,.int .i64),(10,.int .i64)],[],[]⟩)],[],[]⟩ Tryz.func179 h
def rR.vc(h:
 Aw w #[aq,ar,au,aI] 120 λw0=>
 Aw w0 #[ao,aj,aw,dO] 120 λw1=>
 ah 182 #[aq,ao] w1 (Ri λx3 w2=>K2 w w0 w1 w2 (
 Aw w2 #[x3,(-1:Int)] 3 λw4=>
 ah 181 #[.slice (bu w2) 2 2] w4 (Ri λx6 w5=>K2 w w0 w4 w5 (
 R x6 w5))))):ah 180 #[.agg #[aq,ar,au,aI],.agg #[ao,aj,aw,dO]] w R:=
 cq cf Tryz.func180 h
def Lj.vc{a0:Sl}(h:
 ∃I0:Nat->Int->World->Prop,
 (∃n1,I0 n1 (0) w)/\
 ∀(n1:Nat)(oX:Nat->Value)(x3:Int)(w4:World),I0 n1 x3 w4->
 Br (decide (x3<((a0.n:Nat):Int)))
 (cB a0.a x3 a0.n/\∃(x6:Int),ld w4 (ae a0.a ((x3:Int).toNat*1))=some (.int .i64 x6)/\
 Br (x6 !=0)
 (R x6 w4)
 (∃n5,n5<n1/\I0 n5 ((ai (x3+1))) w4))
 (R (0:Int) w4)):ah 181 #[a0] w R:=
 cq ⟨[(3,⟨[(8,.int .i64)],[],[]⟩)],[],[]⟩ Tryz.func181 h
def xI.vc(h:
 ah 221 #[a0] w (λe w0=>∃(b1:Bool),e=b1/\
 ah 221 #[a1] w0 (λe w2=>∃(b3:Bool),e=b3/\
 Br b1
 (Br b3
 (R (0:Int) w2)
 (R (Value.int .i64 (-1)) w2))
 (Br b3
 (R (1:Int) w2)
 (Br (a0<a1)
 (R (Value.int .i64 (-1)) w2)
 (Br (a0>a1)
 (R (1:Int) w2)
 (R (0:Int) w2))))))):ah 182 #[a0,a1] w R:=
 cq cf Tryz.func182 h
def rS.vc{a0:Sl}{a2:Sl}(h:
 (0:Int)<=a1/\a1<=((a0.n:Nat):Int)/\Br ((((a2.n:Nat):Int):Int)==0)
 (R a0 w)
 (Br (a1==((a0.n:Nat):Int))
 (∃l0:LV,Rd w a2.a l0/\aF 32 4 w a0 a2.n l0/\∀(s1:Sl)(w2:World),aD 120 4 w a0 a2.n l0 s1 w2->
 R s1 w2)
 (Br (decide (((ai (((a0.n:Nat):Int)+((a2.n:Nat):Int))):Int)>((a0.c:Nat):Int)))
 ((0:Int)<=a1/\a1<=((a0.c:Nat):Int)/\((0:Int)<=(ai ((ai (((a0.n:Nat):Int)+((a2.n:Nat):Int)))-a1))/\ai (ai ((ai (((a0.n:Nat):Int)+((a2.n:Nat):Int)))-a1))=(ai ((ai (((a0.n:Nat):Int)+((a2.n:Nat):Int)))-a1))/\((ai ((ai (((a0.n:Nat):Int)+((a2.n:Nat):Int)))-a1)):Int)*32<=281474976710656)/\aF 32 4 w ⟨(aA a0.a (0) (a0.c) 4),((a1:Int).toNat-0),(a0.c-0)⟩ ((ai ((ai (((a0.n:Nat):Int)+((a2.n:Nat):Int)))-a1)):Int).toNat (bo [af,af,af,af] ((ai ((ai (((a0.n:Nat):Int)+((a2.n:Nat):Int)))-a1)):Int).toNat)/\∀(s3:Sl)(w4:World),aD 120 4 w ⟨(aA a0.a (0) (a0.c) 4),((a1:Int).toNat-0),(a0.c-0)⟩ ((ai ((ai (((a0.n:Nat):Int)+((a2.n:Nat):Int)))-a1)):Int).toNat (bo [af,af,af,af] ((ai ((ai (((a0.n:Nat):Int)+((a2.n:Nat):Int)))-a1)):Int).toNat) s3 w4->
 (0:Int)<=a1/\a1<=((s3.n:Nat):Int)/\∃l5:LV,(l5.length=min a2.n (s3.n-(a1:Int).toNat)*4/\Rd w4 a2.a l5/\One l5/\Wr w4 (aA s3.a ((a1:Int).toNat) (s3.c) 4) l5.length)/\(∀w6,w6=aZ w4 (aA s3.a ((a1:Int).toNat) (s3.c) 4) l5->
 (0:Int)<=(ai (a1+((a2.n:Nat):Int)))/\(ai (a1+((a2.n:Nat):Int)))<=((s3.n:Nat):Int)/\(0:Int)<=a1/\a1<=((a0.n:Nat):Int)/\∃l7:LV,(l7.length=min (a0.n-(a1:Int).toNat) (s3.n-((ai (a1+((a2.n:Nat):Int))):Int).toNat)*4/\Rd w6.drew (aA a0.a ((a1:Int).toNat) (a0.c) 4) l7/\One l7/\Wr w6.drew (aA s3.a (((ai (a1+((a2.n:Nat):Int))):Int).toNat) (s3.c) 4) l7.length)/\(∀w8,w8=aZ w6.drew (aA s3.a (((ai (a1+((a2.n:Nat):Int))):Int).toNat) (s3.c) 4) l7->
 R s3 w8)))
 ((0:Int)<=(ai (((a0.n:Nat):Int)+((a2.n:Nat):Int)))/\(ai (((a0.n:Nat):Int)+((a2.n:Nat):Int)))<=((a0.c:Nat):Int)/\(0:Int)<=(ai (a1+((a2.n:Nat):Int)))/\(ai (a1+((a2.n:Nat):Int)))<=(((((ai (((a0.n:Nat):Int)+((a2.n:Nat):Int))):Int).toNat-0):Nat):Int)/\Ra Tryz.prog 222 [a2,.slice (aA (aA a0.a (0) (a0.c) 4) (((ai (a1+((a2.n:Nat):Int))):Int).toNat) ((a0.c-0)) 4) ((((ai (((a0.n:Nat):Int)+((a2.n:Nat):Int))):Int).toNat-0)-((ai (a1+((a2.n:Nat):Int))):Int).toNat) ((a0.c-0)-((ai (a1+((a2.n:Nat):Int))):Int).toNat)] w (λe w9=>∃(WH:Bool),e=WH/\
 Br (!WH)
 ((0:Int)<=(ai (a1+((a2.n:Nat):Int)))/\(ai (a1+((a2.n:Nat):Int)))<=(((((ai (((a0.n:Nat):Int)+((a2.n:Nat):Int))):Int).toNat-0):Nat):Int)/\(0:Int)<=a1/\a1<=(((((ai (((a0.n:Nat):Int)+((a2.n:Nat):Int))):Int).toNat-0):Nat):Int)/\∃l11:LV,(l11.length=min ((((ai (((a0.n:Nat):Int)+((a2.n:Nat):Int))):Int).toNat-0)-(a1:Int).toNat) ((((ai (((a0.n:Nat):Int)+((a2.n:Nat):Int))):Int).toNat-0)-((ai (a1+((a2.n:Nat):Int))):Int).toNat)*4/\Rd w9.drew (aA (aA a0.a (0) (a0.c) 4) ((a1:Int).toNat) ((a0.c-0)) 4) l11/\One l11/\Wr w9.drew (aA (aA a0.a (0) (a0.c) 4) (((ai (a1+((a2.n:Nat):Int))):Int).toNat) ((a0.c-0)) 4) l11.length)/\(∀bR,bR=aZ w9.drew (aA (aA a0.a (0) (a0.c) 4) (((ai (a1+((a2.n:Nat):Int))):Int).toNat) ((a0.c-0)) 4) l11->
 (0:Int)<=a1/\a1<=(((((ai (((a0.n:Nat):Int)+((a2.n:Nat):Int))):Int).toNat-0):Nat):Int)/\∃l13:LV,(l13.length=min a2.n ((((ai (((a0.n:Nat):Int)+((a2.n:Nat):Int))):Int).toNat-0)-(a1:Int).toNat)*4/\Rd bR a2.a l13/\One l13/\Wr bR (aA (aA a0.a (0) (a0.c) 4) ((a1:Int).toNat) ((a0.c-0)) 4) l13.length)/\(∀cm,cm=aZ bR (aA (aA a0.a (0) (a0.c) 4) ((a1:Int).toNat) ((a0.c-0)) 4) l13->
 R (Value.slice (aA a0.a (0) (a0.c) 4) (((ai (((a0.n:Nat):Int)+((a2.n:Nat):Int))):Int).toNat-0) (a0.c-0)) cm)))
 ((0:Int)<=((a0.n:Nat):Int)/\((a0.n:Nat):Int)<=(((((ai (((a0.n:Nat):Int)+((a2.n:Nat):Int))):Int).toNat-0):Nat):Int)/\∃l15:LV,(l15.length=min a2.n ((((ai (((a0.n:Nat):Int)+((a2.n:Nat):Int))):Int).toNat-0)-(((a0.n:Nat):Int):Int).toNat)*4/\Rd w9 a2.a l15/\One l15/\Wr w9 (aA (aA a0.a (0) (a0.c) 4) ((((a0.n:Nat):Int):Int).toNat) ((a0.c-0)) 4) l15.length)/\(∀dy,dy=aZ w9 (aA (aA a0.a (0) (a0.c) 4) ((((a0.n:Nat):Int):Int).toNat) ((a0.c-0)) 4) l15->
 (0:Int)<=a1/\a1<=(((((ai (((a0.n:Nat):Int)+((a2.n:Nat):Int))):Int).toNat-0):Nat):Int)/\ah 223 #[.slice (aA (aA a0.a (0) (a0.c) 4) ((a1:Int).toNat) ((a0.c-0)) 4) ((((ai (((a0.n:Nat):Int)+((a2.n:Nat):Int))):Int).toNat-0)-(a1:Int).toNat) ((a0.c-0)-(a1:Int).toNat),((a2.n:Nat):Int)] dy (λe cC=>e=Fl/\
 R (Value.slice (aA a0.a (0) (a0.c) 4) (((ai (((a0.n:Nat):Int)+((a2.n:Nat):Int))):Int).toNat-0) (a0.c-0)) cC)))))))):ah 183 #[a0,a1,a2] w R:=
 cq cf Tryz.func183 h
def tF.vc{a0:Sl}(h:
 Br (a0.a).isNone
 (R (Value.slice none 0 0) w)
 (Aw w #[] 120 λw0=>
 ∃l1:LV,Rd w0 a0.a l1/\aF 32 4 w0 ⟨(bu w),0,0⟩ a0.n l1/\∀(s2:Sl)(w3:World),aD 120 4 w0 ⟨(bu w),0,0⟩ a0.n l1 s2 w3->Kp w w0 w3/\
 R s2 w3)):ah 98 #[a0] w R:=
 cq cf Tryz.func98 h
def oV.vc{a0:Sl}{a1:Value}(h:
 ∃I0:Nat->Int->World->Prop,
 (∃n1,I0 n1 (0) w)/\
 ∀(n1:Nat)(oX:Nat->Value)(x3:Int)(w4:World),I0 n1 x3 w4->
 Br (decide (x3<((a0.n:Nat):Int)))
 (cB a0.a x3 a0.n/\∃(x6 x7 x8 x9:Int),av w4 (ae a0.a ((x3:Int).toNat*4)) 0 [x6,x7,x8,x9]/\
 dH Tryz.prog a1 [.agg #[x6,x7,x8,x9]] w4 (λe bL=>∃(Fo:Bool),e=Fo/\
 Br Fo
 (R x3 bL)
 (∃n5,n5<n1/\I0 n5 ((ai (x3+1))) bL)))
 (R (Value.int .i64 (-1)) w4)):ah 220 #[a0,a1] w R:=
 cq ⟨[(2,⟨[(8,.int .i64)],[],[]⟩)],[],[]⟩ Tryz.func220 h
def BZ.vc(h:
 R (Value.bool (a0 !=a0)) w):ah 221 #[a0] w R:=
 cq cf Tryz.func221 h
end Go.Proofs.YtalpkjfpmdpbiaaGreatDoor
