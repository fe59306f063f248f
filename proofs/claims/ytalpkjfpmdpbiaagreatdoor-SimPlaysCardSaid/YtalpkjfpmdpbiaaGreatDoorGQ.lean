import Derived.Test.YtalpkjfpmdpbiaaGreatDoorGW
set_option linter.all false
namespace Go.Proofs.YtalpkjfpmdpbiaaGreatDoor
open Go Go.Vc Go.RowKit Go.Proofs
set_option maxRecDepth 100000
set_option maxHeartbeats 8000000
set_option linter.unusedVariables false
variable {R:Ending->World->Prop} {w:World} {a0 a1 a2 a3 a4 a5 a6 a7 a8 a9 aq ar av aI aJ aK aL aH bO eE ao ak aw dB gn gB gC gD fM gE db dR dO ln lO nv ym yn yp yq yt yu yw yx yy yz yA yB yC yD:Int}
def Pv.vc(h:
 ∀w0,w0=w.alloc (.map #[] 0)->
 Aw w0 #[.int .i64 (if 4096<(if 1>a0 then 1 else a0) then 4096 else (if 1>a0 then 1 else a0)),af,.slice none 0 0,.map (some w.heap.size)] 158 λw1=>
 R (Value.pointer (bu w0)) w1):ah 60 #[a0] w R:=
 cq cc Tryz.func60 h
def yb.vc{a0:Addr}(h:
 Aw w #[ao,ak,aw] 23 λw0=>
 ah 131 #[a0,.agg #[ao,ak,aw]] w0 (λe w1=>∃(x2:Int)(b3:Bool),e=Value.tuple #[x2,b3]/\Kp w w0 w1/\
 Br b3
 (Br (x2<=a2)
 (R false w1)
 (Br b3
 (ah 132 #[a0,.agg #[ao,ak,aw]] w1 (Rb λb5 w4=>Kp w w1 w4/\
 ah 133 #[a0,.agg #[a2,ao,ak,aw]] w4 (Rt λw6=>Kp w w4 w6/\
 R true w6)))
 (∃(s7:Sl),ld w1.drew (ae (some a0) 2)=some (.slice s7.a s7.n s7.c)/\
 ∃(x8:Int),ld w1.drew (ae (some a0) 0)=some (.int .i64 x8)/\
 Br ((((s7.n:Nat):Int):Int)==x8)
 (∃(x9:Int),ld w1.drew (ae (some a0) 1)=some (.int .i64 x9)/\
 (true=true/\Wr w1.drew (ae (some a0) 1) 1)/\cS (ae (some a0) 1)≠some w.heap.size/\(∀bL,bL=bc w1.drew (ae (some a0) 1) [(ai (x9+1))]->
 R false bL))
 (ah 133 #[a0,.agg #[a2,ao,ak,aw]] w1.drew (Rt λcB=>Kp w w1.drew cB/\
 R true cB)))))
 (Br b3
 (ah 132 #[a0,.agg #[ao,ak,aw]] w1 (Rb λb13 bS=>Kp w w1 bS/\
 ah 133 #[a0,.agg #[a2,ao,ak,aw]] bS (Rt λbY=>Kp w bS bY/\
 R true bY)))
 (∃(ji:Sl),ld w1.drew (ae (some a0) 2)=some (.slice ji.a ji.n ji.c)/\
 ∃(cQ:Int),ld w1.drew (ae (some a0) 0)=some (.int .i64 cQ)/\
 Br ((((ji.n:Nat):Int):Int)==cQ)
 (∃(cR:Int),ld w1.drew (ae (some a0) 1)=some (.int .i64 cR)/\
 (true=true/\Wr w1.drew (ae (some a0) 1) 1)/\cS (ae (some a0) 1)≠some w.heap.size/\(∀dA,dA=bc w1.drew (ae (some a0) 1) [(ai (cR+1))]->
 R false dA))
 (ah 133 #[a0,.agg #[a2,ao,ak,aw]] w1.drew (Rt λft=>Kp w w1.drew ft/\
 R true ft)))))):ah 88 #[a0,.agg #[ao,ak,aw],a2] w R:=
 cq cc Tryz.func88 h
def xW.vc{a0:Addr}(h:
 ∃I0:Nat->Int->World->Prop,
 (∃n1,I0 n1 (0) w)/\
 ∀(n1:Nat)(oB:Nat->Value)(x3:Int)(w4:World),I0 n1 x3 w4->
 ∃(s6:Sl),ld w4 (ae (some a0) 2)=some (.slice s6.a s6.n s6.c)/\
 Br (decide (x3<((s6.n:Nat):Int)))
 (Br (x3<a2)
 (∃(s7:Sl),ld w4 (ae (some a0) 2)=some (.slice s7.a s7.n s7.c)/\
 cA s7.a x3 s7.n/\bk (eV (ae s7.a ((x3:Int).toNat*4))) (∃(x8:Int),ld w4 (ae (ae s7.a ((x3:Int).toNat*4)) 0)=some (.int .i64 x8)/\
 Br (x8<=a1)
 (∃n5,n5<n1/\I0 n5 ((ai (x3+1))) w4)
 (∃(s9:Sl),ld w4 (ae (some a0) 2)=some (.slice s9.a s9.n s9.c)/\
 (0:Int)<=x3/\x3<=((s9.c:Nat):Int)/\(0:Int)<=x3/\x3<=x3/\∃I10:Nat->Int->Sl->World->Prop,
 (∃xq,I10 xq (0) ⟨none,0,0⟩ w4)/\
 ∀(xq:Nat)(aaE:Nat->Value)(cz:Int)(sX:Sl)(cU:World),I10 xq cz sX cU->
 Br (decide (cz<((((x3:Int).toNat-0):Nat):Int)))
 (cA (aA s9.a (0) ((x3:Int).toNat) 4) cz ((x3:Int).toNat-0)/\∃(cR cf cK du:Int),au cU (ae (aA s9.a (0) ((x3:Int).toNat) 4) ((cz:Int).toNat*4)) 0 [cR,cf,cK,du]/\
 Aw cU #[af,af,af,af] 120 λef=>
 Sw ef cU #[cR,cf,cK,du] λct=>
 Aw ct #[cf,cK,du] 23 λgp=>
 aF 24 3 gp sX 1 [cf,cK,du]/\∀(kO:Sl)(eh:World),aE 23 3 gp sX 1 [cf,cK,du] kO eh->K2 cU ct gp eh (
 ∃(m26:Option Nat),ld eh.drew (ae (some a0) 3)=some (.map m26)/\
 ∃(G27:Value->Prop)(kvs28:List (Value × Value)),gQ Tryz.prog 23 G27/\(m26:Option Nat).isSome=true/\bN G27 eh.drew m26 kvs28/\G27 (.agg #[cf,cK,du])/\∀fP:World,Rec ((m26:Option Nat).getD 0) eh.drew fP->bN G27 fP m26 (AH kvs28 (.agg #[cf,cK,du]))->
 ∃VB,VB<xq/\I10 VB ((ai (cz+1))) kO fP))
 (∃(g7:Sl),ld cU (ae (some a0) 2)=some (.slice g7.a g7.n g7.c)/\
 ah 90 #[g7,af,x3] cU (λe ik=>∃(iW:Sl),e=iW/\
 (true=true/\Wr ik (ae (some a0) 2) 1)/\(∀lz,lz=bc ik (ae (some a0) 2) [iW]->
 R sX lz))))))
 (∃(VJ:Sl),ld w4 (ae (some a0) 2)=some (.slice VJ.a VJ.n VJ.c)/\
 (0:Int)<=x3/\x3<=((VJ.c:Nat):Int)/\(0:Int)<=x3/\x3<=x3/\∃I35:Nat->Int->Sl->World->Prop,
 (∃n36,I35 n36 (0) ⟨none,0,0⟩ w4)/\
 ∀(n36:Nat)(ars:Nat->Value)(je:Int)(sU:Sl)(iV:World),I35 n36 je sU iV->
 Br (decide (je<((((x3:Int).toNat-0):Nat):Int)))
 (cA (aA VJ.a (0) ((x3:Int).toNat) 4) je ((x3:Int).toNat-0)/\∃(lU kG jI lp:Int),au iV (ae (aA VJ.a (0) ((x3:Int).toNat) 4) ((je:Int).toNat*4)) 0 [lU,kG,jI,lp]/\
 Aw iV #[af,af,af,af] 120 λDQ=>
 Sw DQ iV #[lU,kG,jI,lp] λoV=>
 Aw oV #[kG,jI,lp] 23 λuK=>
 aF 24 3 uK sU 1 [kG,jI,lp]/\∀(yX:Sl)(xD:World),aE 23 3 uK sU 1 [kG,jI,lp] yX xD->K2 iV oV uK xD (
 ∃(m51:Option Nat),ld xD.drew (ae (some a0) 3)=some (.map m51)/\
 ∃(G52:Value->Prop)(kvs53:List (Value × Value)),gQ Tryz.prog 23 G52/\(m51:Option Nat).isSome=true/\bN G52 xD.drew m51 kvs53/\G52 (.agg #[kG,jI,lp])/\∀wh:World,Rec ((m51:Option Nat).getD 0) xD.drew wh->bN G52 wh m51 (AH kvs53 (.agg #[kG,jI,lp]))->
 ∃U9,U9<n36/\I35 U9 ((ai (je+1))) yX wh))
 (∃(FJ:Sl),ld iV (ae (some a0) 2)=some (.slice FJ.a FJ.n FJ.c)/\
 ah 90 #[FJ,af,x3] iV (λe NO=>∃(QO:Sl),e=QO/\
 (true=true/\Wr NO (ae (some a0) 2) 1)/\(∀By,By=bc NO (ae (some a0) 2) [QO]->
 R sU By)))))
 (∃(Mr:Sl),ld w4 (ae (some a0) 2)=some (.slice Mr.a Mr.n Mr.c)/\
 (0:Int)<=x3/\x3<=((Mr.c:Nat):Int)/\(0:Int)<=x3/\x3<=x3/\∃Y2:Nat->Int->Sl->World->Prop,
 (∃VL,Y2 VL (0) ⟨none,0,0⟩ w4)/\
 ∀(VL:Nat)(Xr:Nat->Value)(lQ:Int)(FD:Sl)(FE:World),Y2 VL lQ FD FE->
 Br (decide (lQ<((((x3:Int).toNat-0):Nat):Int)))
 (cA (aA Mr.a (0) ((x3:Int).toNat) 4) lQ ((x3:Int).toNat-0)/\∃(qO zb mO jD:Int),au FE (ae (aA Mr.a (0) ((x3:Int).toNat) 4) ((lQ:Int).toNat*4)) 0 [qO,zb,mO,jD]/\
 Aw FE #[af,af,af,af] 120 λw71=>
 Sw w71 FE #[qO,zb,mO,jD] λw72=>
 Aw w72 #[zb,mO,jD] 23 λw73=>
 aF 24 3 w73 FD 1 [zb,mO,jD]/\∀(s74:Sl)(JX:World),aE 23 3 w73 FD 1 [zb,mO,jD] s74 JX->K2 FE w72 w73 JX (
 ∃(m76:Option Nat),ld JX.drew (ae (some a0) 3)=some (.map m76)/\
 ∃(G77:Value->Prop)(kvs78:List (Value × Value)),gQ Tryz.prog 23 G77/\(m76:Option Nat).isSome=true/\bN G77 JX.drew m76 kvs78/\G77 (.agg #[zb,mO,jD])/\∀w79:World,Rec ((m76:Option Nat).getD 0) JX.drew w79->bN G77 w79 m76 (AH kvs78 (.agg #[zb,mO,jD]))->
 ∃n66,n66<VL/\Y2 n66 ((ai (lQ+1))) s74 w79))
 (∃(Bv:Sl),ld FE (ae (some a0) 2)=some (.slice Bv.a Bv.n Bv.c)/\
 ah 90 #[Bv,af,x3] FE (λe xA=>∃(s82:Sl),e=s82/\
 (true=true/\Wr xA (ae (some a0) 2) 1)/\(∀w83,w83=bc xA (ae (some a0) 2) [s82]->
 R FD w83))))):ah 46 #[a0,a1,a2] w R:=
 cq ⟨[(6,⟨[(45,.int .i64),(8,.slice)],[],[]⟩),(6,⟨[(45,.int .i64),(8,.slice)],[],[]⟩),(6,⟨[(45,.int .i64),(8,.slice)],[],[]⟩),(2,⟨[(7,.int .i64)],[],[]⟩)],[],[]⟩ Tryz.func46 h
def xZ.vc{a0:Addr}(h:
 ∃(s0:Sl),ld w (ae (some a0) 2)=some (.slice s0.a s0.n s0.c)/\
 R (Value.int .i64 ((s0.n:Nat):Int)) w):ah 48 #[a0] w R:=
 cq cc Tryz.func48 h
def yg.vc{a0:Sl}{a1:Sl}(h:
 Br ((((a0.n:Nat):Int):Int) !=((a1.n:Nat):Int))
 (R false w)
 (∃I0:Nat->Int->World->Prop,
 (∃n1,I0 n1 (0) w)/\
 ∀(n1:Nat)(oB:Nat->Value)(x3:Int)(w4:World),I0 n1 x3 w4->
 Br (decide (x3<((a0.n:Nat):Int)))
 (cA a0.a x3 a0.n/\∃(x6 x7 x8:Int),au w4.drew (ae a0.a ((x3:Int).toNat*3)) 0 [x6,x7,x8]/\
 cA a1.a x3 a1.n/\∃(x9 bq bR:Int),au w4.drew (ae a1.a ((x3:Int).toNat*3)) 0 [x9,bq,bR]/\
 Br (!((x6==x9) &&((x7==bq) &&(x8==bR))))
 (R false w4.drew)
 (∃n5,n5<n1/\I0 n5 ((ai (x3+1))) w4.drew))
 (R true w4))):ah 21 #[a0,a1] w R:=
 cq ⟨[(4,⟨[(5,.int .i64)],[],[]⟩)],[],[]⟩ Tryz.func21 h
def Pf.vc(h:
 Aw w #[af,af,.slice none 0 0] 36 λw0=>
 Sw w0 w #[.int .i64 (if 4096<(if 1>a0 then 1 else a0) then 4096 else (if 1>a0 then 1 else a0)),af,.slice none 0 0] λw1=>
 R (Value.agg #[.int .i64 (if 4096<(if 1>a0 then 1 else a0) then 4096 else (if 1>a0 then 1 else a0)),af,.slice none 0 0]) w1):ah 84 #[a0] w R:=
 cq cc Tryz.func84 h
def AI.vc{a0:Addr}(h:
 Aw w #[ao,ak,aw] 23 λw0=>
 ∃(m1:Option Nat),ld w0.drew (ae (some a0) 3)=some (.map m1)/\
 ∃(G2:Value->Prop)(kvs3:List (Value × Value)),gQ Tryz.prog 23 G2/\bN G2 w0.drew m1 kvs3/\G2 (.agg #[ao,ak,aw])/\∃(x4:Int),∃b5:Bool,B5 kvs3 (.agg #[ao,ak,aw]) (0:Int) x4 b5/\
 R (Value.tuple #[x4,b5]) w0.drew):ah 131 #[a0,.agg #[ao,ak,aw]] w R:=
 cq cc Tryz.func131 h
def vS.vc{a0:Addr}(h:
 Aw w #[ao,ak,aw] 23 λw0=>
 ∃(m1:Option Nat),ld w0.drew (ae (some a0) 3)=some (.map m1)/\
 ∃(G2:Value->Prop)(kvs3:List (Value × Value)),gQ Tryz.prog 23 G2/\bN G2 w0.drew m1 kvs3/\G2 (.agg #[ao,ak,aw])/\∃(x4:Int),∃b5:Bool,B5 kvs3 (.agg #[ao,ak,aw]) (0:Int) x4 b5/\
 Br (!b5)
 (R false w0.drew)
 (∃(m6:Option Nat),ld w0.drew.drew (ae (some a0) 3)=some (.map m6)/\
 ∃(G7:Value->Prop)(kvs8:List (Value × Value)),gQ Tryz.prog 23 G7/\(m6:Option Nat).isSome=true/\bN G7 w0.drew.drew m6 kvs8/\G7 (.agg #[ao,ak,aw])/\∀w9:World,Rec ((m6:Option Nat).getD 0) w0.drew.drew w9->bN G7 w9 m6 (AH kvs8 (.agg #[ao,ak,aw]))->
 ∃(cO:Sl),ld w9 (ae (some a0) 2)=some (.slice cO.a cO.n cO.c)/\
 ah 177 #[cO,.func (.func 178) #[] #[w]] w9 (λe cB=>∃(eM:Sl),e=eM/\
 (true=true/\Wr cB (ae (some a0) 2) 1)/\(∀cC,cC=bc cB (ae (some a0) 2) [eM]->
 R true cC)))):ah 132 #[a0,.agg #[ao,ak,aw]] w R:=
 cq cc Tryz.func132 h
def vP.vc{a0:Addr}(h:
 Aw w #[ao,ak,aw,dB] 120 λw0=>
 ∃(s1:Sl),ld w0.drew (ae (some a0) 2)=some (.slice s1.a s1.n s1.c)/\
 ah 179 #[s1,.agg #[ao,ak,aw,dB],.func (.func 180) #[] #[]] w0.drew (λe w2=>∃(x3:Int)(b4:Bool),e=Value.tuple #[x3,b4]/\Kp w w0.drew w2/\
 ∃(s5:Sl),ld w2.drew (ae (some a0) 2)=some (.slice s5.a s5.n s5.c)/\
 Aw w2.drew #[ao,ak,aw,dB] 120 λw6=>
 ah 183 #[s5,x3,.slice (bu w2.drew.heap.size) 1 1] w6 (Rs λs8 w7=>Kp w w6 w7/\
 (true=true/\Wr w7 (ae (some a0) 2) 1)/\cS (ae (some a0) 2)≠some w.heap.size/\(∀w9,w9=bc w7 (ae (some a0) 2) [s8]->
 ∃(Vu:Option Nat),ld w9.drew (ae (some a0) 3)=some (.map Vu)/\
 ∃(G11:Value->Prop)(kvs12:List (Value × Value)),gQ Tryz.prog 23 G11/\(Vu:Option Nat).isSome=true/\bN G11 w9.drew Vu kvs12/\G11 (.agg #[ak,aw,dB])/\∀cC:World,Rec ((Vu:Option Nat).getD 0) w9.drew cC->bN G11 cC Vu (rX kvs12 (.agg #[ak,aw,dB]) ao)->
 R FX cC)))):ah 133 #[a0,.agg #[ao,ak,aw,dB]] w R:=
 cq cc Tryz.func133 h
def rO.vc{a0:Sl}(h:
 (0:Int)<=((a0.n:Nat):Int)/\((a0.n:Nat):Int)<=((a0.c:Nat):Int)/\(0:Int)<=a2/\a2<=((a0.n:Nat):Int)/\(0:Int)<=a1/\a1<=a2/\Br (a1==a2)
 (R a0 w)
 ((0:Int)<=a1/\a1<=((a0.c:Nat):Int)/\(0:Int)<=a2/\a2<=((a0.n:Nat):Int)/\∃l0:LV,Rd w.drew (aA a0.a ((a2:Int).toNat) (a0.c) 4) l0/\aF 32 4 w.drew ⟨(aA a0.a (0) (a0.c) 4),((a1:Int).toNat-0),(a0.c-0)⟩ (a0.n-(a2:Int).toNat) l0/\∀(s1:Sl)(w2:World),aE 120 4 w.drew ⟨(aA a0.a (0) (a0.c) 4),((a1:Int).toNat-0),(a0.c-0)⟩ (a0.n-(a2:Int).toNat) l0 s1 w2->
 (0:Int)<=((a0.n:Nat):Int)/\((a0.n:Nat):Int)<=((s1.c:Nat):Int)/\(0:Int)<=((s1.n:Nat):Int)/\(((s1.n:Nat):Int):Int)<=((a0.n:Nat):Int)/\Wr w2 (aA s1.a ((((s1.n:Nat):Int):Int).toNat) (s1.c) 4) (((((a0.n:Nat):Int):Int).toNat-(((s1.n:Nat):Int):Int).toNat)*4)/\(∀w3,w3=bc w2 (aA s1.a ((((s1.n:Nat):Int):Int).toNat) (s1.c) 4) (br [af,af,af,af] ((((a0.n:Nat):Int):Int).toNat-(((s1.n:Nat):Int):Int).toNat))->
 R s1 w3))):ah 90 #[a0,a1,a2] w R:=
 cq cc Tryz.func90 h
def xV.vc{a0:Addr}(h:
 ∃(s0:Sl),ld w (ae (some a0) 2)=some (.slice s0.a s0.n s0.c)/\
 ah 98 #[s0] w (λe w1=>∃(s2:Sl),e=s2/\
 R s2 w1)):ah 52 #[a0] w R:=
 cq cc Tryz.func52 h
def nP.vc{a0:Sl}{a1:Value}(h:
 ah 220 #[a0,a1] w (λe w0=>∃(x1:Int),e=x1/\
 Br (x1==(-1))
 (R a0 w0)
 (∃I2:Nat->Int->Int->World->Prop,
 (∃n3,I2 n3 ((ai (x1+1))) x1 w0)/\
 ∀(n3:Nat)(VH:Nat->Value)(x5 x6:Int)(w7:World),I2 n3 x5 x6 w7->
 Br (decide (x5<((a0.n:Nat):Int)))
 (cA a0.a x5 a0.n/\∃(x9 bq bR bU:Int),au w7 (ae a0.a ((x5:Int).toNat*4)) 0 [x9,bq,bR,bU]/\
 Aw w7 #[af,af,af,af] 120 λcC=>
 Sw cC w7 #[x9,bq,bR,bU] λbY=>
 dJ Tryz.prog a1 [.agg #[x9,bq,bR,bU]] bY (Rb λb16 cU=>Kp w7 bY cU/\
 Br (!b16)
 (cA a0.a x6 a0.n/\(((ae a0.a ((x6:Int).toNat*4))).isSome=true/\Wr cU (ae a0.a ((x6:Int).toNat*4)) 4)/\cS (ae a0.a ((x6:Int).toNat*4))≠some w7.heap.size/\(∀cE,cE=bc cU (ae a0.a ((x6:Int).toNat*4)) [x9,bq,bR,bU]->
 ∃n8,n8<n3/\I2 n8 ((ai (x5+1))) ((ai (x6+1))) cE))
 (∃n8,n8<n3/\I2 n8 ((ai (x5+1))) x6 cU)))
 ((0:Int)<=x6/\x6<=((a0.n:Nat):Int)/\Wr w7 (aA a0.a ((x6:Int).toNat) (a0.c) 4) ((a0.n-(x6:Int).toNat)*4)/\(∀dA,dA=bc w7 (aA a0.a ((x6:Int).toNat) (a0.c) 4) (br [af,af,af,af] (a0.n-(x6:Int).toNat))->
 (0:Int)<=x6/\x6<=((a0.c:Nat):Int)/\R (Value.slice (aA a0.a (0) (a0.c) 4) ((x6:Int).toNat-0) (a0.c-0)) dA))))):ah 177 #[a0,a1] w R:=
 cq ⟨[(5,⟨[(6,.int .i64),(5,.int .i64)],[],[]⟩)],[],[]⟩ Tryz.func177 h
def sB.vc{c0:Addr}(h:
 Aw w #[aq,ar,av,aI] 120 λw0=>
 ∃(x1 x2 x3:Int),au w0 (some c0) 0 [x1,x2,x3]/\
 R (Value.bool ((ar==x1) &&((av==x2) &&(aI==x3)))) w0):ah 178 #[.agg #[aq,ar,av,aI],c0] w R:=
 cq cc Tryz.func178 h
def kN.vc{a0:Sl}{a2:Value}(h:
 Aw w #[ao,ak,aw,dB] 120 λw0=>
 ∃I1:Nat->Int->Int->World->Prop,
 (∃n2,aP [ao,ak,aw,dB]/\I1 n2 (0) (((a0.n:Nat):Int)) w0)/\
 ∀(n2:Nat)(Xf:Nat->Value)(x4 x5:Int)(w6:World),I1 n2 x4 x5 w6->
 Br (x4<x5)
 (cA a0.a (ai (((bD (ai (x4+x5))):Int).fdiv (2 ^(min (1:Int).toNat 64)))) a0.n/\∃(x8 x9 bq bR:Int),au w6.drew (ae a0.a (((ai (((bD (ai (x4+x5))):Int).fdiv (2 ^(min (1:Int).toNat 64)))):Int).toNat*4)) 0 [x8,x9,bq,bR]/\
 dJ Tryz.prog a2 [.agg #[x8,x9,bq,bR],.agg #[ao,ak,aw,dB]] w6.drew (Ri λcz bS=>Kp w w6.drew bS/\
 Br (cz<0)
 (∃n7,n7<n2/\aP [ao,ak,aw,dB]/\I1 n7 ((ai ((ai (((bD (ai (x4+x5))):Int).fdiv (2 ^(min (1:Int).toNat 64))))+1))) x5 bS)
 (∃n7,n7<n2/\aP [ao,ak,aw,dB]/\I1 n7 x4 ((ai (((bD (ai (x4+x5))):Int).fdiv (2 ^(min (1:Int).toNat 64))))) bS)))
 (Br (decide (x4<((a0.n:Nat):Int)))
 (cA a0.a x4 a0.n/\∃(bW bw cQ cR:Int),au w6.drew (ae a0.a ((x4:Int).toNat*4)) 0 [bW,bw,cQ,cR]/\
 dJ Tryz.prog a2 [.agg #[bW,bw,cQ,cR],.agg #[ao,ak,aw,dB]] w6.drew (Ri λcK dA=>Kp w w6.drew dA/\
 R (Value.tuple #[x4,.bool (cK==0)]) dA))
 (R (Value.tuple #[x4,false]) w6.drew))):ah 179 #[a0,.agg #[ao,ak,aw,dB],a2] w R:=
 cq ⟨[(3,⟨[(9,.int .i64),(10,.int .i64)],[],[]⟩)],[],[]⟩ Tryz.func179 h
def sC.vc(h:
 Aw w #[aq,ar,av,aI] 120 λw0=>
 Aw w0 #[ao,ak,aw,dB] 120 λw1=>
 ah 182 #[aq,ao] w1 (Ri λx3 w2=>K2 w w0 w1 w2 (
 Aw w2 #[x3,(-1:Int)] 3 λw4=>
 ah 181 #[.slice (bu w2) 2 2] w4 (Ri λx6 w5=>K2 w w0 w4 w5 (
 R x6 w5))))):ah 180 #[.agg #[aq,ar,av,aI],.agg #[ao,ak,aw,dB]] w R:=
 cq cc Tryz.func180 h
def L3.vc{a0:Sl}(h:
 ∃I0:Nat->Int->World->Prop,
 (∃n1,I0 n1 (0) w)/\
 ∀(n1:Nat)(oB:Nat->Value)(x3:Int)(w4:World),I0 n1 x3 w4->
 Br (decide (x3<((a0.n:Nat):Int)))
 (cA a0.a x3 a0.n/\∃(x6:Int),ld w4 (ae a0.a ((x3:Int).toNat*1))=some (.int .i64 x6)/\
 Br (x6 !=0)
 (R x6 w4)
 (∃n5,n5<n1/\I0 n5 ((ai (x3+1))) w4))
 (R (0:Int) w4)):ah 181 #[a0] w R:=
 cq ⟨[(3,⟨[(8,.int .i64)],[],[]⟩)],[],[]⟩ Tryz.func181 h
def ye.vc(h:
 ah 221 #[a0] w (λe w0=>∃(b1:Bool),e=b1/\
 ah 221 #[a1] w0 (λe w2=>∃(b3:Bool),e=b3/\
 Br b1
 (Br b3
 (R (0:Int) w2)
 (R (Value.int .i64 (-1)) w2))
 (Br b3
 (R (1:Int) w2)
 (Br (a0<a1)
 (R (Value.int .i64 (-1)) w2)
 (Br (a0>a1)
 (R (1:Int) w2)
 (R (0:Int) w2))))))):ah 182 #[a0,a1] w R:=
 cq cc Tryz.func182 h
def sD.vc{a0:Sl}{a2:Sl}(h:
 (0:Int)<=a1/\a1<=((a0.n:Nat):Int)/\Br ((((a2.n:Nat):Int):Int)==0)
 (R a0 w)
 (Br (a1==((a0.n:Nat):Int))
 (∃l0:LV,Rd w a2.a l0/\aF 32 4 w a0 a2.n l0/\∀(s1:Sl)(w2:World),aE 120 4 w a0 a2.n l0 s1 w2->
 R s1 w2)
 (Br (decide (((ai (((a0.n:Nat):Int)+((a2.n:Nat):Int))):Int)>((a0.c:Nat):Int)))
 ((0:Int)<=a1/\a1<=((a0.c:Nat):Int)/\((0:Int)<=(ai ((ai (((a0.n:Nat):Int)+((a2.n:Nat):Int)))-a1))/\ai (ai ((ai (((a0.n:Nat):Int)+((a2.n:Nat):Int)))-a1))=(ai ((ai (((a0.n:Nat):Int)+((a2.n:Nat):Int)))-a1))/\((ai ((ai (((a0.n:Nat):Int)+((a2.n:Nat):Int)))-a1)):Int)*32<=281474976710656)/\aF 32 4 w ⟨(aA a0.a (0) (a0.c) 4),((a1:Int).toNat-0),(a0.c-0)⟩ ((ai ((ai (((a0.n:Nat):Int)+((a2.n:Nat):Int)))-a1)):Int).toNat (br [af,af,af,af] ((ai ((ai (((a0.n:Nat):Int)+((a2.n:Nat):Int)))-a1)):Int).toNat)/\∀(s3:Sl)(w4:World),aE 120 4 w ⟨(aA a0.a (0) (a0.c) 4),((a1:Int).toNat-0),(a0.c-0)⟩ ((ai ((ai (((a0.n:Nat):Int)+((a2.n:Nat):Int)))-a1)):Int).toNat (br [af,af,af,af] ((ai ((ai (((a0.n:Nat):Int)+((a2.n:Nat):Int)))-a1)):Int).toNat) s3 w4->
 (0:Int)<=a1/\a1<=((s3.n:Nat):Int)/\∃l5:LV,(l5.length=min a2.n (s3.n-(a1:Int).toNat)*4/\Rd w4 a2.a l5/\One l5/\Wr w4 (aA s3.a ((a1:Int).toNat) (s3.c) 4) l5.length)/\(∀w6,w6=bc w4 (aA s3.a ((a1:Int).toNat) (s3.c) 4) l5->
 (0:Int)<=(ai (a1+((a2.n:Nat):Int)))/\(ai (a1+((a2.n:Nat):Int)))<=((s3.n:Nat):Int)/\(0:Int)<=a1/\a1<=((a0.n:Nat):Int)/\∃l7:LV,(l7.length=min (a0.n-(a1:Int).toNat) (s3.n-((ai (a1+((a2.n:Nat):Int))):Int).toNat)*4/\Rd w6.drew (aA a0.a ((a1:Int).toNat) (a0.c) 4) l7/\One l7/\Wr w6.drew (aA s3.a (((ai (a1+((a2.n:Nat):Int))):Int).toNat) (s3.c) 4) l7.length)/\(∀w8,w8=bc w6.drew (aA s3.a (((ai (a1+((a2.n:Nat):Int))):Int).toNat) (s3.c) 4) l7->
 R s3 w8)))
 ((0:Int)<=(ai (((a0.n:Nat):Int)+((a2.n:Nat):Int)))/\(ai (((a0.n:Nat):Int)+((a2.n:Nat):Int)))<=((a0.c:Nat):Int)/\(0:Int)<=(ai (a1+((a2.n:Nat):Int)))/\(ai (a1+((a2.n:Nat):Int)))<=(((((ai (((a0.n:Nat):Int)+((a2.n:Nat):Int))):Int).toNat-0):Nat):Int)/\R6 Tryz.prog 222 [a2,.slice (aA (aA a0.a (0) (a0.c) 4) (((ai (a1+((a2.n:Nat):Int))):Int).toNat) ((a0.c-0)) 4) ((((ai (((a0.n:Nat):Int)+((a2.n:Nat):Int))):Int).toNat-0)-((ai (a1+((a2.n:Nat):Int))):Int).toNat) ((a0.c-0)-((ai (a1+((a2.n:Nat):Int))):Int).toNat)] w (λe w9=>∃(Xl:Bool),e=Xl/\
 Br (!Xl)
 ((0:Int)<=(ai (a1+((a2.n:Nat):Int)))/\(ai (a1+((a2.n:Nat):Int)))<=(((((ai (((a0.n:Nat):Int)+((a2.n:Nat):Int))):Int).toNat-0):Nat):Int)/\(0:Int)<=a1/\a1<=(((((ai (((a0.n:Nat):Int)+((a2.n:Nat):Int))):Int).toNat-0):Nat):Int)/\∃l11:LV,(l11.length=min ((((ai (((a0.n:Nat):Int)+((a2.n:Nat):Int))):Int).toNat-0)-(a1:Int).toNat) ((((ai (((a0.n:Nat):Int)+((a2.n:Nat):Int))):Int).toNat-0)-((ai (a1+((a2.n:Nat):Int))):Int).toNat)*4/\Rd w9.drew (aA (aA a0.a (0) (a0.c) 4) ((a1:Int).toNat) ((a0.c-0)) 4) l11/\One l11/\Wr w9.drew (aA (aA a0.a (0) (a0.c) 4) (((ai (a1+((a2.n:Nat):Int))):Int).toNat) ((a0.c-0)) 4) l11.length)/\(∀bS,bS=bc w9.drew (aA (aA a0.a (0) (a0.c) 4) (((ai (a1+((a2.n:Nat):Int))):Int).toNat) ((a0.c-0)) 4) l11->
 (0:Int)<=a1/\a1<=(((((ai (((a0.n:Nat):Int)+((a2.n:Nat):Int))):Int).toNat-0):Nat):Int)/\∃l13:LV,(l13.length=min a2.n ((((ai (((a0.n:Nat):Int)+((a2.n:Nat):Int))):Int).toNat-0)-(a1:Int).toNat)*4/\Rd bS a2.a l13/\One l13/\Wr bS (aA (aA a0.a (0) (a0.c) 4) ((a1:Int).toNat) ((a0.c-0)) 4) l13.length)/\(∀bY,bY=bc bS (aA (aA a0.a (0) (a0.c) 4) ((a1:Int).toNat) ((a0.c-0)) 4) l13->
 R (Value.slice (aA a0.a (0) (a0.c) 4) (((ai (((a0.n:Nat):Int)+((a2.n:Nat):Int))):Int).toNat-0) (a0.c-0)) bY)))
 ((0:Int)<=((a0.n:Nat):Int)/\((a0.n:Nat):Int)<=(((((ai (((a0.n:Nat):Int)+((a2.n:Nat):Int))):Int).toNat-0):Nat):Int)/\∃l15:LV,(l15.length=min a2.n ((((ai (((a0.n:Nat):Int)+((a2.n:Nat):Int))):Int).toNat-0)-(((a0.n:Nat):Int):Int).toNat)*4/\Rd w9 a2.a l15/\One l15/\Wr w9 (aA (aA a0.a (0) (a0.c) 4) ((((a0.n:Nat):Int):Int).toNat) ((a0.c-0)) 4) l15.length)/\(∀cY,cY=bc w9 (aA (aA a0.a (0) (a0.c) 4) ((((a0.n:Nat):Int):Int).toNat) ((a0.c-0)) 4) l15->
 (0:Int)<=a1/\a1<=(((((ai (((a0.n:Nat):Int)+((a2.n:Nat):Int))):Int).toNat-0):Nat):Int)/\ah 223 #[.slice (aA (aA a0.a (0) (a0.c) 4) ((a1:Int).toNat) ((a0.c-0)) 4) ((((ai (((a0.n:Nat):Int)+((a2.n:Nat):Int))):Int).toNat-0)-(a1:Int).toNat) ((a0.c-0)-(a1:Int).toNat),((a2.n:Nat):Int)] cY (λe cE=>e=FX/\
 R (Value.slice (aA a0.a (0) (a0.c) 4) (((ai (((a0.n:Nat):Int)+((a2.n:Nat):Int))):Int).toNat-0) (a0.c-0)) cE)))))))):ah 183 #[a0,a1,a2] w R:=
 cq cc Tryz.func183 h
def uk.vc{a0:Sl}(h:
 Br (a0.a).isNone
 (R (Value.slice none 0 0) w)
 (Aw w #[] 120 λw0=>
 ∃l1:LV,Rd w0 a0.a l1/\aF 32 4 w0 ⟨(bu w),0,0⟩ a0.n l1/\∀(s2:Sl)(w3:World),aE 120 4 w0 ⟨(bu w),0,0⟩ a0.n l1 s2 w3->Kp w w0 w3/\
 R s2 w3)):ah 98 #[a0] w R:=
 cq cc Tryz.func98 h
def pf.vc{a0:Sl}{a1:Value}(h:
 ∃I0:Nat->Int->World->Prop,
 (∃n1,I0 n1 (0) w)/\
 ∀(n1:Nat)(oB:Nat->Value)(x3:Int)(w4:World),I0 n1 x3 w4->
 Br (decide (x3<((a0.n:Nat):Int)))
 (cA a0.a x3 a0.n/\∃(x6 x7 x8 x9:Int),au w4 (ae a0.a ((x3:Int).toNat*4)) 0 [x6,x7,x8,x9]/\
 dJ Tryz.prog a1 [.agg #[x6,x7,x8,x9]] w4 (λe bL=>∃(F7:Bool),e=F7/\
 Br F7
 (R x3 bL)
 (∃n5,n5<n1/\I0 n5 ((ai (x3+1))) bL)))
 (R (Value.int .i64 (-1)) w4)):ah 220 #[a0,a1] w R:=
 cq ⟨[(2,⟨[(8,.int .i64)],[],[]⟩)],[],[]⟩ Tryz.func220 h
def Ct.vc(h:
 R (Value.bool (a0 !=a0)) w):ah 221 #[a0] w R:=
 cq cc Tryz.func221 h
end Go.Proofs.YtalpkjfpmdpbiaaGreatDoor
