import Derived.Test.YtkkkfkopcfdmaaaGreatDoorE
import Derived.Test.YtkkkfkopcfdmaaaGreatDoorC
import Derived.Test.YtkkkfkopcfdmaaaGreatDoorD
set_option linter.all false
namespace Go.Proofs.YtkkkfkopcfdmaaaGreatDoor
open Go Go.Vc Go.RowKit Go.Proofs
set_option maxRecDepth 100000
set_option maxHeartbeats 8000000
set_option linter.unusedVariables false
variable {R:Ending->World->Prop} {w:World} {a0 a1 a2 a3 a4 a5 a6 a7 a8 a9 aA aq au aT aU aX bN bI bJ EU ak ao aw bw bR bP eZ fa eL EV br bG bq yC yD wC wD yE yF yG EW EX EY EZ E0 E1 E2 E3 E4 E5:Int}
theorem UI.vc (h:
 ∀w0,w0=w.alloc (.map #[] 0)->
 ∀w1,w1=w0.alloc (.cells #[.int .i64 (if 4096<(if 1>a0 then 1 else a0) then 4096 else (if 1>a0 then 1 else a0)),ab,.slice none 0 0,.map (some w.heap.size)] 226)->
 R (Value.pointer (some ⟨w0,0,none⟩)) w1):ah 97 #[a0] w R:=
 cq bT Tryz.func97 h
theorem B0.vc {a0:Addr} (h:
 ∀w0,w0=w.alloc (.cells #[ak,ao,aw] 41)->
 ah 262 #[a0,.agg #[ak,ao,aw]] w0 (λe w1=>∃(x2:Int) (b3:Bool),e=Value.tuple #[x2,b3]/\Kp w w0 w1/\
 Br b3
 (Br (x2<=a2)
 (R false w1)
 (Br b3
 (ah 263 #[a0,.agg #[ak,ao,aw]] w1 (Rb λb5 w4=>Kp w w1 w4/\
 ah 264 #[a0,.agg #[a2,ak,ao,aw]] w4 (Rt λw6=>Kp w w4 w6/\
 R true w6)))
 (∃(s7:Sl),ld w1.drew (ae (some a0) 2)=some (.slice s7.a s7.n s7.c)/\
 ∃(x8:Int),ld w1.drew (ae (some a0) 0)=some (.int .i64 x8)/\
 Br ((((s7.n:Nat):Int):Int)==x8)
 (∃(x9:Int),ld w1.drew (ae (some a0) 1)=some (.int .i64 x9)/\
 (true=true/\Wr w1.drew (ae (some a0) 1) 1)/\bC (ae (some a0) 1)≠some w.heap.size/\(∀bD,bD=aG w1.drew (ae (some a0) 1) [(aj (x9+1))]->
 R false bD))
 (ah 264 #[a0,.agg #[a2,ak,ao,aw]] w1.drew (Rt λaW=>Kp w w1.drew aW/\
 R true aW)))))
 (Br b3
 (ah 263 #[a0,.agg #[ak,ao,aw]] w1 (Rb λE6 cM=>Kp w w1 cM/\
 ah 264 #[a0,.agg #[a2,ak,ao,aw]] cM (Rt λbK=>Kp w cM bK/\
 R true bK)))
 (∃(lg:Sl),ld w1.drew (ae (some a0) 2)=some (.slice lg.a lg.n lg.c)/\
 ∃(cp:Int),ld w1.drew (ae (some a0) 0)=some (.int .i64 cp)/\
 Br ((((lg.n:Nat):Int):Int)==cp)
 (∃(cT:Int),ld w1.drew (ae (some a0) 1)=some (.int .i64 cT)/\
 (true=true/\Wr w1.drew (ae (some a0) 1) 1)/\bC (ae (some a0) 1)≠some w.heap.size/\(∀dA,dA=aG w1.drew (ae (some a0) 1) [(aj (cT+1))]->
 R false dA))
 (ah 264 #[a0,.agg #[a2,ak,ao,aw]] w1.drew (Rt λfy=>Kp w w1.drew fy/\
 R true fy)))))):ah 211 #[a0,.agg #[ak,ao,aw],a2] w R:=
 cq bT Tryz.func211 h
theorem BU.vc {a0:Addr} (h:
 ∃I0:Nat->Int->World->Prop,
 (∃n1,I0 n1 (0) w)/\
 ∀(n1:Nat) (wM:Nat->Value) (x3:Int) (w4:World),I0 n1 x3 w4->
 ∃(s6:Sl),ld w4 (ae (some a0) 2)=some (.slice s6.a s6.n s6.c)/\
 Br (decide (x3<((s6.n:Nat):Int)))
 (Br (x3<a2)
 (∃(s7:Sl),ld w4 (ae (some a0) 2)=some (.slice s7.a s7.n s7.c)/\
 ee s7.a x3 s7.n/\aP (dB (ae s7.a ((x3:Int).toNat*4))) (∃(x8:Int),ld w4 (ae (ae s7.a ((x3:Int).toNat*4)) 0)=some (.int .i64 x8)/\
 Br (x8<=a1)
 (∃n5,n5<n1/\I0 n5 ((aj (x3+1))) w4)
 (∃(s9:Sl),ld w4 (ae (some a0) 2)=some (.slice s9.a s9.n s9.c)/\
 (0:Int)<=x3/\x3<=((s9.c:Nat):Int)/\(0:Int)<=x3/\x3<=x3/\∃Cj:Nat->Int->Sl->World->Prop,
 (∃rU,Cj rU (0) ⟨none,0,0⟩ w4)/\
 ∀(rU:Nat) (agu:Nat->Value) (cc:Int) (ZF:Sl) (dY:World),Cj rU cc ZF dY->
 Br (decide (cc<((((x3:Int).toNat-0):Nat):Int)))
 (ee (aJ s9.a (0) ((x3:Int).toNat) 4) cc ((x3:Int).toNat-0)/\∃(cT cg cr cZ:Int),ag dY (ae (aJ s9.a (0) ((x3:Int).toNat) 4) ((cc:Int).toNat*4)) 0 [cT,cg,cr,cZ]/\
 ∀ed,ed=dY.alloc (.cells #[ab,ab,ab,ab] 157)->
 ∀cL,cL=ed.setRow dY #[cT,cg,cr,cZ]->
 ∀dT,dT=cL.alloc (.cells #[cg,cr,cZ] 41)->
 ba 24 3 dT ZF 1 [cg,cr,cZ]/\∀(rE:Sl) (cP:World),aV 41 3 dT ZF 1 [cg,cr,cZ] rE cP->K2 dY cL dT cP (
 ∃(m26:Option Nat),ld cP.drew (ae (some a0) 3)=some (.map m26)/\
 ∃(G27:Value->Prop) (kvs28:List (Value × Value)),iE Tryz.prog 41 G27/\(m26:Option Nat).isSome=true/\cj G27 cP.drew m26 kvs28/\G27 (.agg #[cg,cr,cZ])/\∀dH:World,Rec ((m26:Option Nat).getD 0) cP.drew dH->cj G27 dH m26 (Ed kvs28 (.agg #[cg,cr,cZ]))->
 ∃J7,J7<rU/\Cj J7 ((aj (cc+1))) rE dH))
 (∃(sS:Sl),ld dY (ae (some a0) 2)=some (.slice sS.a sS.n sS.c)/\
 ah 241 #[sS,ab,x3] dY (λe fj=>∃(oB:Sl),e=oB/\
 (true=true/\Wr fj (ae (some a0) 2) 1)/\(∀ej,ej=aG fj (ae (some a0) 2) [oB]->
 R ZF ej))))))
 (∃(s34:Sl),ld w4 (ae (some a0) 2)=some (.slice s34.a s34.n s34.c)/\
 (0:Int)<=x3/\x3<=((s34.c:Nat):Int)/\(0:Int)<=x3/\x3<=x3/\∃I35:Nat->Int->Sl->World->Prop,
 (∃n36,I35 n36 (0) ⟨none,0,0⟩ w4)/\
 ∀(n36:Nat) (azc:Nat->Value) (fX:Int) (Sv:Sl) (ik:World),I35 n36 fX Sv ik->
 Br (decide (fX<((((x3:Int).toNat-0):Nat):Int)))
 (ee (aJ s34.a (0) ((x3:Int).toNat) 4) fX ((x3:Int).toNat-0)/\∃(lZ pj kD pk:Int),ag ik (ae (aJ s34.a (0) ((x3:Int).toNat) 4) ((fX:Int).toNat*4)) 0 [lZ,pj,kD,pk]/\
 ∀m7,m7=ik.alloc (.cells #[ab,ab,ab,ab] 157)->
 ∀jQ,jQ=m7.setRow ik #[lZ,pj,kD,pk]->
 ∀fG,fG=jQ.alloc (.cells #[pj,kD,pk] 41)->
 ba 24 3 fG Sv 1 [pj,kD,pk]/\∀(s49:Sl) (kM:World),aV 41 3 fG Sv 1 [pj,kD,pk] s49 kM->K2 ik jQ fG kM (
 ∃(m51:Option Nat),ld kM.drew (ae (some a0) 3)=some (.map m51)/\
 ∃(G52:Value->Prop) (kvs53:List (Value × Value)),iE Tryz.prog 41 G52/\(m51:Option Nat).isSome=true/\cj G52 kM.drew m51 kvs53/\G52 (.agg #[pj,kD,pk])/\∀Bs:World,Rec ((m51:Option Nat).getD 0) kM.drew Bs->cj G52 Bs m51 (Ed kvs53 (.agg #[pj,kD,pk]))->
 ∃n41,n41<n36/\I35 n41 ((aj (fX+1))) s49 Bs))
 (∃(s55:Sl),ld ik (ae (some a0) 2)=some (.slice s55.a s55.n s55.c)/\
 ah 241 #[s55,ab,x3] ik (λe ov=>∃(s57:Sl),e=s57/\
 (true=true/\Wr ov (ae (some a0) 2) 1)/\(∀jZ,jZ=aG ov (ae (some a0) 2) [s57]->
 R Sv jZ)))))
 (∃(s59:Sl),ld w4 (ae (some a0) 2)=some (.slice s59.a s59.n s59.c)/\
 (0:Int)<=x3/\x3<=((s59.c:Nat):Int)/\(0:Int)<=x3/\x3<=x3/\∃I60:Nat->Int->Sl->World->Prop,
 (∃n61,I60 n61 (0) ⟨none,0,0⟩ w4)/\
 ∀(n61:Nat) (azd:Nat->Value) (sb:Int) (s64:Sl) (E7:World),I60 n61 sb s64 E7->
 Br (decide (sb<((((x3:Int).toNat-0):Nat):Int)))
 (ee (aJ s59.a (0) ((x3:Int).toNat) 4) sb ((x3:Int).toNat-0)/\∃(od nt pz oC:Int),ag E7 (ae (aJ s59.a (0) ((x3:Int).toNat) 4) ((sb:Int).toNat*4)) 0 [od,nt,pz,oC]/\
 ∀w71,w71=E7.alloc (.cells #[ab,ab,ab,ab] 157)->
 ∀Ke,Ke=w71.setRow E7 #[od,nt,pz,oC]->
 ∀FG,FG=Ke.alloc (.cells #[nt,pz,oC] 41)->
 ba 24 3 FG s64 1 [nt,pz,oC]/\∀(s74:Sl) (pn:World),aV 41 3 FG s64 1 [nt,pz,oC] s74 pn->K2 E7 Ke FG pn (
 ∃(m76:Option Nat),ld pn.drew (ae (some a0) 3)=some (.map m76)/\
 ∃(G77:Value->Prop) (kvs78:List (Value × Value)),iE Tryz.prog 41 G77/\(m76:Option Nat).isSome=true/\cj G77 pn.drew m76 kvs78/\G77 (.agg #[nt,pz,oC])/\∀N3:World,Rec ((m76:Option Nat).getD 0) pn.drew N3->cj G77 N3 m76 (Ed kvs78 (.agg #[nt,pz,oC]))->
 ∃n66,n66<n61/\I60 n66 ((aj (sb+1))) s74 N3))
 (∃(s80:Sl),ld E7 (ae (some a0) 2)=some (.slice s80.a s80.n s80.c)/\
 ah 241 #[s80,ab,x3] E7 (λe qq=>∃(s82:Sl),e=s82/\
 (true=true/\Wr qq (ae (some a0) 2) 1)/\(∀Nw,Nw=aG qq (ae (some a0) 2) [s82]->
 R s64 Nw))))):ah 172 #[a0,a1,a2] w R:=
 cq ⟨[(6,⟨[(45,.int .i64),(8,.slice)],[],[]⟩),(6,⟨[(45,.int .i64),(8,.slice)],[],[]⟩),(6,⟨[(45,.int .i64),(8,.slice)],[],[]⟩),(2,⟨[(7,.int .i64)],[],[]⟩)],[],[]⟩ Tryz.func172 h
theorem Ee.vc {a0:Addr} (h:
 ∀w0,w0=w.alloc (.cells #[ak,ao,aw] 41)->
 ∃(m1:Option Nat),ld w0.drew (ae (some a0) 3)=some (.map m1)/\
 ∃(G2:Value->Prop) (kvs3:List (Value × Value)),iE Tryz.prog 41 G2/\cj G2 w0.drew m1 kvs3/\G2 (.agg #[ak,ao,aw])/\∃(x4:Int),∃b5:Bool,F7 kvs3 (.agg #[ak,ao,aw]) (0:Int) x4 b5/\
 R (Value.tuple #[x4,b5]) w0.drew):ah 262 #[a0,.agg #[ak,ao,aw]] w R:=
 cq bT Tryz.func262 h
theorem Ae.vc {a0:Addr} (h:
 ∀w0,w0=w.alloc (.cells #[ak,ao,aw] 41)->
 ∃(m1:Option Nat),ld w0.drew (ae (some a0) 3)=some (.map m1)/\
 ∃(G2:Value->Prop) (kvs3:List (Value × Value)),iE Tryz.prog 41 G2/\cj G2 w0.drew m1 kvs3/\G2 (.agg #[ak,ao,aw])/\∃(x4:Int),∃b5:Bool,F7 kvs3 (.agg #[ak,ao,aw]) (0:Int) x4 b5/\
 Br (!b5)
 (R false w0.drew)
 (∃(m6:Option Nat),ld w0.drew.drew (ae (some a0) 3)=some (.map m6)/\
 ∃(G7:Value->Prop) (kvs8:List (Value × Value)),iE Tryz.prog 41 G7/\(m6:Option Nat).isSome=true/\cj G7 w0.drew.drew m6 kvs8/\G7 (.agg #[ak,ao,aw])/\∀w9:World,Rec ((m6:Option Nat).getD 0) w0.drew.drew w9->cj G7 w9 m6 (Ed kvs8 (.agg #[ak,ao,aw]))->
 ∃(wT:Sl),ld w9 (ae (some a0) 2)=some (.slice wT.a wT.n wT.c)/\
 ah 286 #[wT,.func (.func 287) #[] #[w]] w9 (λe aW=>∃(jJ:Sl),e=jJ/\
 (true=true/\Wr aW (ae (some a0) 2) 1)/\(∀bF,bF=aG aW (ae (some a0) 2) [jJ]->
 R true bF)))):ah 263 #[a0,.agg #[ak,ao,aw]] w R:=
 cq bT Tryz.func263 h
theorem Ab.vc {a0:Addr} (h:
 ∀w0,w0=w.alloc (.cells #[ak,ao,aw,bw] 157)->
 ∃(s1:Sl),ld w0.drew (ae (some a0) 2)=some (.slice s1.a s1.n s1.c)/\
 ah 288 #[s1,.agg #[ak,ao,aw,bw],.func (.func 289) #[] #[]] w0.drew (λe w2=>∃(x3:Int) (b4:Bool),e=Value.tuple #[x3,b4]/\Kp w w0.drew w2/\
 ∃(s5:Sl),ld w2.drew (ae (some a0) 2)=some (.slice s5.a s5.n s5.c)/\
 ∀w6,w6=w2.drew.alloc (.cells #[ak,ao,aw,bw] 157)->
 ah 292 #[s5,x3,.slice (some ⟨w2.drew.heap.size,0,none⟩) 1 1] w6 (Rs λs8 w7=>Kp w w6 w7/\
 (true=true/\Wr w7 (ae (some a0) 2) 1)/\bC (ae (some a0) 2)≠some w.heap.size/\(∀w9,w9=aG w7 (ae (some a0) 2) [s8]->
 ∃(m10:Option Nat),ld w9.drew (ae (some a0) 3)=some (.map m10)/\
 ∃(G11:Value->Prop) (kvs12:List (Value × Value)),iE Tryz.prog 41 G11/\(m10:Option Nat).isSome=true/\cj G11 w9.drew m10 kvs12/\G11 (.agg #[ao,aw,bw])/\∀bF:World,Rec ((m10:Option Nat).getD 0) w9.drew bF->cj G11 bF m10 (vI kvs12 (.agg #[ao,aw,bw]) ak)->
 R sY bF)))):ah 264 #[a0,.agg #[ak,ao,aw,bw]] w R:=
 cq bT Tryz.func264 h
theorem vw.vc {a0:Sl} (h:
 (0:Int)<=((a0.n:Nat):Int)/\((a0.n:Nat):Int)<=((a0.c:Nat):Int)/\(0:Int)<=a2/\a2<=((a0.n:Nat):Int)/\(0:Int)<=a1/\a1<=a2/\Br (a1==a2)
 (R a0 w)
 ((0:Int)<=a1/\a1<=((a0.c:Nat):Int)/\(0:Int)<=a2/\a2<=((a0.n:Nat):Int)/\∃l0:LV,Rd w.drew (aJ a0.a ((a2:Int).toNat) (a0.c) 4) l0/\ba 32 4 w.drew ⟨(aJ a0.a (0) (a0.c) 4),((a1:Int).toNat-0),(a0.c-0)⟩ (a0.n-(a2:Int).toNat) l0/\∀(s1:Sl) (w2:World),aV 157 4 w.drew ⟨(aJ a0.a (0) (a0.c) 4),((a1:Int).toNat-0),(a0.c-0)⟩ (a0.n-(a2:Int).toNat) l0 s1 w2->
 (0:Int)<=((a0.n:Nat):Int)/\((a0.n:Nat):Int)<=((s1.c:Nat):Int)/\(0:Int)<=((s1.n:Nat):Int)/\(((s1.n:Nat):Int):Int)<=((a0.n:Nat):Int)/\Wr w2 (aJ s1.a ((((s1.n:Nat):Int):Int).toNat) (s1.c) 4) (((((a0.n:Nat):Int):Int).toNat-(((s1.n:Nat):Int):Int).toNat)*4)/\(∀w3,w3=aG w2 (aJ s1.a ((((s1.n:Nat):Int):Int).toNat) (s1.c) 4) (bn [ab,ab,ab,ab] ((((a0.n:Nat):Int):Int).toNat-(((s1.n:Nat):Int):Int).toNat))->
 R s1 w3))):ah 241 #[a0,a1,a2] w R:=
 cq bT Tryz.func241 h
theorem BT.vc {a0:Addr} (h:
 ∃(s0:Sl),ld w (ae (some a0) 2)=some (.slice s0.a s0.n s0.c)/\
 ah 191 #[s0] w (λe w1=>∃(s2:Sl),e=s2/\
 R s2 w1)):ah 138 #[a0] w R:=
 cq bT Tryz.func138 h
theorem qF.vc {a0:Sl} {a1:Value} (h:
 ah 304 #[a0,a1] w (λe w0=>∃(x1:Int),e=x1/\
 Br (x1==(-1))
 (R a0 w0)
 (∃I2:Nat->Int->Int->World->Prop,
 (∃n3,I2 n3 ((aj (x1+1))) x1 w0)/\
 ∀(n3:Nat) (us4:Nat->Value) (x5 x6:Int) (w7:World),I2 n3 x5 x6 w7->
 Br (decide (x5<((a0.n:Nat):Int)))
 (ee a0.a x5 a0.n/\∃(x9 bj bz bU:Int),ag w7 (ae a0.a ((x5:Int).toNat*4)) 0 [x9,bj,bz,bU]/\
 ∀bF,bF=w7.alloc (.cells #[ab,ab,ab,ab] 157)->
 ∀bK,bK=bF.setRow w7 #[x9,bj,bz,bU]->
 cw Tryz.prog a1 [.agg #[x9,bj,bz,bU]] bK (Rb λb16 dY=>Kp w7 bK dY/\
 Br (!b16)
 (ee a0.a x6 a0.n/\(((ae a0.a ((x6:Int).toNat*4))).isSome=true/\Wr dY (ae a0.a ((x6:Int).toNat*4)) 4)/\bC (ae a0.a ((x6:Int).toNat*4))≠some w7.heap.size/\(∀cE,cE=aG dY (ae a0.a ((x6:Int).toNat*4)) [x9,bj,bz,bU]->
 ∃n8,n8<n3/\I2 n8 ((aj (x5+1))) ((aj (x6+1))) cE))
 (∃n8,n8<n3/\I2 n8 ((aj (x5+1))) x6 dY)))
 ((0:Int)<=x6/\x6<=((a0.n:Nat):Int)/\Wr w7 (aJ a0.a ((x6:Int).toNat) (a0.c) 4) ((a0.n-(x6:Int).toNat)*4)/\(∀dA,dA=aG w7 (aJ a0.a ((x6:Int).toNat) (a0.c) 4) (bn [ab,ab,ab,ab] (a0.n-(x6:Int).toNat))->
 (0:Int)<=x6/\x6<=((a0.c:Nat):Int)/\R (Value.slice (aJ a0.a (0) (a0.c) 4) ((x6:Int).toNat-0) (a0.c-0)) dA))))):ah 286 #[a0,a1] w R:=
 cq ⟨[(5,⟨[(6,.int .i64),(5,.int .i64)],[],[]⟩)],[],[]⟩ Tryz.func286 h
theorem wh.vc {c0:Addr} (h:
 ∀w0,w0=w.alloc (.cells #[aA,aq,au,aT] 157)->
 ∃(x1 x2 x3:Int),ag w0 (some c0) 0 [x1,x2,x3]/\
 R (Value.bool ((aq==x1) &&((au==x2) &&(aT==x3)))) w0):ah 287 #[.agg #[aA,aq,au,aT],c0] w R:=
 cq bT Tryz.func287 h
theorem mw.vc {a0:Sl} {a2:Value} (h:
 ∀w0,w0=w.alloc (.cells #[ak,ao,aw,bw] 157)->
 ∃I1:Nat->Int->Int->World->Prop,
 (∃n2,aO [ak,ao,aw,bw]/\I1 n2 (0) (((a0.n:Nat):Int)) w0)/\
 ∀(n2:Nat) (us3:Nat->Value) (x4 x5:Int) (w6:World),I1 n2 x4 x5 w6->
 Br (x4<x5)
 (ee a0.a (aj (((c5 (aj (x4+x5))):Int).fdiv (2 ^(min (1:Int).toNat 64)))) a0.n/\∃(x8 x9 bj bz:Int),ag w6.drew (ae a0.a (((aj (((c5 (aj (x4+x5))):Int).fdiv (2 ^(min (1:Int).toNat 64)))):Int).toNat*4)) 0 [x8,x9,bj,bz]/\
 cw Tryz.prog a2 [.agg #[x8,x9,bj,bz],.agg #[ak,ao,aw,bw]] w6.drew (Ri λcc cM=>Kp w w6.drew cM/\
 Br (cc<0)
 (∃n7,n7<n2/\aO [ak,ao,aw,bw]/\I1 n7 ((aj ((aj (((c5 (aj (x4+x5))):Int).fdiv (2 ^(min (1:Int).toNat 64))))+1))) x5 cM)
 (∃n7,n7<n2/\aO [ak,ao,aw,bw]/\I1 n7 x4 ((aj (((c5 (aj (x4+x5))):Int).fdiv (2 ^(min (1:Int).toNat 64))))) cM)))
 (Br (decide (x4<((a0.n:Nat):Int)))
 (ee a0.a x4 a0.n/\∃(bW cm cp cT:Int),ag w6.drew (ae a0.a ((x4:Int).toNat*4)) 0 [bW,cm,cp,cT]/\
 cw Tryz.prog a2 [.agg #[bW,cm,cp,cT],.agg #[ak,ao,aw,bw]] w6.drew (Ri λcr dA=>Kp w w6.drew dA/\
 R (Value.tuple #[x4,.bool (cr==0)]) dA))
 (R (Value.tuple #[x4,false]) w6.drew))):ah 288 #[a0,.agg #[ak,ao,aw,bw],a2] w R:=
 cq ⟨[(3,⟨[(9,.int .i64),(10,.int .i64)],[],[]⟩)],[],[]⟩ Tryz.func288 h
theorem wi.vc (h:
 ∀w0,w0=w.alloc (.cells #[aA,aq,au,aT] 157)->
 ∀w1,w1=w0.alloc (.cells #[ak,ao,aw,bw] 157)->
 ah 291 #[aA,ak] w1 (Ri λx3 w2=>K2 w w0 w1 w2 (
 ∀w4,w4=w2.alloc (.cells #[x3,(-1:Int)] 3)->
 ah 290 #[.slice (some ⟨w2,0,none⟩) 2 2] w4 (Ri λx6 w5=>K2 w w0 w4 w5 (
 R x6 w5))))):ah 289 #[.agg #[aA,aq,au,aT],.agg #[ak,ao,aw,bw]] w R:=
 cq bT Tryz.func289 h
theorem Qq.vc {a0:Sl} (h:
 ∃I0:Nat->Int->World->Prop,
 (∃n1,I0 n1 (0) w)/\
 ∀(n1:Nat) (wM:Nat->Value) (x3:Int) (w4:World),I0 n1 x3 w4->
 Br (decide (x3<((a0.n:Nat):Int)))
 (ee a0.a x3 a0.n/\∃(x6:Int),ld w4 (ae a0.a ((x3:Int).toNat*1))=some (.int .i64 x6)/\
 Br (x6 !=0)
 (R x6 w4)
 (∃n5,n5<n1/\I0 n5 ((aj (x3+1))) w4))
 (R (0:Int) w4)):ah 290 #[a0] w R:=
 cq ⟨[(3,⟨[(8,.int .i64)],[],[]⟩)],[],[]⟩ Tryz.func290 h
theorem B3.vc (h:
 ah 305 #[a0] w (λe w0=>∃(b1:Bool),e=b1/\
 ah 305 #[a1] w0 (λe w2=>∃(b3:Bool),e=b3/\
 Br b1
 (Br b3
 (R (0:Int) w2)
 (R (Value.int .i64 (-1)) w2))
 (Br b3
 (R (1:Int) w2)
 (Br (a0<a1)
 (R (Value.int .i64 (-1)) w2)
 (Br (a0>a1)
 (R (1:Int) w2)
 (R (0:Int) w2))))))):ah 291 #[a0,a1] w R:=
 cq bT Tryz.func291 h
theorem wm.vc {a0:Sl} {a2:Sl} (h:
 (0:Int)<=a1/\a1<=((a0.n:Nat):Int)/\Br ((((a2.n:Nat):Int):Int)==0)
 (R a0 w)
 (Br (a1==((a0.n:Nat):Int))
 (∃l0:LV,Rd w a2.a l0/\ba 32 4 w a0 a2.n l0/\∀(s1:Sl) (w2:World),aV 157 4 w a0 a2.n l0 s1 w2->
 R s1 w2)
 (Br (decide (((aj (((a0.n:Nat):Int)+((a2.n:Nat):Int))):Int)>((a0.c:Nat):Int)))
 ((0:Int)<=a1/\a1<=((a0.c:Nat):Int)/\((0:Int)<=(aj ((aj (((a0.n:Nat):Int)+((a2.n:Nat):Int)))-a1))/\aj (aj ((aj (((a0.n:Nat):Int)+((a2.n:Nat):Int)))-a1))=(aj ((aj (((a0.n:Nat):Int)+((a2.n:Nat):Int)))-a1))/\((aj ((aj (((a0.n:Nat):Int)+((a2.n:Nat):Int)))-a1)):Int)*32<=281474976710656)/\ba 32 4 w ⟨(aJ a0.a (0) (a0.c) 4),((a1:Int).toNat-0),(a0.c-0)⟩ ((aj ((aj (((a0.n:Nat):Int)+((a2.n:Nat):Int)))-a1)):Int).toNat (bn [ab,ab,ab,ab] ((aj ((aj (((a0.n:Nat):Int)+((a2.n:Nat):Int)))-a1)):Int).toNat)/\∀(s3:Sl) (w4:World),aV 157 4 w ⟨(aJ a0.a (0) (a0.c) 4),((a1:Int).toNat-0),(a0.c-0)⟩ ((aj ((aj (((a0.n:Nat):Int)+((a2.n:Nat):Int)))-a1)):Int).toNat (bn [ab,ab,ab,ab] ((aj ((aj (((a0.n:Nat):Int)+((a2.n:Nat):Int)))-a1)):Int).toNat) s3 w4->
 (0:Int)<=a1/\a1<=((s3.n:Nat):Int)/\∃l5:LV,(l5.length=min a2.n (s3.n-(a1:Int).toNat)*4/\Rd w4 a2.a l5/\One l5/\Wr w4 (aJ s3.a ((a1:Int).toNat) (s3.c) 4) l5.length)/\(∀w6,w6=aG w4 (aJ s3.a ((a1:Int).toNat) (s3.c) 4) l5->
 (0:Int)<=(aj (a1+((a2.n:Nat):Int)))/\(aj (a1+((a2.n:Nat):Int)))<=((s3.n:Nat):Int)/\(0:Int)<=a1/\a1<=((a0.n:Nat):Int)/\∃l7:LV,(l7.length=min (a0.n-(a1:Int).toNat) (s3.n-((aj (a1+((a2.n:Nat):Int))):Int).toNat)*4/\Rd w6.drew (aJ a0.a ((a1:Int).toNat) (a0.c) 4) l7/\One l7/\Wr w6.drew (aJ s3.a (((aj (a1+((a2.n:Nat):Int))):Int).toNat) (s3.c) 4) l7.length)/\(∀w8,w8=aG w6.drew (aJ s3.a (((aj (a1+((a2.n:Nat):Int))):Int).toNat) (s3.c) 4) l7->
 R s3 w8)))
 ((0:Int)<=(aj (((a0.n:Nat):Int)+((a2.n:Nat):Int)))/\(aj (((a0.n:Nat):Int)+((a2.n:Nat):Int)))<=((a0.c:Nat):Int)/\(0:Int)<=(aj (a1+((a2.n:Nat):Int)))/\(aj (a1+((a2.n:Nat):Int)))<=(((((aj (((a0.n:Nat):Int)+((a2.n:Nat):Int))):Int).toNat-0):Nat):Int)/\XS Tryz.prog 306 [a2,.slice (aJ (aJ a0.a (0) (a0.c) 4) (((aj (a1+((a2.n:Nat):Int))):Int).toNat) ((a0.c-0)) 4) ((((aj (((a0.n:Nat):Int)+((a2.n:Nat):Int))):Int).toNat-0)-((aj (a1+((a2.n:Nat):Int))):Int).toNat) ((a0.c-0)-((aj (a1+((a2.n:Nat):Int))):Int).toNat)] w (λe w9=>∃(b10:Bool),e=b10/\
 Br (!b10)
 ((0:Int)<=(aj (a1+((a2.n:Nat):Int)))/\(aj (a1+((a2.n:Nat):Int)))<=(((((aj (((a0.n:Nat):Int)+((a2.n:Nat):Int))):Int).toNat-0):Nat):Int)/\(0:Int)<=a1/\a1<=(((((aj (((a0.n:Nat):Int)+((a2.n:Nat):Int))):Int).toNat-0):Nat):Int)/\∃l11:LV,(l11.length=min ((((aj (((a0.n:Nat):Int)+((a2.n:Nat):Int))):Int).toNat-0)-(a1:Int).toNat) ((((aj (((a0.n:Nat):Int)+((a2.n:Nat):Int))):Int).toNat-0)-((aj (a1+((a2.n:Nat):Int))):Int).toNat)*4/\Rd w9.drew (aJ (aJ a0.a (0) (a0.c) 4) ((a1:Int).toNat) ((a0.c-0)) 4) l11/\One l11/\Wr w9.drew (aJ (aJ a0.a (0) (a0.c) 4) (((aj (a1+((a2.n:Nat):Int))):Int).toNat) ((a0.c-0)) 4) l11.length)/\(∀cM,cM=aG w9.drew (aJ (aJ a0.a (0) (a0.c) 4) (((aj (a1+((a2.n:Nat):Int))):Int).toNat) ((a0.c-0)) 4) l11->
 (0:Int)<=a1/\a1<=(((((aj (((a0.n:Nat):Int)+((a2.n:Nat):Int))):Int).toNat-0):Nat):Int)/\∃l13:LV,(l13.length=min a2.n ((((aj (((a0.n:Nat):Int)+((a2.n:Nat):Int))):Int).toNat-0)-(a1:Int).toNat)*4/\Rd cM a2.a l13/\One l13/\Wr cM (aJ (aJ a0.a (0) (a0.c) 4) ((a1:Int).toNat) ((a0.c-0)) 4) l13.length)/\(∀bK,bK=aG cM (aJ (aJ a0.a (0) (a0.c) 4) ((a1:Int).toNat) ((a0.c-0)) 4) l13->
 R (Value.slice (aJ a0.a (0) (a0.c) 4) (((aj (((a0.n:Nat):Int)+((a2.n:Nat):Int))):Int).toNat-0) (a0.c-0)) bK)))
 ((0:Int)<=((a0.n:Nat):Int)/\((a0.n:Nat):Int)<=(((((aj (((a0.n:Nat):Int)+((a2.n:Nat):Int))):Int).toNat-0):Nat):Int)/\∃l15:LV,(l15.length=min a2.n ((((aj (((a0.n:Nat):Int)+((a2.n:Nat):Int))):Int).toNat-0)-(((a0.n:Nat):Int):Int).toNat)*4/\Rd w9 a2.a l15/\One l15/\Wr w9 (aJ (aJ a0.a (0) (a0.c) 4) ((((a0.n:Nat):Int):Int).toNat) ((a0.c-0)) 4) l15.length)/\(∀cB,cB=aG w9 (aJ (aJ a0.a (0) (a0.c) 4) ((((a0.n:Nat):Int):Int).toNat) ((a0.c-0)) 4) l15->
 (0:Int)<=a1/\a1<=(((((aj (((a0.n:Nat):Int)+((a2.n:Nat):Int))):Int).toNat-0):Nat):Int)/\ah 307 #[.slice (aJ (aJ a0.a (0) (a0.c) 4) ((a1:Int).toNat) ((a0.c-0)) 4) ((((aj (((a0.n:Nat):Int)+((a2.n:Nat):Int))):Int).toNat-0)-(a1:Int).toNat) ((a0.c-0)-(a1:Int).toNat),((a2.n:Nat):Int)] cB (λe cE=>e=sY/\
 R (Value.slice (aJ a0.a (0) (a0.c) 4) (((aj (((a0.n:Nat):Int)+((a2.n:Nat):Int))):Int).toNat-0) (a0.c-0)) cE)))))))):ah 292 #[a0,a1,a2] w R:=
 cq bT Tryz.func292 h
theorem ya.vc {a0:Sl} (h:
 Br (a0.a).isNone
 (R (Value.slice none 0 0) w)
 (∀w0,w0=w.alloc (.cells #[] 157)->
 ∃l1:LV,Rd w0 a0.a l1/\ba 32 4 w0 ⟨(some ⟨w,0,none⟩),0,0⟩ a0.n l1/\∀(s2:Sl) (w3:World),aV 157 4 w0 ⟨(some ⟨w,0,none⟩),0,0⟩ a0.n l1 s2 w3->Kp w w0 w3/\
 R s2 w3)):ah 191 #[a0] w R:=
 cq bT Tryz.func191 h
theorem sE.vc {a0:Sl} {a1:Value} (h:
 ∃I0:Nat->Int->World->Prop,
 (∃n1,I0 n1 (0) w)/\
 ∀(n1:Nat) (wM:Nat->Value) (x3:Int) (w4:World),I0 n1 x3 w4->
 Br (decide (x3<((a0.n:Nat):Int)))
 (ee a0.a x3 a0.n/\∃(x6 x7 x8 x9:Int),ag w4 (ae a0.a ((x3:Int).toNat*4)) 0 [x6,x7,x8,x9]/\
 cw Tryz.prog a1 [.agg #[x6,x7,x8,x9]] w4 (λe bD=>∃(WL:Bool),e=WL/\
 Br WL
 (R x3 bD)
 (∃n5,n5<n1/\I0 n5 ((aj (x3+1))) bD)))
 (R (Value.int .i64 (-1)) w4)):ah 304 #[a0,a1] w R:=
 cq ⟨[(2,⟨[(8,.int .i64)],[],[]⟩)],[],[]⟩ Tryz.func304 h
theorem Gl.vc (h:
 R (Value.bool (a0 !=a0)) w):ah 305 #[a0] w R:=
 cq bT Tryz.func305 h
end Go.Proofs.YtkkkfkopcfdmaaaGreatDoor
namespace Go.Proofs.YtkkkfkopcfdmaaaGreatDoor.Q
open Go Go.Vc Go.RowKit Go.Proofs Go.gw
set_option maxRecDepth 100000
abbrev tg:TypeId:=41
abbrev cC:TypeId:=157
abbrev gE:TypeId:=226
def GC (v:Value):Prop:=∃c:Cl,v=cv c
theorem qW:iE Tryz.prog tg GC:=by
 refine ⟨?_,?_,?_⟩
 ·rintro x y ⟨a,rfl⟩ ⟨b,rfl⟩;refine ⟨a.1==b.1 &&(a.2.1==b.2.1 && a.2.2==b.2.2),by kernel_rfl,?_⟩;simp only [fq,beq_iff_eq];constructor
  ·rintro ⟨h1,h2,h3⟩;unfold cv;rw [h1,h2,h3]
  ·intro h;rw [D3 h];simp
 ·rintro x ⟨a,rfl⟩ b w;kernel_rfl
 ·rintro x ⟨a,rfl⟩;simp [cv,Instr.sameBits]
theorem Ex (a:Int) (w:World):ah 305 #[a] w λe w'=>e=false/\w'=w:=by apply Gl.vc;simp
theorem Js (a b:Int) (w:World):ah 291 #[a,b] w λe w'=>e=Value.int .i64 (if a<b then -1 else if b<a then 1 else 0)/\w'=w:=by
 apply B3.vc;refine (Ex a w).mono ?_;rintro e w1 ⟨rfl,rfl⟩;refine ⟨_,rfl,(Ex b w1).mono ?_⟩;rintro e w2 ⟨rfl,rfl⟩;refine ⟨_,rfl,Br.mk (λh=>by cases h) (λ_=>Br.mk (λh=>by cases h) (λ_=>Br.mk (λh=> ?_) (λh=>Br.mk (λh2=> ?_) (λh2=> ?_))))⟩
 ·replace h:=lY h;rw [if_pos h];exact ⟨rfl,rfl⟩
 ·simp only [cS,eW] at h h2;rw [if_neg h,if_pos h2];exact ⟨rfl,rfl⟩
 ·simp only [eW] at h h2;rw [if_neg h,if_neg h2];exact ⟨rfl,rfl⟩
theorem Zh (a b:Int) (g:Nat) (w:World) (hr:Row w g [a,b] 3):
  ah 290 #[.slice (some ⟨g,0,none⟩) 2 2] w λe w'=>e=Value.int .i64 (if a=0 then b else a)/\w'=w:=by
 apply (Qq.vc (a0:=⟨some ⟨g,0,none⟩,2,2⟩));refine ⟨λn x wr=>wr=w/\∃k:Nat,x=k/\k+n=2/\(1<=k->a=0)/\(2<=k->b=0),⟨2,rfl,0,rfl,rfl,by omega,by omega⟩,?_⟩;rintro n us x wr ⟨rfl,k,rfl,hk,h1,h2⟩;have hw:=aK (n:=(k:Int)+1) (by unfold bS;omega);rw [hw];apply Br.mk<;>intro h<;>simp only [cS,eW] at h
 ·refine ⟨⟨rfl,by omega,by omega⟩,if k=0 then a else b,?_,Br.mk (λh3=> ?_) (λh3=> ?_)⟩
  ·show ld wr (ae (some ⟨g,0,none⟩) _)=_;rw [bh,hr.ld];have:k=0\/k=1:=by simp at h;omega
   rcases this with rfl|rfl<;>rfl
  ·simp only [bne_iff_ne,ne_eq] at h3;have:k=0\/k=1:=by simp at h;omega
   rcases this with rfl|rfl
   ·rw [if_pos rfl] at h3 ⊢;rw [if_neg h3];exact ⟨rfl,rfl⟩
   ·rw [if_neg (show ¬((1:Nat)=0) by omega)] at h3 ⊢;rw [if_pos (h1 aa)];exact ⟨rfl,rfl⟩
  ·simp only [bne_eq_false_iff_eq] at h3;have:k=0\/k=1:=by simp at h;omega
   rcases this with rfl|rfl
   ·rw [if_pos rfl] at h3;exact ⟨n-1,by omega,rfl,1,by omega,by omega,λ_=>h3,by omega⟩
   ·rw [if_neg (show ¬((1:Nat)=0) by omega)] at h3;exact ⟨n-1,by omega,rfl,2,by omega,by omega,λ_=>h1 aa,λ_=>h3⟩
 ·have:k=2:=by simp at h;omega
  subst this;rw [if_pos (h1 aa),h2 aa];exact ⟨rfl,rfl⟩
theorem Ew (x y:It) (w:World):ah 289 #[.agg (fE x).toArray,.agg (fE y).toArray] w λe w'=>(∃z:Int,e=z/\(z<0 ↔ x.1<=y.1))/\Ext w w':=by
 apply wi.vc;intro w0 e0 w1 e1;have x1:Ext w w1:=by rw [e1,e0];exact (Ext.al _ _).tr (Ext.al _ _)
 refine (Js x.1 y.1 _).mono ?_;intro e w2 hh;obtain ⟨rfl,ew⟩:=hh;have x2:Ext w w2:=by rw [ew];exact x1
 refine ⟨_,rfl,by rw [ew],by rw [ew],?_⟩;intro w4 e4;have x4:Ext w w4:=x2.bB e4;have cN:Row w4 w2 [.int .i64 (if x.1<y.1 then -1 else if y.1<x.1 then 1 else 0),(-1:Int)] 3:=by rw [e4];exact Row.new w2 [_,_] _
 refine (Zh _ _ _ _ cN).mono ?_;intro e w5 hh;obtain ⟨rfl,ew5⟩:=hh;refine ⟨_,rfl,by rw [ew5],by rw [ew5],⟨_,rfl,?_⟩,by rw [ew5];exact x4⟩;by_cases h1:x.1<y.1
 ·rw [if_pos h1];simp;omega
 ·by_cases h2:y.1<x.1
  ·rw [if_neg h1,if_pos h2];simp;omega
  ·rw [if_neg h1,if_neg h2];simp;omega
theorem fx (l:List It):∀r ∈ l.map fE,r.length=4:=by intro r hr;obtain ⟨x,_,rfl⟩:=bg.1 hr;rfl
theorem kh (l:List It):∀r ∈ l.map fE,One r:=by intro r hr;obtain ⟨x,_,rfl⟩:=bg.1 hr;intro u hu;simp at hu;rcases hu with rfl|rfl|rfl|rfl<;>rfl
theorem qE (x:It):One (fE x):=by intro u hu;simp at hu;rcases hu with rfl|rfl|rfl|rfl<;>rfl
theorem Ha (l:List It) (i:Nat):(l.map fE).flatten.take (i*4)=((l.take i).map fE).flatten:=by
 have hw:=fx (l.take i);rcases Nat.lt_or_ge i l.length with h|h
 ·conv=>lhs;rw [<-List.take_append_drop i l,bZ,List.flatten_append]
  rw [List.take_left' (by rw [bM hw];simp;omega)]
 ·rw [fB h,fB];rw [bM (fx l)];simp;omega
theorem Hb (l:List It) (i:Nat):(l.map fE).flatten.drop (i*4)=((l.drop i).map fE).flatten:=by
 rcases Nat.lt_or_ge i l.length with h|h
 ·conv=>lhs;rw [<-List.take_append_drop i l,bZ,List.flatten_append]
  rw [List.drop_left' (by rw [bM (fx _)];simp;omega)]
 ·rw [List.drop_of_length_le h,List.drop_of_length_le]
  ·rfl
  ·rw [bM (fx l)];simp;omega
theorem C9 {cs:LV} {l:List It} {n:Nat} (ht:cs.take (n*4)=(l.map fE).flatten) (hn:n=l.length) (i j:Nat) (hj:j<((l.drop i).map fE).flatten.length):cs[i*4+j]? =((l.drop i).map fE).flatten[j]? :=by rw [<-Hb,List.getElem?_drop,<-ht,List.getElem?_take,if_pos];rw [bM (fx _)] at hj;simp at hj;omega
set_option maxRecDepth 100000 in
theorem Gf {w:World} {g g':Nat} {x cs:LV} (hx:Row w g x cC) (hr:Row w g' cs cC) (jb:g≠g') (hc:cs.length≠0) (o:Nat) (la ca lb cb:Nat) {R:Ending->World->Prop} (h:R (.returned (.bool false)) w):
  XS Tryz.prog 306 [.slice (some ⟨g,0,none⟩) la ca,.slice (some ⟨g',o,none⟩) lb cb] w R:=by
 refine ⟨_,⟨_,rfl,by kernel_rfl,by kernel_rfl,by kernel_rfl⟩,_,_,Lib.run_overlaps_apart w 153 0 cC (by kernel_rfl) 4 (λw=>by kernel_rfl) ⟨g,0,none⟩ ⟨g',o,none⟩ la ca lb cb jb cC cC x.length cs.length ?_ ?_ hc ?_ ?_,h⟩
 ·simp [World.shape?,show w.heap[g]? =_ from hx]
 ·simp [World.shape?,show w.heap[g']? =_ from hr]
 ·simp [World.frozen?,show w.heap[g]? =_ from hx]
 ·simp [World.frozen?,show w.heap[g]? =_ from hx]
theorem DX {w:World} {g g':Nat} {x cs:LV} (hx:Row w g x cC) (hr:Row w g' cs cC) (jb:g≠g') (hc:cs.length≠0) {p:Option Addr} {o:Nat} (hp:p=some ⟨g',o,none⟩) (la ca lb cb:Nat) {R:Ending->World->Prop} (h:R (.returned (.bool false)) w):
  XS Tryz.prog 306 [.slice (some ⟨g,0,none⟩) la ca,.slice p lb cb] w R:=by
 subst hp;exact Gf hx hr jb hc o la ca lb cb h
theorem AQ (n:Nat):bn [ab,ab,ab,ab] n=((List.replicate n ((0,0,0,0):It)).map fE).flatten:=by unfold bn;simp
theorem LF {w:World} {s:Sl} {l:List It} {i g:Nat} {x:It} (ho:aC 0 cC 4 w s (l.map fE)) (hx:Row w g (fE x) cC) (hi:i<=l.length) (hl:l.length<=5000) (jb:s.aY≠some g):
  ah 292 #[s,(i:Int),.slice (some ⟨g,0,none⟩) 1 1] w λe w'=>∃s':Sl,e=Value.slice s'.a s'.n s'.c/\aC 0 cC 4 w' s' ((l.take i++x::l.drop i).map fE)/\Mod (λb=>s.aY=some b) w w'/\(∀b,s'.aY=some b->s.aY=some b\/w.heap.size<=b):=by
 have hn:s.n=l.length:=by rw [(ho.rd aE).n,aM]
 apply wm.vc (a2:=⟨some ⟨g,0,none⟩,1,1⟩);have Rg:aj (((s.n:Nat):Int)+((1:Nat):Int))=((s.n+1:Nat):Int):=by rw [wI];omega
 have AA:aj ((i:Int)+((1:Nat):Int))=((i+1:Nat):Int):=by rw [wI];omega
 have N7:aj (((s.n+1:Nat):Int)-(i:Int))=((s.n+1-i:Nat):Int):=by rw [wI];omega
 have hw4:aj ((s.n+1-i:Nat):Int)=((s.n+1-i:Nat):Int):=wI;have hrx:Rd w (some ⟨g,0,none⟩) (fE x):=hx.rd0 λj hj=>rfl
 dsimp only;rw [Rg,AA,N7,hw4];simp only [eJ,Nat.sub_zero,eg];refine ⟨by omega,by omega,Br.mk (λh=>by cases h) (λ_=>Br.mk (λh=> ?_) (λh=> ?_))⟩
 ·
  have he:i=l.length:=by simp at h;omega
  obtain ⟨hp,hr⟩:=ho.append (bytes:=32) (news:=fE x) (Nat.zero_le _) rfl (qE x) aa aa;refine ⟨fE x,hrx,hp,λs' w' bo=> ?_⟩;obtain ⟨h1,h2,h3,h4,h5⟩:=hr s' w' bo;refine ⟨s',rfl,?_,Mod.vr h3 h4,?_⟩
  ·rw [he,iB,List.drop_length,bZ];exact h1
  ·intro b hb;rcases h5 with h5|h5
   ·exact .inl (h5▸hb)
   ·rw [h5] at hb;cases hb;exact .inr (aB _)
 ·have gW:i<l.length:=by
   have:i≠l.length:=λe=>by subst e;simp [hn] at h
   omega
  rcases ho.form aE with ⟨hs,B6⟩|⟨g0,cs,ha,hg0,hr,hc,MQ,ht,hn'⟩
  ·have:l=[]:=by simpa using B6
   subst this;simp at gW
  have ad3:g0≠g:=λe=>jb (by unfold Sl.aY;rw [ha,e];rfl)
  have ij:s.aY=some g0:=by unfold Sl.aY;rw [ha];rfl
  have rW:cs.take (i*4)=((l.take i).map fE).flatten:=by rw [<-Ha,<-ht,List.take_take,Nat.min_eq_left aa]
  rw [ha];apply Br.mk<;>intro h2
  ·
   replace h2:=lY h2;have ahL:aC 0 cC 4 w ⟨some ⟨g0,0,none⟩,i,s.c⟩ ((l.take i).map fE):=aC.jf (Nat.zero_le _) hr hc aa rW (fx _);obtain ⟨hp,-⟩:=ahL.FO (bytes:=32) (more:=(List.replicate (s.n+1-i) ((0,0,0,0):It)).map fE) (Nat.zero_le _) (fx _) (kh _) (by simp;omega) (by simp;omega);have dG:((List.replicate (s.n+1-i) ((0,0,0,0):It)).map fE).length=s.n+1-i:=by simp
   rw [dG] at hp;rw [AQ];refine ⟨by omega,by omega,⟨by omega,trivial,by omega⟩,hp,λs3 w4 bo=> ?_⟩;generalize hz:((List.replicate (s.n+1-i) ((0,0,0,0):It)).map fE).flatten=zs at bo;have Nu:zs.length=(s.n+1-i)*4:=by rw [<-hz,bM (fx _)];simp
   cases bo with
   |fits hf=>simp only at hf;omega
   |AL hg fz rest cap q1 q2 q3 q4=>
    simp only at q1 q2 q3;have ES:fz=cs.take (i*4):=by
     refine Tz q2 (hr.rd0 (vs:=cs.take (i*4)) λj hj=> ?_) ?_
     ·rw [dC] at hj;rw [List.getElem?_take,if_pos aa]
     ·rw [q1,dC];omega
    have hR:Row (w.drew.alloc (.cells (fz++zs++rest).toArray cC)) w.heap.size (fz++zs++rest) cC:=Row.new w.drew _ _;generalize as5:w.drew.alloc (.cells (fz++zs++rest).toArray cC)=w4 at hR;have x4:Ext w w4:=by rw [<-as5];exact (Ext.dr w).tr (Ext.al _ _)
    have hr4:=hr.ext x4;have hlt0:=hr.lt;have hn3:i+(s.n+1-i)=s.n+1:=by omega
    have hCl:(s.n+1)*4<=(fz++zs++rest).length:=by rw [q4];exact Nat.mul_le_mul_right _ aa
    dsimp only;rw [hn3];have hx4:=hx.ext x4;have oo:((l.drop i).map fE).flatten.length=(s.n-i)*4:=by rw [bM (fx _)];simp;omega
    have hm1:min 1 (s.n+1-i)*4=4:=by
     have:min 1 (s.n+1-i)=1:=by omega
     rw [this]
    have Bp:min (s.n-i) (s.n+1-(i+1))=s.n-i:=by omega
    obtain ⟨p1,p2,p3⟩:=hR.Xn (vs:=fE x) (l:=i) (m:=cap) (size:=4) (by intro e;omega) (by simp;omega) (qE x);refine ⟨by omega,by omega,fE x,⟨hm1.symm,hx4.rd0 λj hj=>rfl,qE x,p1⟩,?_⟩;intro w6 e6;rw [<-e6] at p2 p3;have hr6:Row w6.drew g0 cs cC:=(p3.row hr4 aa).ext (Ext.dr _);have p2':Row w6.drew w _ cC:=p2.ext (Ext.dr _);obtain ⟨u1,u2,u3⟩:=p2'.Xn (vs:=((l.drop i).map fE).flatten) (l:=i+1) (m:=cap) (size:=4) (by intro e;rw [List.drop_of_length_le aa];rfl) (by rw [oo,Go.Vc.dt];omega) (fK (kh _));refine ⟨by omega,by omega,by omega,by omega,((l.drop i).map fE).flatten,⟨by rw [Bp,oo],hr6.afs (by intro e;rw [List.drop_of_length_le aa];rfl) (C9 ht hn i),fK (kh _),u1⟩,?_⟩;intro w8 e8;rw [<-e8] at u2 u3;refine ⟨⟨some ⟨w.heap.size,0,none⟩,s.n+1,cap⟩,rfl,aC.jf (Nat.zero_le _) u2 (by rw [Go.Vc.dt,Go.Vc.dt,q4];exact aB _) aa ?_ (fx _),?_,?_⟩
    ·rw [Y8 (by simp;omega) (by rw [oo];omega) hCl,gO,gO,List.take_left' (by rw [q1]),ES,rW];simp
    ·refine ((Mod.aD x4).tr p3 (λb hb=> .inr aa)).tr (F':=λb=>b=w.heap.size) ?_ (λb hb=> .inr aa);exact (Mod.aD (Ext.dr _)).trans u3
    ·intro b hb;have:w.heap.size=b:=by simpa [Sl.aY] using hb
     exact .inr aa
  ·
   replace h2:=mg h2;have hCl:(s.n+1)*4<=cs.length:=fY (Nat.mul_le_mul_right _ aa) hc;have oo:((l.drop i).map fE).flatten.length=(s.n-i)*4:=by rw [bM (fx _)];simp;omega
   refine ⟨by omega,by omega,by omega,by omega,?_⟩;refine DX hx hr (Ne.symm ad3) aa (by rw [qK,if_neg aa]) _ _ _ _ ⟨_,rfl,Br.mk (λ_=> ?_) (λh=>by cases h)⟩;have Bp:min (s.n+1-i) (s.n+1-(i+1))=s.n-i:=by omega
   have hm1:min 1 (s.n+1-i)*4=4:=by
    have:min 1 (s.n+1-i)=1:=by omega
    rw [this]
   have hr':=hr.ext (Ext.dr w);obtain ⟨u1,u2,u3⟩:=hr'.Xn (vs:=((l.drop i).map fE).flatten) (l:=i+1) (m:=s.c) (size:=4) (by intro e;omega) (by rw [oo];omega) (fK (kh _));refine ⟨by omega,by omega,by omega,by omega,((l.drop i).map fE).flatten,⟨by rw [Bp,oo],hr'.afs (by intro e;omega) (C9 ht hn i),fK (kh _),u1⟩,?_⟩;intro cM N4;rw [<-N4] at u2 u3;obtain ⟨p1,p2,p3⟩:=u2.Xn (vs:=fE x) (l:=i) (m:=s.c) (size:=4) (by intro e;omega) (by rw [Go.Vc.dt];simp;omega) (qE x);have as6:Row cM g (fE x) cC:=u3.row (hx.ext (Ext.dr w)) (Ne.symm ad3);refine ⟨by omega,by omega,fE x,⟨hm1.symm,as6.rd0 λj hj=>rfl,qE x,p1⟩,?_⟩;intro bK uy;rw [<-uy] at p2 p3;refine ⟨⟨some ⟨g0,0,none⟩,s.n+1,s.c⟩,rfl,aC.jf (Nat.zero_le _) p2 (by rw [Go.Vc.dt,Go.Vc.dt];exact hc) aa ?_ (fx _),?_,?_⟩
   ·rw [U7 (by simp;omega) (by rw [oo];omega) hCl,rW];simp
   ·refine (((Mod.aD (Ext.dr w)).trans u3).trans p3).mono λb _ hb=> ?_
    rw [ij,hb]
   ·intro b hb;exact .inl (ij.trans hb)
theorem RdK.item {w:World} {s:Sl} {l:List It} (h:RdK w s 4 (l.map fE)) {i:Nat} {x:It} (hi:l[i]? =some x):ag w (ae s.a (i*4)) 0 (fE x):=
 h.bY (by rw [aS,hi];rfl)
theorem Yl {w:World} {s:Sl} {l:List It} (x:It) (h:RdK w s 4 (l.map fE)) (hs:l.Pairwise λa b=>a.1<=b.1) (hl:l.length<=5000):
  ah 288 #[s,.agg (fE x).toArray,.func (.func 289) #[] #[]] w λe w'=>(∃b,e=Value.tuple #[.int .i64 ((l.takeWhile λy=>y.1<=x.1).length:Nat),.bool b])/\Ext w w':=by
 have hn:s.n=l.length:=by rw [h.n,aM]
 apply mw.vc;intro w0 e0;have x0:=aL e0;have Rr:w0.heap.size=w.heap.size+1:=by rw [e0];simp [World.alloc_eq]
 have hk:(l.takeWhile λy=>decide (y.1<=x.1)).length<=l.length:=(List.takeWhile_sublist _).length_le;generalize hkk:(l.takeWhile λy=>decide (y.1<=x.1)).length=k at hk;have Fz:∀{i:Nat} {y:It},l[i]? =some y->(i<k ↔ y.1<=x.1):=λhi=>by rw [<-hkk];exact xX hs x.1 hi
 refine ⟨λn a b wr=>Ext w0 wr/\∃lo hi:Nat,a=lo/\b=hi/\lo<=k/\k<=hi/\hi<=l.length/\n=hi-lo,⟨_,rfl,Ext.cQ _,0,s.n,rfl,rfl,Nat.zero_le _,by omega,by omega,rfl⟩,?_⟩;rintro n us a b wr ⟨xr,lo,hi,rfl,rfl,h1,h2,h3,rfl⟩;refine Br.mk (λgW=> ?_) (λQG=> ?_)<;>simp only [cS,eW] at*
 ·rw [af9 aa];have alU:(lo+hi) / 2<l.length:=by omega
  have eP:l[(lo+hi) / 2]? =some l[(lo+hi) / 2]:=c8 alU;generalize l[(lo+hi) / 2]=y at eP;have hr:=(h.ext (x0.tr xr)).ext (Ext.dr wr);have VQ:=xr.size;refine ⟨⟨?_,by omega,by omega⟩,y.1,y.2.1,y.2.2.1,y.2.2.2,RdK.item hr eP,?_⟩
  ·exact h.isSome aE (i:=(lo+hi) / 2) (by simpa using alU)
  refine cU (by kernel_rfl) rfl ((Ew y x _).mono ?_);rintro e w2 ⟨⟨z,rfl,hz⟩,x2⟩;have hz':=(Fz eP).trans hz.symm;have x3:=(xr.tr (Ext.dr wr)).tr x2;refine ⟨z,rfl,(x2.heap ?_),Br.mk (λhb=> ?_) (λhb=> ?_)⟩
  ·show w.heap.size<wr.heap.size;omega
  ·replace hb:=lY hb;have:=hz'.2 hb;have hw:aj ((((lo+hi) / 2:Nat):Int)+1)=(((lo+hi) / 2+1:Nat):Int):=by rw [wI];omega
   rw [hw];exact ⟨_,by omega,trivial,x3,(lo+hi) / 2+1,hi,rfl,rfl,by omega,h2,h3,rfl⟩
  ·replace hb:=mg hb;have:¬(lo+hi) / 2<k:=λh=>hb (hz'.1 h)
   exact ⟨_,by omega,trivial,x3,lo,(lo+hi) / 2,rfl,rfl,h1,by omega,by omega,rfl⟩
 ·have:lo=k:=by omega
  subst this;have hr:=(h.ext (x0.tr xr)).ext (Ext.dr wr);have VQ:=xr.size;refine Br.mk (λhb=> ?_) (λhb=>⟨⟨_,rfl⟩,x0.tr (xr.tr (Ext.dr _))⟩);replace hb:=lY hb;have eP:l[lo]? =some (l[lo]'aa):=c8 aa;generalize l[lo]'aa=y at eP;refine ⟨⟨h.isSome aE (i:=lo) (by simp;omega),by omega,by omega⟩,y.1,y.2.1,y.2.2.1,y.2.2.2,RdK.item hr eP,?_⟩;refine cU (by kernel_rfl) rfl ((Ew y x _).mono ?_);rintro e w2 ⟨⟨z,rfl,hz⟩,x2⟩;refine ⟨z,rfl,x2.heap (show w.heap.size<wr by omega),⟨_,rfl⟩,(x0.tr (xr.tr (Ext.dr wr))).tr x2⟩
theorem C8 (x:It) {b:Nat} {c:Cl} {w:World} (hb:Row w b (du c) tg):ah 287 #[.agg (fE x).toArray,b] w λe w'=>e=Value.bool (x.2==c)/\Ext w w':=by apply wh.vc;intro w0 e0;have x0:=aL e0;exact ⟨c.1,c.2.1,c.2.2,(hb.ext x0).bY (λj hj=>by rw [eB]),rfl,x0⟩
theorem vv {w:World} {s:Sl} {l:List It} {b:Nat} {c:Cl} (h:RdK w s 4 (l.map fE)) (hb:Row w b (du c) tg) (hl:l.length<=5000):
  ah 304 #[s,.func (.func 287) #[] #[b]] w λe w'=>(∃i:Int,e=i/\((i= -1/\∀x ∈ l,x.2≠c)\/∃k:Nat,i=k/\k<l.length/\(∀x ∈ l.take k,x.2≠c)/\∀x,l[k]? =some x->x.2=c))/\Ext w w':=by
 have hn:s.n=l.length:=by rw [h.n,aM]
 apply sE.vc;refine ⟨λn a wr=>Ext w wr/\∃k:Nat,a=k/\k+n=l.length/\(∀x ∈ l.take k,x.2≠c),⟨l.length,Ext.cQ _,0,rfl,by omega,by simp⟩,?_⟩;rintro n us a wr ⟨xr,k,rfl,h1,h2⟩;refine Br.mk (λgW=> ?_) (λQG=> ?_)<;>simp only [cS,eW] at*
 ·have eP:l[k]? =some (l[k]'aa):=c8 aa;generalize l[k]'aa=y at eP;refine ⟨⟨h.isSome aE (i:=k) (by simp;omega),by omega,by omega⟩,y.1,y.2.1,y.2.2.1,y.2.2.2,RdK.item (h.ext xr) eP,?_⟩;refine cU (by kernel_rfl) rfl ((C8 y (hb.ext xr)).mono ?_);rintro e w2 ⟨rfl,x2⟩;refine ⟨_,rfl,Br.mk (λhb=> ?_) (λhb=> ?_)⟩
  ·refine ⟨⟨_,rfl,.inr ⟨k,rfl,by omega,h2,λx hx=> ?_⟩⟩,xr.tr x2⟩;rw [eP] at hx;cases hx;simpa using hb
  ·have hw:=mh (j:=k);rw [hw];refine ⟨n-1,by omega,xr.tr x2,k+1,rfl,by omega,λx hx=> ?_⟩;rw [dE,eP] at hx;rcases dR.1 hx with hx|hx
   ·exact h2 x hx
   ·simp at hx;subst hx;simpa using hb
 ·refine ⟨⟨_,rfl,.inl ⟨rfl,?_⟩⟩,xr⟩;rw [fB aa] at h2;exact h2
theorem C7 {w:World} {s:Sl} {l:List It} (ho:aC 0 cC 4 w s (l.map fE)) {i:Nat} (hi:i<=l.length):
  Wr w (aJ s.a i s.c 4) ((s.n-i)*4)/\∀w',w'=aG w (aJ s.a i s.c 4) (bn [ab,ab,ab,ab] (s.n-i))->
   aC 0 cC 4 w' ⟨s.a,i,s.c⟩ ((l.take i).map fE)/\Mod (λb=>s.aY=some b) w w':=by
 have hn:s.n=l.length:=by rw [(ho.rd aE).n,aM]
 rw [AQ];rcases ho.form aE with ⟨hs,B6⟩|⟨g0,cs,ha,hg0,hr,hc,MQ,ht,hn'⟩
 ·have:l=[]:=by simpa using B6
  subst this;have:i=0:=by simpa using hi
  subst this;subst hs;refine ⟨λj hj=>by simp at hj,λw' e=> ?_⟩;have:w'=w:=by rw [e];rfl
  subst this;exact ⟨aC.nil,Mod.refl _ _⟩
 ·have ij:s.aY=some g0:=by unfold Sl.aY;rw [ha];rfl
  have Nu:((List.replicate (s.n-i) ((0,0,0,0):It)).map fE).flatten.length=(s.n-i)*4:=by rw [bM (fx _)];simp
  have hcl:s.n*4<=cs.length:=fY (Nat.mul_le_mul_right _ MQ) hc;rw [ha];have hz0:s.c=i->((List.replicate (s.n-i) ((0,0,0,0):It)).map fE).flatten=[]:=λe=>by
   have:s.n-i=0:=by omega
   rw [this];rfl
  obtain ⟨p1,p2,p3⟩:=hr.Xn (l:=i) (m:=s.c) (size:=4) hz0 (by rw [Nu];omega) (fK (kh _));rw [Nu] at p1;refine ⟨p1,λw' e=> ?_⟩;rw [<-e] at p2 p3;refine ⟨aC.jf (Nat.zero_le _) p2 (by rw [Go.Vc.dt];exact hc) aa ?_ (fx _),p3.mono λb _ hb=>by rw [ij,hb]⟩;rw [dn _ _ _ (by rw [Nu];omega),gO,List.take_left' (by rw [dC];omega),<-Ha,<-ht,List.take_take,Nat.min_eq_left aa]
theorem Xo {w:World} {s:Sl} {l:List It} (ho:aC 0 cC 4 w s (l.map fE)) {i:Nat} (hi:i<l.length) (x:It):
  (ae s.a (i*4)).isSome=true/\Wr w (ae s.a (i*4)) 4/\∀w',w'=aG w (ae s.a (i*4)) (fE x)->aC 0 cC 4 w' s ((l.set i x).map fE)/\Mod (λb=>s.aY=some b) w w':=by
 obtain ⟨h1,h2,h3,h4,h5⟩:=ho.put (i:=i) (r:=fE x) (by simpa using hi) aE rfl (qE x);refine ⟨h1,h2,λw' e=> ?_⟩;subst e;exact ⟨by rw [List.map_set];exact h3,h4.os,h4.tape,h4.output,h4.size,λj _ hn=>h5 j hn⟩
theorem Bv {w:World} {s:Sl} {l:List It} {b:Nat} {c:Cl} (ho:aC 0 cC 4 w s (l.map fE)) (hb:Row w b (du c) tg) (hl:l.length<=5000):
  ah 286 #[s,.func (.func 287) #[] #[.pointer (some ⟨b,0,none⟩)]] w λe w'=>∃s':Sl,e=s'/\aC 0 cC 4 w' s' ((gd l c).map fE)/\Mod (λb=>s.aY=some b) w w'/\s'.aY=s.aY:=by
 have hn:s.n=l.length:=by rw [(ho.rd aE).n,aM]
 have FB:s.aY≠some b:=λe=>by
  rcases ho.form aE with ⟨hs,B6⟩|⟨g0,cs,ha,hg0,hr,hc,MQ,ht,hn'⟩
  ·rw [hs] at e;cases e
  ·have:g0=b:=by unfold Sl.aY at e;rw [ha] at e;simpa using e
   exact hr.ne hb aE this
 apply qF.vc;refine (vv (ho.rd aE) hb hl).mono ?_;rintro e w1 ⟨⟨i,rfl,hi⟩,x1⟩;refine ⟨i,rfl,Br.mk (λh=> ?_) (λh=> ?_)⟩
 ·have hm:i= -1:=by simpa using h
  rcases hi with ⟨-,qg⟩|⟨k,hk,-⟩
  ·refine ⟨s,rfl,?_,Mod.aD x1,rfl⟩;have:gd l c=l:=by unfold gd;rw [List.filter_eq_self];intro x hx;simpa using qg x hx
   rw [this];exact ho.ext x1
  ·omega
 ·have hm:i≠-1:=by simpa using h
  rcases hi with ⟨hi,-⟩|⟨k,rfl,hk,ao3,hkc⟩
  ·exact absurd hi hm
  have hw:=mh (j:=k);have hq:gd (l.take (k+1)) c=l.take k:=by
   unfold gd;rw [dE,mA];have e1:(l.take k).filter (λx=>x.2 !=c)=l.take k:=by rw [List.filter_eq_self];intro x hx;simpa using ao3 x hx
   have eP:l[k]? =some (l[k]'hk):=c8 hk;have:=hkc _ eP;rw [e1,eP];simp [this]
  refine ⟨λn a d wr=>Mod (λb=>s.aY=some b) w wr/\∃(j m:Nat) (l':List It),a=j/\d=m/\j+n=l.length/\m<j/\m=(gd (l.take j) c).length/\aC 0 cC 4 wr s (l'.map fE)/\l'.length=l.length/\l'.take m=gd (l.take j) c/\l'.drop j=l.drop j,⟨l.length-(k+1),Mod.aD x1,k+1,k,l,hw,rfl,by omega,by omega,?_,ho.ext x1,rfl,hq.symm,rfl⟩,?_⟩
  ·rw [hq,dC];omega
  rintro n us a d wr ⟨jk,j,m,l',rfl,rfl,h1,h2,h3,ho',h4,h5,h6⟩;have ZE:Row wr b (du c) tg:=jk.row hb FB;refine Br.mk (λgW=> ?_) (λQG=> ?_)
  ·replace gW:=lY gW;have eP:l[j]? =some (l[j]'aa):=c8 aa;generalize l[j]'aa=y at eP;have ajJ:l'[j]? =some y:=by have:=congrArg (λq:List It=>q[0]?) h6;simpa [List.getElem?_drop,eP] using this
   refine ⟨⟨(ho'.rd aE).isSome aE (i:=j) (by simp;omega),by omega,by omega⟩,y.1,y.2.1,y.2.2.1,y.2.2.2,RdK.item (ho'.rd aE) ajJ,?_⟩;intro bF B7 bK uy;have bW:Ext wr bK:=(Ext.cQ wr|>.bB B7).af uy (aB _);have agw:wr.heap.size<bK:=by rw [uy,setRow_size,B7];simp
   refine cU (by kernel_rfl) rfl ((C8 y (ZE.ext bW)).mono ?_);rintro e w2 ⟨rfl,x2⟩;have x3:=bW.tr x2;have hwj:=mh (j:=j);have hwm:=mh (j:=m);have hqj:gd (l.take (j+1)) c=gd (l.take j) c++(if y.2=c then [] else [y]):=by unfold gd;rw [dE,eP,mA];congr 1;by_cases hy:y.2=c<;>simp [hy]
   refine ⟨_,rfl,x2.heap agw,Br.mk (λjU=> ?_) (λjU=> ?_)⟩
   ·have hy:y.2≠c:=by simpa using jU
    obtain ⟨p1,p2,p3⟩:=Xo (ho'.ext x3) (i:=m) aa y;refine ⟨⟨(ho'.rd aE).isSome aE (i:=m) (by simp;omega),by omega,by omega⟩,⟨p1,p2⟩,?_,?_⟩
    ·rw [cY];intro e;have:=ho'.own.lt (g:=wr.heap.size) e;omega
    ·intro cE yS;obtain ⟨q1,q2⟩:=p3 cE yS;rw [hwj,hwm];refine ⟨n-1,by omega,(jk.trans (Mod.aD x3)).trans q2,j+1,m+1,l'.set m y,rfl,rfl,by omega,by omega,?_,q1,by rw [ir,h4],?_,?_⟩
     ·rw [hqj,if_neg hy,dc,<-h3];rfl
     ·rw [hqj,if_neg hy,<-h5,dE,List.take_set_of_le (aB _),oF aa];rfl
     ·rw [List.drop_set_of_lt aa];have:=congrArg (List.drop 1) h6;simpa [List.drop_drop] using this
   ·have hy:y.2=c:=by simpa using jU
    rw [hwj];refine ⟨n-1,by omega,jk.trans (Mod.aD x3),j+1,m,l',rfl,rfl,by omega,by omega,?_,ho'.ext x3,h4,?_,?_⟩
    ·rw [hqj,if_pos hy,ti];exact h3
    ·rw [hqj,if_pos hy,ti];exact h5
    ·have:=congrArg (List.drop 1) h6;simpa [List.drop_drop] using this
  ·replace QG:=mg QG;have hj:j=l.length:=by omega
   have VU:=(ho'.form aE);have MQ:s.n<=s.c:=by
    rcases VU with ⟨hs,-⟩|⟨g0,cs,ha,hg0,hr,hc,MQ,ht,hn'⟩
    ·rw [hs];exact aB _
    ·exact MQ
   obtain ⟨p1,p2⟩:=C7 ho' (i:=m) aa;refine ⟨by omega,by omega,p1,λdA VV=> ?_⟩;obtain ⟨q1,q2⟩:=p2 dA VV;refine ⟨by omega,by omega,⟨s.a,m,s.c⟩,?_,?_,jk.trans q2,rfl⟩
   ·rw [eg];rfl
   ·rw [h5,hj,iB] at q1;exact q1
theorem tj {w:World} {s:Sl} {l:List It} {n:Nat} (ho:aC 0 cC 4 w s (l.map fE)) (hi:n<=l.length) (hl:l.length<=5000):
  ah 241 #[s,ab,(n:Int)] w λe w'=>∃s':Sl,e=s'/\aC 0 cC 4 w' s' ((l.drop n).map fE)/\Mod (λb=>s.aY=some b) w w'/\s'.aY=s.aY:=by
 have hn:s.n=l.length:=by rw [(ho.rd aE).n,aM]
 have MQ:s.n<=s.c:=by
  rcases ho.form aE with ⟨hs,-⟩|⟨g0,cs,ha,hg0,hr,hc,MQ,ht,hn'⟩
  ·rw [hs];exact aB _
  ·exact MQ
 apply vw.vc;refine ⟨by omega,by omega,by omega,by omega,by omega,by omega,Br.mk (λh=> ?_) (λh=> ?_)⟩
 ·have:n=0:=by
   have:(0:Int)=n:=by simpa using h
   omega
  subst this;exact ⟨s,rfl,ho,Mod.refl _ _,rfl⟩
 ·have Aw:0<n:=by
   have:(0:Int)≠n:=by simpa using h
   omega
  rcases ho.form aE with ⟨hs,B6⟩|⟨g0,cs,ha,hg0,hr,hc,MQ,ht,hn'⟩
  ·have:l=[]:=by simpa using B6
   subst this;simp at hi;omega
  have ij:s.aY=some g0:=by unfold Sl.aY;rw [ha];rfl
  have oo:((l.drop n).map fE).flatten.length=(s.n-n)*4:=by rw [bM (fx _)];simp;omega
  have hcl:s.n*4<=cs.length:=fY (Nat.mul_le_mul_right _ MQ) hc;have hr':=hr.ext (Ext.dr w);simp only [eJ,Nat.sub_zero,eg,Int.toNat_zero];rw [ha];refine ⟨by omega,by omega,by omega,by omega,((l.drop n).map fE).flatten,?_,?_,?_⟩
  ·exact hr'.afs (by intro e;rw [List.drop_of_length_le aa];rfl) (C9 ht hn n)
  ·refine ⟨λ_=> ?_,λh=> ?_,λh=> ?_,oo,fK (kh _)⟩
   ·show Wr _ (ae (some ⟨g0,0,none⟩) (0*4)) _;rw [bh];exact hr'.wr (by rw [oo];omega)
   ·simp only at h;omega
   ·simp only at h;omega
  ·intro s1 w2 bo
   cases bo with
   |AL hg=>simp only at hg;omega
   |fits hf=>
    dsimp only;have e0:ae (some (⟨g0,0,none⟩:Addr)) (0*4)=some ⟨g0,0,none⟩:=by rw [bh]
    rw [e0];have oA:=hr'.aG (o:=0) (vs:=((l.drop n).map fE).flatten) (by rw [oo];omega) (fK (kh _));have py:Row (Go.Vc.aG w.drew (some ⟨g0,0,none⟩) ((l.drop n).map fE).flatten) g0 (aR cs 0 ((l.drop n).map fE).flatten) cC:=by rw [oA];exact hr'.set _
    have Bp:Mod (λi=>i=g0) w (Go.Vc.aG w.drew (some ⟨g0,0,none⟩) ((l.drop n).map fE).flatten):=by rw [oA];exact (Mod.aD (Ext.dr w)).trans ⟨rfl,rfl,rfl,by rw [setRow_size];exact aB _,λi _ hn=>setRow_other _ _ _ _ hn⟩
    generalize Go.Vc.aG w.drew (some ⟨g0,0,none⟩) ((l.drop n).map fE).flatten=w2 at py Bp;have hz:0+(s.n-n)=s.n-n:=by omega
    rw [hz];have qh:aC 0 cC 4 w2 ⟨some ⟨g0,0,none⟩,s.n,s.c⟩ ((l.drop n++l.drop (l.length-n)).map fE):=by refine aC.jf (Nat.zero_le _) py (by rw [Go.Vc.dt];exact hc) MQ ?_ (fx _);rw [dn _ _ _ (by rw [oo];omega),bZ,List.flatten_append,AR,Xp];rw [List.take_append,fB (by rw [oo];omega),oo,eB,<-Hb l (l.length-n),<-ht];congr 1;rw [List.drop_take,hn]
    obtain ⟨p1,p2⟩:=C7 qh (i:=s.n-n) (by simp;omega);have hnn:((s.n:Nat):Int).toNat-(((s.n-n:Nat):Nat):Int).toNat=s.n-(s.n-n):=by omega
    refine ⟨by omega,by omega,by omega,by omega,p1,λw3 e3=> ?_⟩;obtain ⟨q1,q2⟩:=p2 w3 e3;refine ⟨⟨some ⟨g0,0,none⟩,s.n-n,s.c⟩,rfl,?_,?_,ij.symm⟩
    ·rw [List.take_left' (by simp;omega)] at q1;exact q1
    ·refine (Bp.mono λb _ hb=>by rw [ij,hb]).trans (q2.mono λb _ hb=> ?_);have:g0=b:=by simpa [Sl.aY] using hb
     rw [ij,this]
def g7 (g m:Nat) (s:Sl):Nat->Prop:=λi=>i=g\/i=m\/s.aY=some i
abbrev pf (q:QS) (s:Sl) (m:Nat):LV:=[.int .i64 q.room,.int .i64 q.lost,.slice s.a s.n s.c,.map (some m)]
def mF (kvs:List (Value × Value)) (l:List It):Prop:=(∀c t,(cv c,tv t) ∈ kvs ↔(t,c) ∈ l)/\∀e ∈ kvs,∃c t,e=(cv c,tv t)
structure vd (w:World) (g m:Nat) (s:Sl) (q:QS):Prop where
 row:Row w g (pf q s m) gE
 own:aC 0 cC 4 w s (q.l.map fE)
 map:∃kvs,cj GC w (some m) kvs/\mF kvs q.l
theorem vd.dN {w:World} {g m:Nat} {s:Sl} {q:QS} (h:vd w g m s q) {b:Nat} {cs:LV} {E:TypeId} (hb:Row w b cs E) (h1:E≠gE) (h2:E≠cC):¬g7 g m s b:=by
 rintro (rfl|rfl|e)
 ·exact hb.ne h.row h1 rfl
 ·obtain ⟨kvs,hm,-⟩:=h.map;exact hb.ji hm rfl
 ·obtain ⟨cs',hr⟩:=bc h.own aE e;exact hb.ne hr h2 rfl
theorem vd.Yy {w:World} {g m:Nat} {s:Sl} {q:QS} (h:vd w g m s q) {B E k:Nat} {s':Sl} {rows:List (LV)} (ho:aC B E k w s' rows) (hk:0<k) (h1:E≠gE) (h2:E≠cC):∀b,s'.aY=some b->¬g7 g m s b:=λb hb=>by
 obtain ⟨cs,hr⟩:=bc ho hk hb
 exact h.dN hr h1 h2
theorem vd.lt {w:World} {g m:Nat} {s:Sl} {q:QS} (h:vd w g m s q):∀i,g7 g m s i->i<w.heap.size:=by
 rintro i (rfl|rfl|e)
 ·exact h.row.lt
 ·obtain ⟨kvs,hm,-⟩:=h.map;exact hm.lt
 ·exact (h.own.own.lt e).2
theorem vd.c9 {w w':World} {g m:Nat} {s:Sl} {q:QS} (h:vd w g m s q) {F:Nat->Prop} (hm:Mod F w w') (hn:∀i,g7 g m s i->¬F i):vd w' g m s q:=by obtain ⟨kvs,h1,h2⟩:=h.map;exact ⟨hm.row h.row (hn g (.inl rfl)),hm.fm h.own λb hb=>hn b (.inr (.inr hb)),kvs,hm.map h1 (hn m (.inr (.inl rfl))),h2⟩
theorem vd.ext {w w':World} {g m:Nat} {s:Sl} {q:QS} (h:vd w g m s q) (x:Ext w w'):vd w' g m s q:=
 h.c9 (F:=λ_=>False) ⟨x.os,x.tape,x.output,x.size,λi hi _=>x.heap hi⟩ λ_ _ hf=>hf
theorem vd.nU {w:World} {g m:Nat} {s:Sl} {q:QS} (h:vd w g m s q):g≠m:=by obtain ⟨kvs,hm,-⟩:=h.map;exact h.row.ji hm
theorem vd.pg {w:World} {g m:Nat} {s:Sl} {q:QS} (h:vd w g m s q):s.aY≠some m:=λe=>by
 obtain ⟨kvs,hm,-⟩:=h.map
 obtain ⟨cs,hr⟩:=bc h.own aE e
 exact hr.ji hm rfl
theorem vd.Ac {w:World} {g m:Nat} {s:Sl} {q:QS} (h:vd w g m s q):s.aY≠some g:=λe=>by
 obtain ⟨cs,hr⟩:=bc h.own aE e
 exact hr.ne h.row aE rfl
theorem mF.look {kvs:List (Value × Value)} {l:List It} (h:mF kvs l) (hn:(l.map (·.2)).Nodup) (c:Cl):F7 kvs (cv c) (tv 0) (tv ((nV l c).getD 0)) (nV l c).isSome:=by
 cases hq:nV l c with
 |some t=>exact .inl ⟨rfl,(h.1 c t).2 (D4 hq)⟩
 |none=>
  refine .inr ⟨rfl,rfl,λe he hk=> ?_⟩;obtain ⟨c',t,rfl⟩:=h.2 e he;exact qX hq (t,c') ((h.1 _ _).1 he) (D3 hk)
open Classical in
theorem mF.del {kvs:List (Value × Value)} {l:List It} (h:mF kvs l) (c:Cl):mF (Ed kvs (cv c)) (gd l c):=by
 refine ⟨λc' t=> ?_,λe he=>h.2 e (List.mem_filter.1 he).1⟩;unfold Ed gd;rw [List.mem_filter,List.mem_filter,h.1];refine and_congr_right λ_=> ?_
 rw [bne_iff_ne];refine decide_eq_true_iff.trans ?_;exact not_congr ⟨λe=>D3 e,λe=>by rw [show c'=c from e]⟩
theorem mF.ins {kvs:List (Value × Value)} {l:List It} (h:mF kvs l) {x:It} (hx:∀y ∈ l,y.2≠x.2):mF (vI kvs (cv x.2) (tv x.1)) (vV l x):=by
 unfold vI;rw [if_neg]
 ·refine ⟨λc t=> ?_,λe he=> ?_⟩
  ·rw [dR,h.1,D5,List.mem_singleton];constructor
   ·rintro (h1|h1)
    ·exact .inr h1
    ·obtain ⟨e1,e2⟩:=Prod.mk.inj h1;have:=D3 e1;have h2:t=x.1:=by unfold tv at e2;injection e2
     left;rw [this,h2]
   ·rintro (h1|h1)
    ·right;rw [<-h1]
    ·exact .inl h1
  ·rcases dR.1 he with he|he
   ·exact h.2 e he
   ·rw [List.mem_singleton] at he;exact ⟨_,_,he⟩
 ·rintro ⟨e,he,hk⟩;obtain ⟨c',t,rfl⟩:=h.2 e he;exact hx (t,c') ((h.1 _ _).1 he) (D3 hk)
theorem mF.perm {kvs:List (Value × Value)} {l l':List It} (h:mF kvs l) (hl:∀x,x ∈ l ↔ x ∈ l'):mF kvs l':=⟨λc t=>(h.1 c t).trans (hl _),h.2⟩
theorem DS (room:Int) (w:World):ah 97 #[room] w λe w'=>∃g m,e=Value.pointer (some ⟨g,0,none⟩)/\vd w' g m ⟨none,0,0⟩ ⟨min (max room 1) 4096,0,[]⟩/\Ext w w'/\w.heap.size<=g/\w.heap.size<=m:=by
 apply UI.vc;intro w0 e0 w1 e1;have hm:cj GC w0 (some w.heap.size) []:=by rw [e0];exact cj.new
 have x1:=aL e1;refine ⟨w0.heap.size,w.heap.size,rfl,⟨?_,aC.nil,[],?_,by simp [mF]⟩,(aL e0).tr x1,?_,aB _⟩
 ·have:(min (max room 1) 4096)=(if 4096<(if 1>room then 1 else room) then 4096 else (if 1>room then 1 else room)):=by split<;>split<;>omega
  rw [e1,this];exact Row.new w0 [_,_,_,_] _
 ·exact hm.same (x1.heap hm.lt)
 ·rw [e0];simp
theorem Ct {w:World} {g m:Nat} {s:Sl} {q:QS} (h:vd w g m s q) (hq:IZ q) (c:Cl):ah 262 #[g,cv c] w λe w'=>e=Value.tuple #[.int .i64 ((nV q.l c).getD 0),.bool (nV q.l c).isSome]/\Ext w w':=by apply Ee.vc;intro w0 e0;have x0:Ext w w0.drew:=(Ext.cQ w|>.bB e0).drew;have h0:=h.ext x0;obtain ⟨kvs,hm,ht⟩:=h0.map;exact ⟨some m,h0.row.at 3 rfl,GC,kvs,qW,hm,⟨c,rfl⟩,_,_,ht.look hq.nodup c,rfl,x0⟩
theorem g7.pd {g m:Nat} {s s':Sl} {w w':World} (hm:Mod (g7 g m s) w w') (hs:∀b,s'.aY=some b->s.aY=some b\/w.heap.size<=b):aN (g7 g m s) (g7 g m s') w w':=
 ⟨hm,λi hi=>by
  rcases hi with h|h|h
  ·exact .inl (.inl h)
  ·exact .inl (.inr (.inl h))
  ·rcases hs i h with h|h
   ·exact .inl (.inr (.inr h))
   ·exact .inr h⟩
theorem Hs {w:World} {g m:Nat} {s:Sl} {q:QS} (h:vd w g m s q) (hsort:q.l.Pairwise λa b=>a.1<=b.1) (hl:q.l.length<=4998) {x:It} (hx:∀y ∈ q.l,y.2≠x.2):
  ah 264 #[g,.agg (fE x).toArray] w λe w'=>e=sY/\∃s',vd w' g m s' {q with l:=vV q.l x}/\aN (g7 g m s) (g7 g m s') w w':=by
 apply Ab.vc;intro w0 e0;have x0:=aL e0;have Rr:=eN e0;have h0:=h.ext (x0.drew);refine ⟨s,h0.row.at 2 rfl,?_⟩;refine (Yl x (h0.own.rd aE) hsort aa).mono ?_;rintro e w2 ⟨⟨b,rfl⟩,x2⟩;refine ⟨_,b,rfl,x2.heap (show w.heap.size<w0 by omega),?_⟩;have h2:=(h0.ext x2).ext (Ext.dr _);refine ⟨s,h2.row.at 2 rfl,?_⟩;intro w6 e6;have x6:=aL e6;have h6:=h2.ext x6;have cN:Row w6 w2.drew.heap.size (fE x) cC:=by rw [e6];exact Row.new _ _ _
 have hz2:=x2.size;have VQ:w.heap.size<w2.drew.heap.size:=j9 (show w.heap.size<w0 by omega) hz2;have hk:=(List.takeWhile_sublist (λy:It=>decide (y.1<=x.1)) (l:=q.l)).length_le;have FB:s.aY≠some w2.drew.heap.size:=λe=>by have:=h2.lt _ (.inr (.inr e));omega
 refine (LF h6.own cN hk aa FB).mono ?_;rintro e w7 ⟨s8,rfl,wQ,hm8,hs8⟩;have aqE:s.aY≠some w.heap.size:=λe=>by have:=h.lt _ (.inr (.inr e));omega
 have x06:Ext w w6:=((x0.drew).tr x2).tr ((Ext.dr _).tr x6);refine ⟨s8,rfl,hm8.same _ (by have:=x6.size;omega) aqE,?_⟩;have hr7:Row w7 g (pf q s m) gE:=hm8.row h6.row h6.Ac;obtain ⟨p1,p2⟩:=hr7.je (j:=2) (v:=.slice s8.a s8.n s8.c) bt rfl;refine ⟨⟨rfl,p1⟩,?_,?_⟩
 ·rw [cY];intro e;have:=h.row.lt;have:g=w.heap.size:=by simpa [bC] using e
  omega
 intro w9 e9;obtain ⟨q1,q2⟩:=p2 w9 e9;have x9:=Ext.dr w9;have hr9:=q1.ext x9;refine ⟨some m,hr9.at 3 rfl,?_⟩;obtain ⟨kvs,Fo,ht⟩:=h6.map;have hmap9:cj GC w9.drew (some m) kvs:=(Mod.aD (F:=λ_=>False) x9).map (q2.map (hm8.map Fo h6.pg) (Ne.symm h.nU)) bt;refine ⟨GC,kvs,qW,rfl,hmap9,⟨x.2,rfl⟩,?_⟩;intro bF fN hmap13;have ahu:=Mod.nO fN;refine ⟨rfl,s8,⟨?_,?_,_,hmap13,ht.ins hx⟩,g7.pd ?_ ?_⟩
 ·exact ahu.row hr9 h.nU
 ·have he:=acz q.l x;rw [he] at wQ;have hrow8:=λb hb=>bc wQ aE (b:=b) hb
  refine ahu.fm ((q2.fm wQ λb hb hf=> ?_).ext x9) λb hb hf=> ?_
  ·obtain ⟨cs,hr⟩:=hrow8 b hb;exact hr.ne hr7 aE hf
  ·obtain ⟨cs,hr⟩:=hrow8 b hb;exact hr.ji (hm8.map Fo h6.pg) hf
 ·refine ((((Mod.aD x06).trans (hm8.mono λb _ hb=> .inr (.inr hb))).trans (q2.mono λb _ hb=> .inl hb)).trans (Mod.aD x9)).trans (ahu.mono λb _ hb=> .inr (.inl hb))
 ·intro b hb;rcases hs8 b hb with h1|h1
  ·exact .inl h1
  ·exact .inr (fY x06.size h1)
theorem Ut {w:World} {g m:Nat} {s:Sl} {q:QS} (h:vd w g m s q) (hq:IZ q) (c:Cl):
  ah 263 #[g,cv c] w λe w'=>e=Value.bool (nV q.l c).isSome/\∃s',vd w' g m s' {q with l:=gd q.l c}/\aN (g7 g m s) (g7 g m s') w w':=by
 apply Ae.vc;intro w0 e0;have x0:=aL e0;have hbox0:Row w0 w (du c) tg:=by rw [e0];exact Row.new _ _ _
 have h0:=h.ext x0.drew;obtain ⟨kvs,hm,ht⟩:=h0.map;refine ⟨some m,h0.row.at 3 rfl,GC,kvs,qW,hm,⟨c,rfl⟩,_,_,ht.look hq.nodup c,Br.mk (λhb=> ?_) (λhb=> ?_)⟩
 ·have hn:nV q.l c=none:=by simpa using hb
  refine ⟨by rw [hn];rfl,s,?_,aN.aD x0.drew⟩;have:gd q.l c=q.l:=by unfold gd;rw [List.filter_eq_self];intro y hy;simpa using qX hn y hy
  rw [this];exact h0
 ·have hsome:(nV q.l c).isSome=true:=by simpa using hb
  have h1:=h0.ext (Ext.dr _);refine ⟨some m,h1.row.at 3 rfl,GC,kvs,qW,rfl,(Mod.aD (F:=λ_=>False) (Ext.dr _)).map hm bt,⟨c,rfl⟩,?_⟩;intro w9 fN hmap9;have hm9:=Mod.nO fN;have hr9:Row w9 g (pf q s m) gE:=hm9.row h1.row h.nU;refine ⟨s,hr9.at 2 rfl,?_⟩;have dG:=hq.len;have hroom:=hq.room;have hbox9:Row w9 w (du c) tg:=hm9.row (hbox0.ext (Ext.dr _|>.tr (Ext.dr _))) (λe=>by have:w.heap.size=m:=e;have:=h.lt m (.inr (.inl rfl));omega);have ho9:aC 0 cC 4 w9 s (q.l.map fE):=hm9.fm h1.own λb hb hf=>h1.pg (by rw [hb];exact congrArg some hf)
  refine (Bv ho9 hbox9 aa).mono ?_;rintro e aW ⟨jJ,rfl,adT,ahv,aho⟩;have H6:s.aY≠some m:=h.pg;have alj:Row aW g (pf q s m) gE:=ahv.row hr9 h.Ac;obtain ⟨p1,p2⟩:=alj.je (j:=2) (v:=.slice jJ.a jJ.n jJ.c) bt rfl;refine ⟨jJ,rfl,⟨rfl,p1⟩,λbF B7=> ?_⟩;obtain ⟨q1,q2⟩:=p2 bF B7;refine ⟨by rw [hsome],jJ,⟨q1,?_,_,q2.map (ahv.map hmap9 H6) (Ne.symm h.nU),ht.del c⟩,g7.pd ?_ ?_⟩
  ·refine q2.fm adT λb hb hf=> ?_
   obtain ⟨cs,hr⟩:=bc adT aE hb;exact hr.ne alj aE hf
  ·exact (((Mod.aD (x0.drew.drew)).trans (hm9.mono λb _ hb=> .inr (.inl hb))).trans (ahv.mono λb _ hb=> .inr (.inr hb))).trans (q2.mono λb _ hb=> .inl hb)
  ·intro b hb;exact .inl (aho▸hb)
theorem LC {w:World} {g m:Nat} {s:Sl} {q:QS} (h:vd w g m s q) (hq:IZ q) (hl:0<=q.lost/\q.lost<=1000000) (c:Cl) (t:Int):
  ah 211 #[g,cv c,t] w λe w'=>e=Value.bool (oy q c t).2/\∃s',vd w' g m s' (oy q c t).1/\aN (g7 g m s) (g7 g m s') w w':=by
 apply B0.vc;intro w0 e0;have x0:=aL e0;have Rr:=eN e0;have h0:=h.ext x0;have hn:s.n=q.l.length:=by rw [(h.own.rd aE).n,aM]
 have dG:=hq.len;have hroom:=hq.room;have hbg:g<w:=h.row.lt;have hbf:∀{s':Sl} {w1 w':World},w.heap.size<w1->aN (g7 g m s) (g7 g m s') w1 w'->w'.heap[w.heap.size]? =w1.heap[w.heap.size]? :=λgW ht=>
  ht.mod.same _ gW λhf=>by have:=h.lt _ hf;omega
 refine (Ct h0 hq c).mono ?_;rintro e w1 ⟨rfl,x1⟩;have h1:=h0.ext x1;have jC:=x0.tr x1;have N8:w.heap.size<w1:=by have:=x1.size;omega
 refine ⟨_,_,rfl,x1.heap (show w.heap.size<w0 by omega),Br.mk (λhb=> ?_) (λhb=> ?_)⟩
 ·obtain ⟨was,hw⟩:=nv.1 hb;have hg:(nV q.l c).getD 0=was:=by rw [hw];rfl
  rw [hg];refine Br.mk (λhc=> ?_) (λhc=>Br.mk (λ_=> ?_) (λhn=>by rw [hb] at hn;cases hn))
  ·replace hc:=lY hc;have e:oy q c t=(q,false):=by unfold oy;rw [hw];simp [hc]
   rw [e];exact ⟨rfl,s,h1,aN.aD jC⟩
  ·replace hc:=mg hc;have e:oy q c t=({q with l:=vV (gd q.l c) (t,c)},true):=by unfold oy;rw [hw];simp [hc]
   rw [e];refine (Ut h1 hq c).mono ?_;rintro e w4 ⟨rfl,s4,h4,t4⟩;refine ⟨_,rfl,hbf N8 t4,?_⟩;have hq4:=hq.drop c;have hl4:=hq4.len;have hz4:=t4.mod.size;refine (Hs (x:=(t,c)) h4 hq4.sorted (by simp only at hl4 ⊢;omega) (λy hy=>by have:=(List.mem_filter.1 hy).2;simpa using this)).mono ?_;rintro e w6 ⟨rfl,s6,h6,t6⟩;refine ⟨rfl,t6.mod.same _ aa (λhf=> ?_),rfl,s6,h6,((aN.aD jC).trans t4).trans t6⟩;rcases t4.sub _ hf with hf|hf
   ·have:=h.lt _ hf;omega
   ·omega
 ·refine Br.mk (λhb'=>by rw [hb] at hb';cases hb') (λ_=> ?_);have hw:nV q.l c=none:=by simpa using hb
  have h1d:=h1.ext (Ext.dr w1);refine ⟨s,h1d.row.at 2 rfl,q.room,h1d.row.at 0 rfl,?_⟩;rw [hn];apply Br.mk<;>intro hc
  ·have hc':((q.l.length:Nat):Int)=q.room:=by simpa using hc
   have e:oy q c t=({q with lost:=q.lost+1},false):=by unfold oy;rw [hw];simp [hc']
   rw [e];obtain ⟨p1,p2⟩:=h1d.row.je (j:=1) (v:=.int .i64 (aj (q.lost+1))) bt rfl;refine ⟨q.lost,h1d.row.at 1 rfl,⟨rfl,p1⟩,?_,λbD CH=> ?_⟩
   ·rw [cY];intro e;have:g=w.heap.size:=by simpa [bC] using e
    omega
   ·obtain ⟨q1,q2⟩:=p2 bD CH;rw [wI] at q1;obtain ⟨kvs,hm,ht⟩:=h1d.map;refine ⟨rfl,s,⟨q1,q2.fm h1d.own λb hb hf=>h.Ac (by rw [hb];exact congrArg some hf),kvs,q2.map hm (Ne.symm h.nU),ht⟩,(aN.aD jC.drew).trans (g7.pd (q2.mono λb _ hb=> .inl hb) λb hb=> .inl hb)⟩
  ·have hc':((q.l.length:Nat):Int)≠q.room:=by simpa using hc
   have e:oy q c t=({q with l:=vV q.l (t,c)},true):=by
    unfold oy;rw [hw];have:¬(q.l.length:Int)>=q.room:=by omega
    simp only;rw [if_neg this]
   rw [e];refine (Hs (x:=(t,c)) h1d hq.sorted aa (qX hw)).mono ?_;rintro e w6 ⟨rfl,s6,h6,t6⟩;exact ⟨rfl,hbf N8 t6,rfl,s6,h6,(aN.aD jC.drew).trans t6⟩
theorem PT {w:World} {s:Sl} {l:List It} (ho:aC 0 cC 4 w s (l.map fE)) (hl:l.length<=5000):
  ah 191 #[s] w λe w'=>∃s':Sl,e=s'/\aC w cC 4 w' s' (l.map fE)/\Ext w w':=by
 apply ya.vc;have hn:s.n=l.length:=by rw [(ho.rd aE).n,aM]
 apply Br.mk<;>intro h
 ·rcases ho.form aE with ⟨hs,B6⟩|⟨g0,cs,ha,-⟩
  ·exact ⟨⟨none,0,0⟩,rfl,by rw [B6];exact aC.nil,Ext.cQ _⟩
  ·rw [ha] at h;cases h
 ·intro w0 e0;have x0:=aL e0;have Rr:=eN e0;have hr0:Row w0 w [] cC:=by rw [e0];exact Row.new _ _ _
  have qh:aC w cC 4 w0 ⟨some ⟨w.heap.size,0,none⟩,0,0⟩ []:=aC.jf (aB _) hr0 bt (aB _) rfl bt;obtain ⟨hp,hr⟩:=qh.FO (bytes:=32) (more:=l.map fE) x0.size (fx _) (kh _) (by simp;omega) (by simp;omega);rw [aM,<-hn] at hp hr;refine ⟨(l.map fE).flatten,((ho.ext x0).rd aE).flat aE,hp,λs2 w3 bo=> ?_⟩;obtain ⟨h1,h2,h3,h4,h5⟩:=hr s2 w3 bo;refine ⟨oP bo (by rw [bM (fx _),aM,hn]) aa,s2,rfl,h1,x0.trans h3⟩
theorem Yf {w:World} {g m:Nat} {s:Sl} {q:QS} (h:vd w g m s q) (hq:IZ q):ah 138 #[g] w λe w'=>∃s':Sl,e=s'/\aC w cC 4 w' s' (q.l.map fE)/\Ext w w':=by apply BT.vc;have:=hq.len;have:=hq.room;refine ⟨s,h.row.at 2 rfl,(PT h.own aa).mono ?_⟩;rintro e w1 ⟨s',rfl,h1,x1⟩;exact ⟨s',rfl,s',rfl,h1,x1⟩
theorem Yv {w:World} {g m:Nat} {s:Sl} {q:QS} (h:vd w g m s q) (hq:IZ q) (now many:Int):
  ah 172 #[g,now,many] w λe w'=>∃so:Sl,e=Value.slice so.a so.n so.c/\∃s',aC w tg 3 w' so ((zZ q now many).2.map du)/\vd w' g m s' (zZ q now many).1/\aN (g7 g m s) (g7 g m s') w w':=by
 have hn:s.n=q.l.length:=by rw [(h.own.rd aE).n,aM]
 have dG:=hq.len;have hroom:=hq.room;have VU:s.n<=s.c:=by
  rcases h.own.form aE with ⟨hs,-⟩|⟨g0,cs,ha,hg0,hr,hc,MQ,-⟩
  ·rw [hs];exact aB _
  ·exact MQ
 have hql:=Ux q.l now many;apply BU.vc;refine ⟨λn x wr=>w=wr/\∃k:Nat,x=k/\k+n=iG q.l now many,⟨iG q.l now many,rfl,0,rfl,by omega⟩,?_⟩;rintro n0 us x wr ⟨rfl,k,rfl,hk⟩;have N6:k<=q.l.length:=by omega
 refine ⟨s,h.row.at 2 rfl,Br.mk (λhc=> ?_) (λhc=> ?_)⟩
 ·replace hc:=lY hc;have eP:q.l[k]? =some (q.l[k]'aa):=c8 aa;have Fz:=Uw hq now many eP;generalize q.l[k]'aa=y at eP Fz;apply Br.mk<;>intro nr
  ·replace nr:=lY nr;have ic:=h.own.rd aE;refine ⟨s,h.row.at 2 rfl,⟨ic.isSome aE (i:=k) (by simp;omega),by omega,by omega⟩,?_⟩;have H6:(ae s.a ((k:Int).toNat*4)).isSome=true:=by rw [fL];exact ic.isSome aE (i:=k) (by simp;omega)
   refine bA.2 ⟨g9.2 H6,y.1,?_,Br.mk (λSY=> ?_) (λSY=> ?_)⟩
   ·exact ic.at (i:=k) (r:=fE y) (by rw [aS,eP];rfl) rfl
   ·replace SY:=lY SY;have:=Fz.2 ⟨nr,SY⟩;have hw:=mh (j:=k);exact ⟨n0-1,by omega,rfl,k+1,hw,by omega⟩
   ·replace SY:=mg SY;have hkq:k=iG q.l now many:=by
     have:¬k<iG q.l now many:=λgW=>SY (Fz.1 gW).2
     omega
    (
     refine ⟨s,h.row.at 2 rfl,by omega,by omega,by omega,by omega,λn x so wr=>∃j:Nat,x=j/\j+n=k/\Go.Vc.Mod (λi=>i=m) w wr/\aC w tg 3 wr so ((q.l.take j).map λy=>du y.2)/\∃kvs,cj GC wr (some m) kvs/\mF kvs (q.l.drop j),⟨k,0,rfl,by omega,Go.Vc.Mod.refl _ _,aC.nil,by simpa using h.map⟩,?_⟩
     rintro n us x so wr ⟨j,rfl,hj,jk,iW,kvs,Fo,rW⟩
     have cN:Row wr g (pf q s m) gE:=jk.row h.row h.nU
     have qh:aC 0 cC 4 wr s (q.l.map fE):=jk.fm h.own λb hb hf=>h.pg (by rw [hb];exact congrArg some hf)
     apply Br.mk<;>intro hc
     ·replace hc:=lY hc
      have NJ:j<q.l.length:=by omega
      have eP:q.l[j]? =some (q.l[j]'NJ):=c8 NJ
      generalize q.l[j]'NJ=y at eP
      have ic:=qh.rd aE
      refine ⟨⟨?_,by omega,by omega⟩,y.1,y.2.1,y.2.2.1,y.2.2.2,?_,?_⟩
      ·have:=ic.isSome aE (i:=j) (by simp;omega)
       unfold aJ;split<;>simpa using this
      ·rw [lG];exact RdK.item ic eP
      intro ed wO cL wN dT H5
      have dm:=aL wO
      have dI:Ext wr cL:=dm.af wN (aB _)
      have dz:Ext wr dT:=dI.bB H5
      have alB:cL.heap.size=wr.heap.size+1:=by rw [wN,setRow_size,wO];simp
      have alC:=eN H5
      have ZG:so.n=j:=by rw [(iW.rd aE).n,aM,dC];omega
      have hzw:=jk.size
      obtain ⟨hp,hr⟩:=(iW.ext dz).append (bytes:=24) (news:=du y.2) aa rfl (by intro u hu;simp at hu;rcases hu with rfl|rfl|rfl<;>rfl) aa aa
      refine ⟨hp,λrE cP bo=> ?_⟩
      obtain ⟨h1,h2,h3,h4,h5⟩:=hr rE cP bo
      have FB:∀b,so.aY=some b->b<wr.heap.size:=λb hb=>(iW.own.lt hb).2
      have aaT:Go.Vc.Mod (λi=>so.aY=some i) dT cP:=⟨h3.os,h3.tape,h3.output,h3.size,λi hi hn=>h4 i hn hi⟩
      have H6:so.aY≠some m:=λe=>by have h1:=(iW.own.lt e).1;have h2:=h.lt m (.inr (.inl rfl));omega
      refine ⟨h4 _ (λe=>by have:=FB _ e;omega) aa,h4 _ (λe=>by have:=FB _ e;omega) aa,?_⟩;have Bp:Go.Vc.Mod (λi=>so.aY=some i) wr cP.drew:=((Go.Vc.Mod.aD dz).trans aaT).trans (Go.Vc.Mod.aD (Ext.dr _));have hsg:so.aY≠some g:=λe=>by have h1:=(iW.own.lt e).1;have h2:=h.lt g (.inl rfl);omega
      refine ⟨some m,(Bp.row cN hsg).at 3 rfl,GC,kvs,qW,rfl,Bp.map Fo H6,⟨y.2,rfl⟩,?_⟩;intro dH fN hmap29;have Ni:=Go.Vc.Mod.nO fN;have hwj:=mh (j:=j);rw [hwj];refine ⟨n-1,by omega,j+1,rfl,by omega,(jk.tr Bp (λi hi=> .inr (iW.own.lt hi).1)).trans Ni,?_,_,hmap29,?_⟩
      ·have e:(q.l.take (j+1)).map (λy=>du y.2)=(q.l.take j).map (λy=>du y.2)++ [du y.2]:=by rw [dE,eP,bZ];rfl
       rw [e];refine Ni.fm (h1.ext (Ext.dr _)) λb hb hf=> ?_
       have hb':rE.aY=some m:=by rw [hb];exact congrArg some hf
       have:=h.lt m (.inr (.inl rfl));rcases h5 with h5|h5
       ·exact H6 (h5▸hb')
       ·rw [h5] at hb';have:dT.heap.size=m:=by simpa using hb'
        omega
      ·have hd:=rW.del y.2;refine hd.perm λz=> ?_
       have hcons:q.l.drop j=y::q.l.drop (j+1):=by obtain ⟨gW,he⟩:=cR.1 eP;rw [List.drop_eq_getElem_cons gW,he]
       have hnd:((y::q.l.drop (j+1)).map (·.2)).Nodup:=by rw [<-hcons];exact ((List.drop_sublist j q.l).map _).nodup hq.nodup
       rw [hcons];unfold gd;rw [fT,List.nodup_cons] at hnd;constructor
       ·intro hz;obtain ⟨N8,hz2⟩:=List.mem_filter.1 hz;rcases cH.1 N8 with rfl|N8
        ·simp at hz2
        ·exact N8
       ·intro hz;refine List.mem_filter.2 ⟨List.mem_cons_of_mem _ hz,?_⟩;have:z.2≠y.2:=λe=>hnd.1 (e▸List.mem_map_of_mem hz)
        simpa using this
     ·replace hc:=mg hc;have QK:j=k:=by omega
      subst QK;refine ⟨s,cN.at 2 rfl,(tj qh N6 aa).mono ?_⟩;rintro e fj ⟨oB,rfl,GO,yO,aaU⟩;have Nj:Row fj g (pf q s m) gE:=yO.row cN h.Ac;obtain ⟨p1,p2⟩:=Nj.je (j:=2) (v:=.slice oB.a oB.n oB.c) bt rfl;refine ⟨oB,rfl,⟨rfl,p1⟩,λej MS=> ?_⟩;obtain ⟨q1,q2⟩:=p2 ej MS;have SW:∀b,so.aY=some b->w.heap.size<=b:=λb hb=>(iW.own.lt hb).1
      refine ⟨so,rfl,oB,?_,?_,?_⟩
      ·unfold zZ;rw [<-hkq,List.map_map];refine q2.fm (yO.fm iW λb hb hf=> ?_) λb hb hf=> ?_
       ·have:=SW b hb;have:=h.lt b (.inr (.inr hf));omega
       ·have:=SW b hb;have:=h.lt b (.inl hf);omega
      ·unfold zZ;rw [<-hkq];refine ⟨q1,q2.fm GO λb hb hf=> ?_,kvs,q2.map (yO.map Fo h.pg) (Ne.symm h.nU),rW⟩;obtain ⟨cs,hr⟩:=bc GO aE hb;exact hr.ne Nj aE hf
      ·refine g7.pd (((jk.mono λb _ hb=> .inr (.inl hb)).trans (yO.mono λb _ hb=> .inr (.inr hb))).trans (q2.mono λb _ hb=> .inl hb)) λb hb=> .inl (aaU▸hb))
  ·replace nr:=mg nr;have hkq:k=iG q.l now many:=by
    have:¬k<iG q.l now many:=λgW=>nr (Fz.1 gW).1
    omega
   (
    refine ⟨s,h.row.at 2 rfl,by omega,by omega,by omega,by omega,λn x so wr=>∃j:Nat,x=j/\j+n=k/\Go.Vc.Mod (λi=>i=m) w wr/\aC w tg 3 wr so ((q.l.take j).map λy=>du y.2)/\∃kvs,cj GC wr (some m) kvs/\mF kvs (q.l.drop j),⟨k,0,rfl,by omega,Go.Vc.Mod.refl _ _,aC.nil,by simpa using h.map⟩,?_⟩
    rintro n us x so wr ⟨j,rfl,hj,jk,iW,kvs,Fo,rW⟩
    have cN:Row wr g (pf q s m) gE:=jk.row h.row h.nU
    have qh:aC 0 cC 4 wr s (q.l.map fE):=jk.fm h.own λb hb hf=>h.pg (by rw [hb];exact congrArg some hf)
    apply Br.mk<;>intro hc
    ·replace hc:=lY hc
     have NJ:j<q.l.length:=by omega
     have eP:q.l[j]? =some (q.l[j]'NJ):=c8 NJ
     generalize q.l[j]'NJ=y at eP
     have ic:=qh.rd aE
     refine ⟨⟨?_,by omega,by omega⟩,y.1,y.2.1,y.2.2.1,y.2.2.2,?_,?_⟩
     ·have:=ic.isSome aE (i:=j) (by simp;omega)
      unfold aJ;split<;>simpa using this
     ·rw [lG];exact RdK.item ic eP
     intro ed wO cL wN dT H5
     have dm:=aL wO
     have dI:Ext wr cL:=dm.af wN (aB _)
     have dz:Ext wr dT:=dI.bB H5
     have alB:cL.heap.size=wr.heap.size+1:=by rw [wN,setRow_size,wO];simp
     have alC:=eN H5
     have ZG:so.n=j:=by rw [(iW.rd aE).n,aM,dC];omega
     have hzw:=jk.size
     obtain ⟨hp,hr⟩:=(iW.ext dz).append (bytes:=24) (news:=du y.2) aa rfl (by intro u hu;simp at hu;rcases hu with rfl|rfl|rfl<;>rfl) aa aa
     refine ⟨hp,λrE cP bo=> ?_⟩
     obtain ⟨h1,h2,h3,h4,h5⟩:=hr rE cP bo
     have FB:∀b,so.aY=some b->b<wr.heap.size:=λb hb=>(iW.own.lt hb).2
     have aaT:Go.Vc.Mod (λi=>so.aY=some i) dT cP:=⟨h3.os,h3.tape,h3.output,h3.size,λi hi hn=>h4 i hn hi⟩
     have H6:so.aY≠some m:=λe=>by have h1:=(iW.own.lt e).1;have h2:=h.lt m (.inr (.inl rfl));omega
     refine ⟨h4 _ (λe=>by have:=FB _ e;omega) aa,h4 _ (λe=>by have:=FB _ e;omega) aa,?_⟩;have Bp:Go.Vc.Mod (λi=>so.aY=some i) wr cP.drew:=((Go.Vc.Mod.aD dz).trans aaT).trans (Go.Vc.Mod.aD (Ext.dr _));have hsg:so.aY≠some g:=λe=>by have h1:=(iW.own.lt e).1;have h2:=h.lt g (.inl rfl);omega
     refine ⟨some m,(Bp.row cN hsg).at 3 rfl,GC,kvs,qW,rfl,Bp.map Fo H6,⟨y.2,rfl⟩,?_⟩;intro dH fN hmap29;have Ni:=Go.Vc.Mod.nO fN;have hwj:=mh (j:=j);rw [hwj];refine ⟨n-1,by omega,j+1,rfl,by omega,(jk.tr Bp (λi hi=> .inr (iW.own.lt hi).1)).trans Ni,?_,_,hmap29,?_⟩
     ·have e:(q.l.take (j+1)).map (λy=>du y.2)=(q.l.take j).map (λy=>du y.2)++ [du y.2]:=by rw [dE,eP,bZ];rfl
      rw [e];refine Ni.fm (h1.ext (Ext.dr _)) λb hb hf=> ?_
      have hb':rE.aY=some m:=by rw [hb];exact congrArg some hf
      have:=h.lt m (.inr (.inl rfl));rcases h5 with h5|h5
      ·exact H6 (h5▸hb')
      ·rw [h5] at hb';have:dT.heap.size=m:=by simpa using hb'
       omega
     ·have hd:=rW.del y.2;refine hd.perm λz=> ?_
      have hcons:q.l.drop j=y::q.l.drop (j+1):=by obtain ⟨gW,he⟩:=cR.1 eP;rw [List.drop_eq_getElem_cons gW,he]
      have hnd:((y::q.l.drop (j+1)).map (·.2)).Nodup:=by rw [<-hcons];exact ((List.drop_sublist j q.l).map _).nodup hq.nodup
      rw [hcons];unfold gd;rw [fT,List.nodup_cons] at hnd;constructor
      ·intro hz;obtain ⟨N8,hz2⟩:=List.mem_filter.1 hz;rcases cH.1 N8 with rfl|N8
       ·simp at hz2
       ·exact N8
      ·intro hz;refine List.mem_filter.2 ⟨List.mem_cons_of_mem _ hz,?_⟩;have:z.2≠y.2:=λe=>hnd.1 (e▸List.mem_map_of_mem hz)
       simpa using this
    ·replace hc:=mg hc;have QK:j=k:=by omega
     subst QK;refine ⟨s,cN.at 2 rfl,(tj qh N6 aa).mono ?_⟩;rintro e fj ⟨oB,rfl,GO,yO,aaU⟩;have Nj:Row fj g (pf q s m) gE:=yO.row cN h.Ac;obtain ⟨p1,p2⟩:=Nj.je (j:=2) (v:=.slice oB.a oB.n oB.c) bt rfl;refine ⟨oB,rfl,⟨rfl,p1⟩,λej MS=> ?_⟩;obtain ⟨q1,q2⟩:=p2 ej MS;have SW:∀b,so.aY=some b->w.heap.size<=b:=λb hb=>(iW.own.lt hb).1
     refine ⟨so,rfl,oB,?_,?_,?_⟩
     ·unfold zZ;rw [<-hkq,List.map_map];refine q2.fm (yO.fm iW λb hb hf=> ?_) λb hb hf=> ?_
      ·have:=SW b hb;have:=h.lt b (.inr (.inr hf));omega
      ·have:=SW b hb;have:=h.lt b (.inl hf);omega
     ·unfold zZ;rw [<-hkq];refine ⟨q1,q2.fm GO λb hb hf=> ?_,kvs,q2.map (yO.map Fo h.pg) (Ne.symm h.nU),rW⟩;obtain ⟨cs,hr⟩:=bc GO aE hb;exact hr.ne Nj aE hf
     ·refine g7.pd (((jk.mono λb _ hb=> .inr (.inl hb)).trans (yO.mono λb _ hb=> .inr (.inr hb))).trans (q2.mono λb _ hb=> .inl hb)) λb hb=> .inl (aaU▸hb))
 ·replace hc:=mg hc;have hkq:k=iG q.l now many:=by omega
  (
   refine ⟨s,h.row.at 2 rfl,by omega,by omega,by omega,by omega,λn x so wr=>∃j:Nat,x=j/\j+n=k/\Go.Vc.Mod (λi=>i=m) w wr/\aC w tg 3 wr so ((q.l.take j).map λy=>du y.2)/\∃kvs,cj GC wr (some m) kvs/\mF kvs (q.l.drop j),⟨k,0,rfl,by omega,Go.Vc.Mod.refl _ _,aC.nil,by simpa using h.map⟩,?_⟩
   rintro n us x so wr ⟨j,rfl,hj,jk,iW,kvs,Fo,rW⟩
   have cN:Row wr g (pf q s m) gE:=jk.row h.row h.nU
   have qh:aC 0 cC 4 wr s (q.l.map fE):=jk.fm h.own λb hb hf=>h.pg (by rw [hb];exact congrArg some hf)
   apply Br.mk<;>intro hc
   ·replace hc:=lY hc
    have NJ:j<q.l.length:=by omega
    have eP:q.l[j]? =some (q.l[j]'NJ):=c8 NJ
    generalize q.l[j]'NJ=y at eP
    have ic:=qh.rd aE
    refine ⟨⟨?_,by omega,by omega⟩,y.1,y.2.1,y.2.2.1,y.2.2.2,?_,?_⟩
    ·have:=ic.isSome aE (i:=j) (by simp;omega)
     unfold aJ;split<;>simpa using this
    ·rw [lG];exact RdK.item ic eP
    intro ed wO cL wN dT H5
    have dm:=aL wO
    have dI:Ext wr cL:=dm.af wN (aB _)
    have dz:Ext wr dT:=dI.bB H5
    have alB:cL.heap.size=wr.heap.size+1:=by rw [wN,setRow_size,wO];simp
    have alC:=eN H5
    have ZG:so.n=j:=by rw [(iW.rd aE).n,aM,dC];omega
    have hzw:=jk.size
    obtain ⟨hp,hr⟩:=(iW.ext dz).append (bytes:=24) (news:=du y.2) aa rfl (by intro u hu;simp at hu;rcases hu with rfl|rfl|rfl<;>rfl) aa aa
    refine ⟨hp,λrE cP bo=> ?_⟩
    obtain ⟨h1,h2,h3,h4,h5⟩:=hr rE cP bo
    have FB:∀b,so.aY=some b->b<wr.heap.size:=λb hb=>(iW.own.lt hb).2
    have aaT:Go.Vc.Mod (λi=>so.aY=some i) dT cP:=⟨h3.os,h3.tape,h3.output,h3.size,λi hi hn=>h4 i hn hi⟩
    have H6:so.aY≠some m:=λe=>by have h1:=(iW.own.lt e).1;have h2:=h.lt m (.inr (.inl rfl));omega
    refine ⟨h4 _ (λe=>by have:=FB _ e;omega) aa,h4 _ (λe=>by have:=FB _ e;omega) aa,?_⟩;have Bp:Go.Vc.Mod (λi=>so.aY=some i) wr cP.drew:=((Go.Vc.Mod.aD dz).trans aaT).trans (Go.Vc.Mod.aD (Ext.dr _));have hsg:so.aY≠some g:=λe=>by have h1:=(iW.own.lt e).1;have h2:=h.lt g (.inl rfl);omega
    refine ⟨some m,(Bp.row cN hsg).at 3 rfl,GC,kvs,qW,rfl,Bp.map Fo H6,⟨y.2,rfl⟩,?_⟩;intro dH fN hmap29;have Ni:=Go.Vc.Mod.nO fN;have hwj:=mh (j:=j);rw [hwj];refine ⟨n-1,by omega,j+1,rfl,by omega,(jk.tr Bp (λi hi=> .inr (iW.own.lt hi).1)).trans Ni,?_,_,hmap29,?_⟩
    ·have e:(q.l.take (j+1)).map (λy=>du y.2)=(q.l.take j).map (λy=>du y.2)++ [du y.2]:=by rw [dE,eP,bZ];rfl
     rw [e];refine Ni.fm (h1.ext (Ext.dr _)) λb hb hf=> ?_
     have hb':rE.aY=some m:=by rw [hb];exact congrArg some hf
     have:=h.lt m (.inr (.inl rfl));rcases h5 with h5|h5
     ·exact H6 (h5▸hb')
     ·rw [h5] at hb';have:dT.heap.size=m:=by simpa using hb'
      omega
    ·have hd:=rW.del y.2;refine hd.perm λz=> ?_
     have hcons:q.l.drop j=y::q.l.drop (j+1):=by obtain ⟨gW,he⟩:=cR.1 eP;rw [List.drop_eq_getElem_cons gW,he]
     have hnd:((y::q.l.drop (j+1)).map (·.2)).Nodup:=by rw [<-hcons];exact ((List.drop_sublist j q.l).map _).nodup hq.nodup
     rw [hcons];unfold gd;rw [fT,List.nodup_cons] at hnd;constructor
     ·intro hz;obtain ⟨N8,hz2⟩:=List.mem_filter.1 hz;rcases cH.1 N8 with rfl|N8
      ·simp at hz2
      ·exact N8
     ·intro hz;refine List.mem_filter.2 ⟨List.mem_cons_of_mem _ hz,?_⟩;have:z.2≠y.2:=λe=>hnd.1 (e▸List.mem_map_of_mem hz)
      simpa using this
   ·replace hc:=mg hc;have QK:j=k:=by omega
    subst QK;refine ⟨s,cN.at 2 rfl,(tj qh N6 aa).mono ?_⟩;rintro e fj ⟨oB,rfl,GO,yO,aaU⟩;have Nj:Row fj g (pf q s m) gE:=yO.row cN h.Ac;obtain ⟨p1,p2⟩:=Nj.je (j:=2) (v:=.slice oB.a oB.n oB.c) bt rfl;refine ⟨oB,rfl,⟨rfl,p1⟩,λej MS=> ?_⟩;obtain ⟨q1,q2⟩:=p2 ej MS;have SW:∀b,so.aY=some b->w.heap.size<=b:=λb hb=>(iW.own.lt hb).1
    refine ⟨so,rfl,oB,?_,?_,?_⟩
    ·unfold zZ;rw [<-hkq,List.map_map];refine q2.fm (yO.fm iW λb hb hf=> ?_) λb hb hf=> ?_
     ·have:=SW b hb;have:=h.lt b (.inr (.inr hf));omega
     ·have:=SW b hb;have:=h.lt b (.inl hf);omega
    ·unfold zZ;rw [<-hkq];refine ⟨q1,q2.fm GO λb hb hf=> ?_,kvs,q2.map (yO.map Fo h.pg) (Ne.symm h.nU),rW⟩;obtain ⟨cs,hr⟩:=bc GO aE hb;exact hr.ne Nj aE hf
    ·refine g7.pd (((jk.mono λb _ hb=> .inr (.inl hb)).trans (yO.mono λb _ hb=> .inr (.inr hb))).trans (q2.mono λb _ hb=> .inl hb)) λb hb=> .inl (aaU▸hb))
end Go.Proofs.YtkkkfkopcfdmaaaGreatDoor.Q
