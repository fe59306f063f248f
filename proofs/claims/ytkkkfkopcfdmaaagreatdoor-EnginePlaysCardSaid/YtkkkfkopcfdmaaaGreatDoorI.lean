import Derived.Test.YtkkkfkopcfdmaaaGreatDoorH
import Derived.Test.YtkkkfkopcfdmaaaGreatDoorD
set_option linter.all false
namespace Go.Proofs.YtkkkfkopcfdmaaaGreatDoor
open Go Go.Vc Go.RowKit Go.Proofs
set_option maxRecDepth 100000
set_option maxHeartbeats 8000000
set_option linter.unusedVariables false
variable {R:Ending->World->Prop} {w:World} {a0 a1 a2 a3 a4 a5 a6 a7 a8 a9 aA aq au aT aU aX bN bI bJ EU ak ao aw bw bR bP eZ fa eL EV br bG bq yC yD wC wD yE yF yG EW EX EY EZ E0 E1 E2 E3 E4 E5:Int}
theorem Iz.vc {a0:Value} (h:
 ∀w0,w0=w.alloc (.cells #[ak,ao,aw,bw,bR,bP] 107)->
 ah 102 #[a0,.agg #[ak,ao,aw,bw,bR,bP],.func (.func 274) #[] #[]] w0 (Rb λb2 w1=>Kp w w0 w1/\
 R b2 w1)):ah 234 #[a0,.agg #[ak,ao,aw,bw,bR,bP]] w R:=
 cq bT Tryz.func234 h
theorem Tv.vc {a0:Value} (h:
 ∀w0,w0=w.alloc (.cells #[ak,ao,aw,bw,bR,bP] 107)->
 ah 102 #[a0,.agg #[ak,ao,aw,bw,bR,bP],.func (.func 202) #[] #[]] w0 (Rb λb2 w1=>Kp w w0 w1/\
 R b2 w1)):ah 235 #[a0,.agg #[ak,ao,aw,bw,bR,bP]] w R:=
 cq bT Tryz.func235 h
theorem IA.vc (h:
 R (Value.bool (a0==4)) w):ah 274 #[a0] w R:=
 cq bT Tryz.func274 h
theorem IB.vc (h:
 ∀w0,w0=w.alloc (.cells #[aA,aq,au,aT,aU,aX] 107)->
 ∀w1,w1=w0.alloc (.cells #[a1] 3)->
 ∀w2,w2=w1.alloc (.cells #[a2] 3)->
 R (Value.func (.func 322) #[] #[w,.pointer (some ⟨w0,0,none⟩),.pointer (some ⟨w1,0,none⟩)]) w2):ah 311 #[.agg #[aA,aq,au,aT,aU,aX],a1,a2] w R:=
 cq bT Tryz.func311 h
theorem Dp.vc {a0:Value} {c0:Addr} {c1:Addr} {c2:Addr} (h:
 ∃(x0 x1 x2:Int),ag w.drew (ae (some c0) 0) 0 [x0,x1,x2]/\
 ∃(x3:Int),ld w.drew (some c1)=some (.int .i64 x3)/\
 ∃(x4 x5 x6:Int),ag w.drew (ae (some c0) 3) 0 [x4,x5,x6]/\
 ∃(x7:Int),ld w.drew (some c1)=some (.int .i64 x7)/\
 ah 178 #[.agg #[x0,x1,x2],x3] w.drew (λe w8=>∃(x9:Int),e=x9/\
 ag w8 (some c1) 0 [x7]/\ag w8 (ae (some c0) 3) 0 [x4,x5,x6]/\ah 178 #[.agg #[x4,x5,x6],x7] w8 (λe bD=>∃(bz:Int),e=bz/\
 ∃(bU:Int),ld bD (some c2)=some (.int .i64 bU)/\
 Br (bU>0)
 (ah 152 #[(aj ((aj (bz+65536))-1))] bD (λe bF=>∃(bW:Int),e=bW/\
 ∃I15:Nat->Int->World->Prop,
 (∃J7,I15 J7 bW bF)/\
 ∀(J7:Nat) (apn:Nat->Value) (cg:Int) (fy:World),I15 J7 cg fy->
 ∃(dm:Int),ld fy.drew (some c2)=some (.int .i64 dm)/\
 ah 174 #[cg] fy.drew (λe cL=>∃(dz:Int),e=dz/\
 ag cL (some c2) 0 [dm]/\Br (decide (dz<(aj (bz+dm))))
 (ah 174 #[cg] cL (λe fH=>∃(dQ:Int),e=dQ/\
 cw Tryz.prog a0 [cg,(aj (dQ-bz))] fH (λe eG=>∃(Ax:Bool),e=Ax/\
 Br (!Ax)
 (R sY eG)
 (∃QN,QN<J7/\I15 QN ((aj (cg+1))) eG))))
 (R sY cL))))
 (ah 152 #[x9] bD (λe gn=>∃(fI:Int),e=fI/\
 ∃I30:Nat->Int->World->Prop,
 (∃Su,I30 Su ((aj (fI-1))) gn)/\
 ∀(Su:Nat) (apo:Nat->Value) (ey:Int) (iL:World),I30 Su ey iL->
 ∃(m4:Int),ld iL.drew (some c2)=some (.int .i64 m4)/\
 ah 174 #[(aj (ey+1))] iL.drew (λe gJ=>∃(fX:Int),e=fX/\
 ag gJ (some c2) 0 [m4]/\Br (decide (fX>(aj (x9+m4))))
 (ah 174 #[(aj (ey+1))] gJ (λe jD=>∃(lW:Int),e=lW/\
 cw Tryz.prog a0 [ey,(aj (lW-x9))] jD (λe jm=>∃(b42:Bool),e=b42/\
 Br (!b42)
 (R sY jm)
 (∃J6,J6<Su/\I30 J6 ((aj (ey-1))) jm))))
 (R sY gJ))))))):ah 322 #[a0,c0,c1,c2] w R:=
 cq ⟨[(3,⟨[(7,.int .i64)],[],[]⟩),(7,⟨[(8,.int .i64)],[],[]⟩)],[],[]⟩ Tryz.func322 h
theorem KI.vc (h:
 ∀w0,w0=w.alloc (.cells #[aA,aq,au,aT,aU,aX] 107)->
 ∀w1,w1=w0.alloc (.cells #[ab,ab,ab,ab,ab,ab] 107)->
 ah 174 #[a2] w1.drew (Ri λx3 w2=>K2 w w0 w1.drew w2 (
 ag w2 (some ⟨w,3,none⟩) 0 [aT,aU,aX]/\ag w2 w 0 [aA,aq,au]/\ah 155 #[.agg #[aA,aq,au],a1,x3] w2 (iM λx5 x6 x7 w4=>K2 w w0 w2 w4 (
 ag w4 (some ⟨w,3,none⟩) 0 [aT,aU,aX]/\ah 174 #[(aj (a2+1))] w4 (Ri λx9 w8=>K2 w w0 w4 w8 (
 ag w8 (some ⟨w,3,none⟩) 0 [aT,aU,aX]/\ah 155 #[.agg #[aT,aU,aX],a1,x9] w8 (iM λbz bU cc bD=>K2 w w0 w8 bD (
 ∀bK,bK=bD.setRow w0 #[x5,x6,x7,bz,bU,cc]->
 R (Value.agg #[x5,x6,x7,bz,bU,cc]) bK))))))))):ah 312 #[.agg #[aA,aq,au,aT,aU,aX],a1,a2] w R:=
 cq bT Tryz.func312 h
theorem O5.vc {a0:Value} (h:
 aP (ke a0) (
 ∀w0,w0=w.alloc (.cells #[a0] 65)->
 ∀w1,w1=w0.alloc (.cells #[ak,ao,aw,bw,bR,bP] 107)->
 ∀w2,w2=w1.alloc (.cells #[a2] 3)->
 ∀w3,w3=w2.alloc (.cells #[ab] 3)->
 ∀w4,w4=w3.alloc (.cells #[false] 4)->
 Br (a2<0)
 (∀w5,w5=w4.setRow w2 #[ab]->
 ∀w6,w6=w5.setRow w3 #[false]->
 R (Value.tuple #[ab,false]) w6)
 (Br (a2>=3)
 (∀w7,w7=w4.setRow w2 #[ab]->
 ∀w8,w8=w7.setRow w3 #[false]->
 R (Value.tuple #[ab,false]) w8)
 (ah 311 #[.agg #[ak,ao,aw,bw,bR,bP],a2,.int .i64 (if 4194304<(if (-4194304)>a3 then (-4194304) else a3) then 4194304 else (if (-4194304)>a3 then (-4194304) else a3))] w4 (Rv λv10 w9=>K5 w w0 w1 w2 w3 w4 w9 (
 ∃(adm:List (LV)) (ajW F13:Nat->Prop) (I14:Nat->(Nat->Prop)->Int->Bool->World->Prop) (X15:Option Nat->(Nat->Prop)->Int->Bool->World->Prop),
 (∀x ∈ adm,∃(cp cT:Int),x=[.int .i64 cp,.int .i64 cT])/\
 (∀(n18:Nat) (F19:Nat->Prop) (cZ:Int) (J3:Bool) (cL dT:World),I14 n18 F19 cZ J3 cL->Below w9 cL dT->(∀i,F19 i->dT.heap[i]? =cL.heap[i]?)->I14 n18 F19 cZ J3 dT)/\
 (∀(n24:Option Nat) (F25:Nat->Prop) (fk:Int) (Ax:Bool) (gn dH:World),X15 n24 F25 fk Ax gn->Below w9 gn dH->(∀i,F25 i->dH.heap[i]? =gn.heap[i]?)->X15 n24 F25 fk Ax dH)/\
 (∀(n30:Nat) (F31:Nat->Prop) (gQ:Int) (b33:Bool) (iL:World),I14 n30 F31 gQ b33 iL->∀i,F31 i->i<iL.heap.size/\i≠w9.heap.size/\i≠w9.heap.size+1)/\
 (∀(J6:Option Nat) (F36:Nat->Prop) (gu:Int) (b38:Bool) (jD:World),X15 J6 F36 gu b38 jD->∀i,F36 i->i<jD.heap.size/\i≠w9.heap.size/\i≠w9.heap.size+1)/\
 (∀i,ajW i->i<w9.heap.size/\¬F13 i/\i≠w.heap.size/\i≠w0.heap.size/\i≠w1.heap.size/\i≠w2.heap.size/\i≠w3.heap.size/\True)/\
 (∀ik:World,KJ w9 w9 ik->Iter Tryz.prog (v10) ik ajW adm/\aO [a0]/\aO [ak,ao,aw,bw,bR,bP]/\aO [a2]/\I14 0 F13 (0) false ik)/\
 (∀(n41:Nat) (F42:Nat->Prop) (awR:Nat->Value) (kD:Int) (HZ:Bool) (gM rV:Int) (fG:World),adm[n41]? =some [.int .i64 gM,.int .i64 rV]->I14 n41 F42 kD HZ fG->
 Below fG fG fG/\∀kv:World,Rec (w9.heap.size+1) fG kv->I14 n41 F42 kD HZ kv->
 ah 312 #[.agg #[ak,ao,aw,bw,bR,bP],a2,gM] kv.drew (vy λlr kE im ou ky rZ kM=>K5 w w0 w1 w2 w3 kv.drew kM (
 ag kM w 0 [a0]/\ah 46 #[a0,.agg #[lr,kE,im,ou,ky,rZ]] kM (Rb λN0 l8=>K5 w w0 w1 w2 w3 kM l8 (
 Br N0
 (∀sQ,sQ=l8.setRow w2 #[rV]->
 ∀kC,kC=sQ.setRow w3 #[true]->
 true=true/\∃F61:Nat->Prop,(aO [a0]/\aO [ak,ao,aw,bw,bR,bP]/\aO [a2]/\X15 none F61 rV true kC)/\Step (λi=>(F42 i\/i ∈([w.heap.size,w0.heap.size,w1.heap.size,w2.heap.size,w3.heap.size]:List Nat))\/fG.heap.size<=i) (λi=>F61 i\/i ∈([w.heap.size,w0.heap.size,w1.heap.size,w2.heap.size,w3.heap.size]:List Nat)) kv kC)
 (∃F62:Nat->Prop,(aO [a0]/\aO [ak,ao,aw,bw,bR,bP]/\aO [a2]/\I14 (n41+1) F62 kD HZ l8)/\Step (λi=>(F42 i\/i ∈([w.heap.size,w0.heap.size,w1.heap.size,w2.heap.size,w3.heap.size]:List Nat))\/fG.heap.size<=i) (λi=>F62 i\/i ∈([w.heap.size,w0.heap.size,w1.heap.size,w2.heap.size,w3.heap.size]:List Nat)) kv l8))))))/\
 (∀(F63:Nat->Prop) (apq:Nat->Value) (qp:Int) (b66:Bool) (jY:World),I14 adm.length F63 qp b66 jY->jY.heap[w9.heap.size]? =some (.deferred (some []))->
 ∀qo,qo=jY.setRow w2 #[.int .i64 (if 4194304<(if (-4194304)>a3 then (-4194304) else a3) then 4194304 else (if (-4194304)>a3 then (-4194304) else a3))]->
 ∀Gx,Gx=qo.setRow w3 #[false]->
 Gx.heap[w9.heap.size]? =some (.deferred (some []))/\∀kx:World,Rec w9 Gx kx->
 R (Value.tuple #[.int .i64 (if 4194304<(if (-4194304)>a3 then (-4194304) else a3) then 4194304 else (if (-4194304)>a3 then (-4194304) else a3)),false]) kx)/\
 (∀(F71:Nat->Prop) (apf:Nat->Value) (mH:Int) (b74:Bool) (pn:World),X15 none F71 mH b74 pn->pn.heap[w9.heap.size]? =some (.deferred (some []))->
 pn.heap[w9.heap.size]? =some (.deferred (some []))/\∀iq:World,Rec w9 pn iq->
 R (Value.tuple #[mH,b74]) iq))))))):ah 299 #[a0,.agg #[ak,ao,aw,bw,bR,bP],a2,a3] w R:=
 cq ⟨[],[],[(7,⟨[],[(3,[.int .i64]),(4,[.bool])],[]⟩,[.sc (.int .i64),.sc (.int .i64)])]⟩ Tryz.func299 h
theorem Xx.vc (h:
 ∀w0,w0=w.alloc (.cells #[aA,aq,au,aT,aU,aX] 107)->
 ∀w1,w1=w0.alloc (.cells #[ak,ao,aw] 28)->
 ∀w2,w2=w1.alloc (.cells #[ab,ab,ab,ab,ab,ab] 107)->
 ah 145 #[.agg #[aA,aq,au],.agg #[ak,ao,aw]] w2.drew (iM λx4 x5 x6 w3=>K3 w w0 w1 w2.drew w3 (
 ag w3 (some ⟨w0,0,none⟩) 0 [ak,ao,aw]/\ag w3 (some ⟨w,3,none⟩) 0 [aT,aU,aX]/\ah 145 #[.agg #[aT,aU,aX],.agg #[ak,ao,aw]] w3 (iM λx8 x9 bj w7=>K3 w w0 w1 w3 w7 (
 ∀aW,aW=w7.setRow w1 #[x4,x5,x6,x8,x9,bj]->
 R (Value.agg #[x4,x5,x6,x8,x9,bj]) aW))))):ah 300 #[.agg #[aA,aq,au,aT,aU,aX],.agg #[ak,ao,aw]] w R:=
 cq bT Tryz.func300 h
theorem KK.vc {a0:Value} (h:
 ∀w0,w0=w.alloc (.cells #[ak,ao,aw,bw,bR,bP] 107)->
 ∀w1,w1=w0.alloc (.cells #[ab,ab,ab,ab,ab,ab] 107)->
 ah 299 #[a0,.agg #[ak,ao,aw,bw,bR,bP],a2,a3] w1 (λe w2=>∃(x3:Int) (b4:Bool),e=Value.tuple #[x3,b4]/\K2 w w0 w1 w2 (
 ah 155 #[.agg #[ab,ab,ab],a2,x3] w2.drew (iM λx6 x7 x8 w5=>K2 w w0 w2.drew w5 (
 ag w5 w 0 [ak,ao,aw,bw,bR,bP]/\ah 300 #[.agg #[ak,ao,aw,bw,bR,bP],.agg #[x6,x7,x8]] w5 (vy λbj bz bU cc bW cm w9=>K2 w w0 w5 w9 (
 ∀cB,cB=w9.setRow w0 #[bj,bz,bU,cc,bW,cm]->
 R (Value.tuple #[.agg #[bj,bz,bU,cc,bW,cm],b4]) cB))))))):ah 275 #[a0,.agg #[ak,ao,aw,bw,bR,bP],a2,a3] w R:=
 cq bT Tryz.func275 h
theorem Oo.vc {a0:Value} (h:
 ∀w0,w0=w.alloc (.cells #[ak,ao,aw,bw,bR,bP] 107)->
 ∀w1,w1=w0.alloc (.cells #[br,bG,bq] 28)->
 ∀w2,w2=w1.alloc (.cells #[ab,ab,ab,ab,ab,ab] 107)->
 ∀w3,w3=w2.alloc (.cells #[false,false,false] 299)->
 ∀w4,w4=w3.alloc (.cells #[false,false,false] 299)->
 ∃I5:Nat->Int->Int->Int->Int->Int->Int->Int->World->Prop,
 (∃n6,aO [br,bG,bq]/\aO [ab,ab,ab,ab,ab,ab]/\I5 n6 (0) ak ao aw bw bR bP w4)/\
 ∀(n6:Nat) (us7:Nat->Value) (x8 x9 bj bz bU cc bW:Int) (dY:World),I5 n6 x8 x9 bj bz bU cc bW dY->
 Br (x8<3)
 (((0:Int)<=x8/\x8<((3:Nat):Int))/\∃(cT:Int),([(1:Int),ab,(2:Int)]:LV)[(x8:Int).toNat*1]? =some (.int .i64 cT)/\
 ah 178 #[.agg #[br,bG,bq],cT] dY.drew (Ri λcr dA=>K3 w w0 w1 dY.drew dA (
 ag dA w 0 [x9,bj,bz,bU,cc,bW]/\ah 275 #[a0,.agg #[x9,bj,bz,bU,cc,bW],cT,cr] dA (λe fh=>∃(dm dI dz eH dQ fk:Int) (Ax:Bool),e=Value.tuple #[.agg #[dm,dI,dz,eH,dQ,fk],Ax]/\K3 w w0 w1 dA fh (
 ∀gn,gn=fh.setRow w #[dm,dI,dz,eH,dQ,fk]->
 (0:Int)<=cT/\cT<((3:Nat):Int)/\(true=true/\Wr gn (ae (some ⟨w3,0,none⟩) ((cT:Int).toNat*1)) 1)/\bC (ae (some ⟨w3,0,none⟩) ((cT:Int).toNat*1))≠some w.heap.size/\bC (ae (some ⟨w3,0,none⟩) ((cT:Int).toNat*1))≠some w0.heap.size/\bC (ae (some ⟨w3,0,none⟩) ((cT:Int).toNat*1))≠some w1.heap.size/\(∀dH,dH=aG gn (ae (some ⟨w3,0,none⟩) ((cT:Int).toNat*1)) [.bool Ax]->
 ∃J7,J7<n6/\aO [br,bG,bq]/\aO [ab,ab,ab,ab,ab,ab]/\I5 J7 ((aj (x8+1))) dm dI dz eH dQ fk dH))))))
 (∃(VY WI N1:Bool),ag dY.drew (some ⟨w3,0,none⟩) 0 [.bool VY,WI,N1]/\
 ∀ej,ej=dY.drew.setRow w1 #[x9,bj,bz,bU,cc,bW]->
 ag ej (some ⟨w3,0,none⟩) 0 [.bool VY,WI,N1]/\Wt ej ⟨w2,0,none⟩ 3/\Nb w2 w/\Nb w2 w0/\Nb w2 w1/\(∀iL,iL=aG ej (some ⟨w2,0,none⟩) [.bool VY,WI,N1]->
 ∃(b35 ZO b37:Bool),ag iL (some ⟨w2,0,none⟩) 0 [.bool b35,ZO,b37]/\
 R (Value.tuple #[.agg #[x9,bj,bz,bU,cc,bW],.agg #[b35,ZO,b37]]) iL))):ah 240 #[a0,.agg #[ak,ao,aw,bw,bR,bP],.agg #[br,bG,bq]] w R:=
 cq ⟨[(3,⟨[(12,.int .i64)],[(0,[.int .i64,.int .i64,.int .i64,.int .i64,.int .i64,.int .i64])],[]⟩)],[],[]⟩ Tryz.func240 h
theorem O6.vc (h:
 ∀w0,w0=w.alloc (.cells #[aA,aq,au,aT,aU,aX] 107)->
 ∀w1,w1=w0.alloc (.cells #[ak,ao,aw,bw,bR,bP] 107)->
 R ((aj ((if (aj (0-(aj (ak-aA))))>(aj (ak-aA)) then (aj (0-(aj (ak-aA)))) else (aj (ak-aA)))+(if (aj (0-(aj (aw-au))))>(aj (aw-au)) then (aj (0-(aj (aw-au)))) else (aj (aw-au)))))) w1.drew):ah 276 #[.agg #[aA,aq,au,aT,aU,aX],.agg #[ak,ao,aw,bw,bR,bP]] w R:=
 cq bT Tryz.func276 h
theorem O7.vc {a0:Value} (h:
 ∀w0,w0=w.alloc (.cells #[ak,ao,aw,bw,bR,bP] 107)->
 ∀w1,w1=w0.alloc (.cells #[br,bG,bq] 28)->
 ∀w2,w2=w1.alloc (.cells #[ab,ab,ab,ab,ab,ab] 107)->
 ∀w3,w3=w2.alloc (.cells #[false,false,false] 299)->
 ah 240 #[a0,.agg #[ak,ao,aw,bw,bR,bP],.agg #[br,bG,bq]] w3 (λe w4=>∃(x5 x6 x7 x8 x9 bj:Int) (WL QL E6:Bool),e=Value.tuple #[.agg #[x5,x6,x7,x8,x9,bj],.agg #[WL,QL,E6]]/\K3 w w0 w1 w3 w4 (
 ∀bK,bK=w4.alloc (.cells #[ab,ab,ab,ab,ab,ab] 107)->
 ∀dY,dY=bK.alloc (.cells #[false,false,false] 299)->
 ∀cB,cB=dY.setRow w4 #[x5,x6,x7,x8,x9,bj]->
 Wt cB ⟨bK,0,none⟩ 3/\Nb bK w/\Nb bK w0/\Nb bK w1/\Nb bK w4/\(∀cE,cE=aG cB (some ⟨bK,0,none⟩) [.bool WL,QL,E6]->
 ∃J18:World->Prop,
 ((0:Int)<=0/\(0:Int)<((3:Nat):Int)/\∃(Nx:Bool),ld cE (ae (some ⟨bK,0,none⟩) ((0:Int).toNat*1))=some (.bool Nx)/\
 Br (!Nx)
 ((0:Int)<=2/\(2:Int)<((3:Nat):Int)/\∃(QO:Bool),ld cE (ae (some ⟨bK,0,none⟩) ((2:Int).toNat*1))=some (.bool QO)/\
 Br (!QO)
 (∃(J3 b22 H2:Bool),ag cE.drew (some ⟨bK,0,none⟩) 0 [.bool J3,b22,H2]/\
 ∀fH,fH=cE.drew.setRow w1 #[x5,x6,x7,x8,x9,bj]->
 ag fH (some ⟨bK,0,none⟩) 0 [.bool J3,b22,H2]/\Wt fH ⟨w2,0,none⟩ 3/\Nb w2 w/\Nb w2 w0/\Nb w2 w1/\Nb w2 w4/\(∀cP,cP=aG fH (some ⟨w2,0,none⟩) [.bool J3,b22,H2]->
 ∃(Fa Ax N2:Bool),ag cP (some ⟨w2,0,none⟩) 0 [.bool Fa,Ax,N2]/\
 R (Value.tuple #[.agg #[x5,x6,x7,x8,x9,bj],.agg #[Fa,Ax,N2]]) cP))
 (Br (a3<=0)
 (∃(b29 VY WI:Bool),ag cE.drew (some ⟨bK,0,none⟩) 0 [.bool b29,VY,WI]/\
 ∀j6,j6=cE.drew.setRow w1 #[x5,x6,x7,x8,x9,bj]->
 ag j6 (some ⟨bK,0,none⟩) 0 [.bool b29,VY,WI]/\Wt j6 ⟨w2,0,none⟩ 3/\Nb w2 w/\Nb w2 w0/\Nb w2 w1/\Nb w2 w4/\(∀ej,ej=aG j6 (some ⟨w2,0,none⟩) [.bool b29,VY,WI]->
 ∃(JC b35 ZO:Bool),ag ej (some ⟨w2,0,none⟩) 0 [.bool JC,b35,ZO]/\
 R (Value.tuple #[.agg #[x5,x6,x7,x8,x9,bj],.agg #[JC,b35,ZO]]) ej))
 (ah 49 #[a0,.agg #[ak,ao,aw,bw,bR,bP]] cE (Rb λb38 gJ=>K4 w w0 w1 w4 cE gJ (
 Br (!b38)
 (∃(b39 b40 b41:Bool),ag gJ.drew (some ⟨bK,0,none⟩) 0 [.bool b39,b40,b41]/\
 ∀jI,jI=gJ.drew.setRow w1 #[x5,x6,x7,x8,x9,bj]->
 ag jI (some ⟨bK,0,none⟩) 0 [.bool b39,b40,b41]/\Wt jI ⟨w2,0,none⟩ 3/\Nb w2 w/\Nb w2 w0/\Nb w2 w1/\Nb w2 w4/\(∀il,il=aG jI (some ⟨w2,0,none⟩) [.bool b39,b40,b41]->
 ∃(b44 HZ b46:Bool),ag il (some ⟨w2,0,none⟩) 0 [.bool b44,HZ,b46]/\
 R (Value.tuple #[.agg #[x5,x6,x7,x8,x9,bj],.agg #[b44,HZ,b46]]) il))
 (aO [ak,ao,aw,bw,bR,bP]/\aO [br,bG,bq]/\aO [ab,ab,ab,ab,ab,ab]/\aO [x5,x6,x7,x8,x9,bj]/\J18 gJ))))))
 (Br (a3<=0)
 (∃(b47 b48 b49:Bool),ag cE.drew (some ⟨bK,0,none⟩) 0 [.bool b47,b48,b49]/\
 ∀kM,kM=cE.drew.setRow w1 #[x5,x6,x7,x8,x9,bj]->
 ag kM (some ⟨bK,0,none⟩) 0 [.bool b47,b48,b49]/\Wt kM ⟨w2,0,none⟩ 3/\Nb w2 w/\Nb w2 w0/\Nb w2 w1/\Nb w2 w4/\(∀wR,wR=aG kM (some ⟨w2,0,none⟩) [.bool b47,b48,b49]->
 ∃(b52 b53 b54:Bool),ag wR (some ⟨w2,0,none⟩) 0 [.bool b52,b53,b54]/\
 R (Value.tuple #[.agg #[x5,x6,x7,x8,x9,bj],.agg #[b52,b53,b54]]) wR))
 (ah 49 #[a0,.agg #[ak,ao,aw,bw,bR,bP]] cE (Rb λb56 yH=>K4 w w0 w1 w4 cE yH (
 Br (!b56)
 (∃(VZ N0 b59:Bool),ag yH.drew (some ⟨bK,0,none⟩) 0 [.bool VZ,N0,b59]/\
 ∀kC,kC=yH.drew.setRow w1 #[x5,x6,x7,x8,x9,bj]->
 ag kC (some ⟨bK,0,none⟩) 0 [.bool VZ,N0,b59]/\Wt kC ⟨w2,0,none⟩ 3/\Nb w2 w/\Nb w2 w0/\Nb w2 w1/\Nb w2 w4/\(∀mY,mY=aG kC (some ⟨w2,0,none⟩) [.bool VZ,N0,b59]->
 ∃(b62 b63 b64:Bool),ag mY (some ⟨w2,0,none⟩) 0 [.bool b62,b63,b64]/\
 R (Value.tuple #[.agg #[x5,x6,x7,x8,x9,bj],.agg #[b62,b63,b64]]) mY))
 (aO [ak,ao,aw,bw,bR,bP]/\aO [br,bG,bq]/\aO [ab,ab,ab,ab,ab,ab]/\aO [x5,x6,x7,x8,x9,bj]/\J18 yH))))))/\
 ∀apt:Nat->Value,∀(my:World),J18 my->
 ah 275 #[a0,.agg #[ak,ao,aw,bw,bR,bP],(1:Int),.int .i64 (if 65536<a3 then 65536 else a3)] my (λe jY=>∃(nt pz oC m8 nc mH:Int) (b74:Bool),e=Value.tuple #[.agg #[nt,pz,oC,m8,nc,mH],b74]/\K4 w w0 w1 w4 my jY (
 ∀pn,pn=jY.alloc (.cells #[ab,ab,ab,ab,ab,ab] 107)->
 ∀iq,iq=pn.setRow jY #[nt,pz,oC,m8,nc,mH]->
 ∀sK,sK=iq.alloc (.cells #[false,false,false] 299)->
 Wt sK ⟨iq,0,none⟩ 3/\Nb iq w/\Nb iq w0/\Nb iq w1/\Nb iq w4/\Nb iq jY/\(∀lX,lX=aG sK (some ⟨iq,0,none⟩) [.bool false,true,false]->
 ∀N3,N3=lX.alloc (.cells #[ab,ab,ab,ab,ab,ab] 107)->
 ∀r6,r6=N3.setRow lX #[nt,pz,oC,m8,nc,mH]->
 ah 275 #[a0,.agg #[nt,pz,oC,m8,nc,mH],(0:Int),br] r6 (λe qq=>∃(sH uT yI Ay J8 qi:Int) (b88:Bool),e=Value.tuple #[.agg #[sH,uT,yI,Ay,J8,qi],b88]/\K6 w w0 w1 w4 jY lX r6 qq (
 ∀kN,kN=qq.setRow lX #[sH,uT,yI,Ay,J8,qi]->
 (0:Int)<=0/\(0:Int)<((3:Nat):Int)/\(true=true/\Wr kN (ae (some ⟨iq,0,none⟩) ((0:Int).toNat*1)) 1)/\bC (ae (some ⟨iq,0,none⟩) ((0:Int).toNat*1))≠some w.heap.size/\bC (ae (some ⟨iq,0,none⟩) ((0:Int).toNat*1))≠some w0.heap.size/\bC (ae (some ⟨iq,0,none⟩) ((0:Int).toNat*1))≠some w1.heap.size/\bC (ae (some ⟨iq,0,none⟩) ((0:Int).toNat*1))≠some w4.heap.size/\bC (ae (some ⟨iq,0,none⟩) ((0:Int).toNat*1))≠some jY.heap.size/\bC (ae (some ⟨iq,0,none⟩) ((0:Int).toNat*1))≠some lX.heap.size/\(∀nu,nu=aG kN (ae (some ⟨iq,0,none⟩) ((0:Int).toNat*1)) [.bool b88]->
 ah 275 #[a0,.agg #[sH,uT,yI,Ay,J8,qi],(2:Int),bq] nu (λe w91=>∃(B9 sJ V2 CE CF CG:Int) (b98:Bool),e=Value.tuple #[.agg #[B9,sJ,V2,CE,CF,CG],b98]/\K6 w w0 w1 w4 jY lX nu w91 (
 ∀J9,J9=w91.setRow lX #[B9,sJ,V2,CE,CF,CG]->
 (0:Int)<=2/\(2:Int)<((3:Nat):Int)/\(true=true/\Wr J9 (ae (some ⟨iq,0,none⟩) ((2:Int).toNat*1)) 1)/\bC (ae (some ⟨iq,0,none⟩) ((2:Int).toNat*1))≠some w.heap.size/\bC (ae (some ⟨iq,0,none⟩) ((2:Int).toNat*1))≠some w0.heap.size/\bC (ae (some ⟨iq,0,none⟩) ((2:Int).toNat*1))≠some w1.heap.size/\bC (ae (some ⟨iq,0,none⟩) ((2:Int).toNat*1))≠some w4.heap.size/\bC (ae (some ⟨iq,0,none⟩) ((2:Int).toNat*1))≠some jY.heap.size/\bC (ae (some ⟨iq,0,none⟩) ((2:Int).toNat*1))≠some lX.heap.size/\(∀po,po=aG J9 (ae (some ⟨iq,0,none⟩) ((2:Int).toNat*1)) [.bool b98]->
 ah 275 #[a0,.agg #[B9,sJ,V2,CE,CF,CG],(1:Int),(aj (0-(aj (pz-ao))))] po (λe Fc=>∃(tY yK tZ sL qk ql:Int) (apu:Bool),e=Value.tuple #[.agg #[tY,yK,tZ,sL,qk,ql],apu]/\K6 w w0 w1 w4 jY lX po Fc (
 ∀AB,AB=Fc.setRow lX #[tY,yK,tZ,sL,qk,ql]->
 ah 276 #[.agg #[ak,ao,aw,bw,bR,bP],.agg #[tY,yK,tZ,sL,qk,ql]] AB.drew (Ri λqm Fe=>K6 w w0 w1 w4 jY lX AB.drew Fe (
 ag Fe (some ⟨w4,0,none⟩) 0 [x5,x6,x7,x8,x9,bj]/\ag Fe w 0 [ak,ao,aw,bw,bR,bP]/\ah 276 #[.agg #[ak,ao,aw,bw,bR,bP],.agg #[x5,x6,x7,x8,x9,bj]] Fe (Ri λyL wK=>K6 w w0 w1 w4 jY lX Fe wK (
 Br (qm<=yL)
 (∃(agL JE Ca:Bool),ag wK.drew (some ⟨bK,0,none⟩) 0 [.bool agL,JE,Ca]/\
 ∀JF,JF=wK.drew.setRow w1 #[x5,x6,x7,x8,x9,bj]->
 ag JF (some ⟨bK,0,none⟩) 0 [.bool agL,JE,Ca]/\Wt JF ⟨w2,0,none⟩ 3/\Nb w2 w/\Nb w2 w0/\Nb w2 w1/\Nb w2 w4/\Nb w2 jY/\Nb w2 lX/\(∀yM,yM=aG JF (some ⟨w2,0,none⟩) [.bool agL,JE,Ca]->
 ∃(aj1 aj2 aj3:Bool),ag yM (some ⟨w2,0,none⟩) 0 [.bool aj1,aj2,aj3]/\
 R (Value.tuple #[.agg #[x5,x6,x7,x8,x9,bj],.agg #[aj1,aj2,aj3]]) yM))
 (∃(agM agN agO:Bool),ag wK.drew (some ⟨iq,0,none⟩) 0 [.bool agM,agN,agO]/\
 ∀Cb,Cb=wK.drew.setRow w1 #[tY,yK,tZ,sL,qk,ql]->
 ag Cb (some ⟨iq,0,none⟩) 0 [.bool agM,agN,agO]/\Wt Cb ⟨w2,0,none⟩ 3/\Nb w2 w/\Nb w2 w0/\Nb w2 w1/\Nb w2 w4/\Nb w2 jY/\Nb w2 lX/\(∀agP,agP=aG Cb (some ⟨w2,0,none⟩) [.bool agM,agN,agO]->
 ∃(aj4 ZP aj5:Bool),ag agP (some ⟨w2,0,none⟩) 0 [.bool aj4,ZP,aj5]/\
 R (Value.tuple #[.agg #[tY,yK,tZ,sL,qk,ql],.agg #[aj4,ZP,aj5]]) agP))))))))))))))))))))):ah 236 #[a0,.agg #[ak,ao,aw,bw,bR,bP],.agg #[br,bG,bq],a3] w R:=
 cq ⟨[],[(4,⟨[],[],[]⟩)],[]⟩ Tryz.func236 h
theorem BA.vc {aA:Bool} {aq:Bool} {au:Bool} (h:
 ∀w0,w0=w.alloc (.cells #[aA,aq,au] 299)->
 ∀w1,w1=w0.alloc (.cells #[ak,ao,aw] 28)->
 ∀w2,w2=w1.alloc (.cells #[ab,ab,ab] 28)->
 ∃(b3 b4 b5:Bool),ag w2 w 0 [.bool b3,b4,b5]/\
 ∃I6:Nat->Int->Int->Int->Int->World->Prop,
 (∃n7,aO [ab,ab,ab]/\I6 n7 (0) ak ao aw w2)/\
 ∀(n7:Nat) (us8:Nat->Value) (x9 bj bz bU:Int) (bF:World),I6 n7 x9 bj bz bU bF->
 Br (x9<3)
 (((0:Int)<=x9/\x9<((3:Nat):Int))/\∃(Ss:Bool),([.bool b3,b4,b5]:LV)[(x9:Int).toNat*1]? =some (.bool Ss)/\
 Br Ss
 (ah 155 #[.agg #[bj,bz,bU],x9,(0:Int)] bF (iM λcT cg cr cB=>K2 w0 w1 bF cB (
 ∀fh,fh=cB.setRow w0 #[cT,cg,cr]->
 ∃FD,FD<n7/\aO [ab,ab,ab]/\I6 FD ((aj (x9+1))) cT cg cr fh)))
 (∃FD,FD<n7/\aO [ab,ab,ab]/\I6 FD ((aj (x9+1))) bj bz bU bF))
 (∀ed,ed=bF.setRow w1 #[bj,bz,bU]->
 R (Value.agg #[bj,bz,bU]) ed)):ah 238 #[.agg #[aA,aq,au],.agg #[ak,ao,aw]] w R:=
 cq ⟨[(2,⟨[(8,.int .i64)],[(0,[.int .i64,.int .i64,.int .i64])],[]⟩)],[],[]⟩ Tryz.func238 h
theorem FT.vc {bJ:Bool} (h:
 ∀w0,w0=w.alloc (.cells #[aA,aq,au,aT,aU,aX,bN,bI,bJ] 70)->
 ∀w1,w1=w0.alloc (.cells #[ak,ao,aw] 28)->
 ∀w2,w2=w1.alloc (.cells #[ab,ab,ab] 28)->
 ah 145 #[.agg #[aA,aq,au],.agg #[ak,ao,aw]] w2 (iM λx4 x5 x6 w3=>K3 w w0 w1 w2 w3 (
 ∀w7,w7=w3.alloc (.cells #[ab,ab,ab] 28)->
 ∀w8,w8=w7.setRow w3 #[x4,x5,x6]->
 ah 277 #[x4] w8.drew (Ri λbj w9=>K4 w w0 w1 w3 w8.drew w9 (
 ag w9 w 0 [aA,aq,au]/\ag w9 (some ⟨w3,2,none⟩) 0 [x6]/\ag w9 (some ⟨w3,1,none⟩) 0 [x5]/\ah 277 #[x5] w9 (Ri λbU aW=>K4 w w0 w1 w3 w9 aW (
 ag aW w 0 [aA,aq,au]/\ag aW (some ⟨w3,2,none⟩) 0 [x6]/\ah 277 #[x6] aW (Ri λbW bF=>K4 w w0 w1 w3 aW bF (
 ag bF w 0 [aA,aq,au]/\ah 154 #[.agg #[bj,bU,bW],.agg #[aA,aq,au]] bF (iM λcp cT cg dY=>K4 w w0 w1 w3 bF dY (
 ∀fy,fy=dY.setRow w1 #[cp,cT,cg]->
 R (Value.agg #[cp,cT,cg]) fy))))))))))):ah 237 #[.agg #[aA,aq,au,aT,aU,aX,bN,bI,bJ],.agg #[ak,ao,aw]] w R:=
 cq bT Tryz.func237 h
theorem BB.vc (h:
 R (Value.int .i64 (if 70368744177664<(if (-70368744177664)>a0 then (-70368744177664) else a0) then 70368744177664 else (if (-70368744177664)>a0 then (-70368744177664) else a0))) w):ah 277 #[a0] w R:=
 cq bT Tryz.func277 h
theorem O8.vc (h:
 ah 214 #[a0] w (λe w0=>∃(x1:Int),e=x1/\
 Br (x1<0)
 (R (Value.tuple #[.int .u64 (c5 (aj (0-x1))),true]) w0)
 (R (Value.tuple #[.int .u64 (c5 x1),false]) w0))):ah 260 #[a0] w R:=
 cq bT Tryz.func260 h
theorem KL.vc {a1:Bool} {a2:Bool} (h:
 ∀w0,w0=w.alloc (.cells #[a1] 4)->
 ∀w1,w1=w0.alloc (.cells #[a2] 4)->
 Br (a0>=140737488355328)
 (Wr w1 w 1/\(∀w2,w2=aG w1 w [.bool false]->
 ∃(b3:Bool),ld w2 (some ⟨w0,0,none⟩)=some (.bool b3)/\
 Br b3
 (ah 285 #[.int .u64 140737488355328,.pointer (some ⟨w0,0,none⟩),w] w2 (λe w4=>∃(x5:Int),e=Value.int .u64 x5/\
 R ((aj (0-(aj x5)))) w4))
 (R ((aj 140737488355328)) w2)))
 (∃(b6:Bool),ld w1 (some ⟨w0,0,none⟩)=some (.bool b6)/\
 Br b6
 (ah 285 #[.int .u64 a0,.pointer (some ⟨w0,0,none⟩),w] w1 (λe w7=>∃(x8:Int),e=Value.int .u64 x8/\
 R ((aj (0-(aj x8)))) w7))
 (R ((aj a0)) w1))):ah 261 #[.int .u64 a0,a1,a2] w R:=
 cq bT Tryz.func261 h
theorem FU.vc {c0:Addr} {c1:Addr} (h:
 ∃(b0:Bool),ld w (some c0)=some (.bool b0)/\
 Br b0
 (∃(b1:Bool),ld w (some c1)=some (.bool b1)/\
 Br b1
 (R (Value.int .u64 (c5 (a0+1))) w)
 (R (Value.int .u64 a0) w))
 (R (Value.int .u64 a0) w)):ah 285 #[.int .u64 a0,c0,c1] w R:=
 cq bT Tryz.func285 h
theorem BC.vc (h:
 R (Value.tuple #[.int .u64 (c5 ((c5 ((c5 (((a0:Int).fdiv (2 ^(min (32:Int).toNat 64)))*((a1:Int).fdiv (2 ^(min (32:Int).toNat 64)))))+(((c5 ((c5 (((a0:Int).fdiv (2 ^(min (32:Int).toNat 64)))*(nB .u64 a1 4294967295)))+(((c5 ((nB .u64 a0 4294967295)*(nB .u64 a1 4294967295))):Int).fdiv (2 ^(min (32:Int).toNat 64))))):Int).fdiv (2 ^(min (32:Int).toNat 64)))))+(((c5 ((nB .u64 (c5 ((c5 (((a0:Int).fdiv (2 ^(min (32:Int).toNat 64)))*(nB .u64 a1 4294967295)))+(((c5 ((nB .u64 a0 4294967295)*(nB .u64 a1 4294967295))):Int).fdiv (2 ^(min (32:Int).toNat 64))))) 4294967295)+(c5 ((nB .u64 a0 4294967295)*((a1:Int).fdiv (2 ^(min (32:Int).toNat 64))))))):Int).fdiv (2 ^(min (32:Int).toNat 64))))),.int .u64 (c5 (a0*a1))]) w):ah 273 #[.int .u64 a0,.int .u64 a1] w R:=
 cq bT Tryz.func273 h
theorem Tw.vc (h:
 ah 260 #[a0] w (λe w0=>∃(x1:Int) (b2:Bool),e=Value.tuple #[.int .u64 x1,b2]/\
 ah 260 #[a1] w0 (λe w3=>∃(x4:Int) (b5:Bool),e=Value.tuple #[.int .u64 x4,b5]/\
 ah 273 #[.int .u64 x1,.int .u64 x4] w3 (λe w6=>∃(x7 x8:Int),e=Value.tuple #[.int .u64 x7,.int .u64 x8]/\
 Br (x7>0)
 (ah 261 #[.int .u64 140737488355328,.bool (((Int.tmod x8 65536):Int) !=0),.bool (!(b2==b5))] w6 (λe w9=>∃(bj:Int),e=bj/\
 R bj w9))
 (ah 261 #[.int .u64 ((x8:Int).fdiv (2 ^(min (16:Int).toNat 64))),.bool (((Int.tmod x8 65536):Int) !=0),.bool (!(b2==b5))] w6 (λe aW=>∃(bU:Int),e=bU/\
 R bU aW)))))):ah 232 #[a0,a1] w R:=
 cq bT Tryz.func232 h
theorem xt.vc (h:
 ah 232 #[.int .i64 (if 65536<(if (-65536)>a0 then (-65536) else a0) then 65536 else (if (-65536)>a0 then (-65536) else a0)),(16384:Int)] w (λe w0=>∃(x1:Int),e=x1/\
 R x1 w0)):ah 231 #[a0] w R:=
 cq bT Tryz.func231 h
theorem BD.vc {bJ:Bool} {a1:Value} {bq:Bool} (h:
 ∀w0,w0=w.alloc (.cells #[aA,aq,au,aT,aU,aX,bN,bI,bJ] 70)->
 ∀w1,w1=w0.alloc (.cells #[br,bG,bq] 109)->
 ∀w2,w2=w1.alloc (.cells #[ab,ab,ab,ab,ab,ab,ab,ab,false] 70)->
 ah 231 #[br] w2.drew (Ri λx4 w3=>K3 w w0 w1 w2.drew w3 (
 ag w3 (some ⟨w0,1,none⟩) 0 [bG]/\ah 231 #[bG] w3 (Ri λx6 w5=>K3 w w0 w1 w3 w5 (
 ∀w7,w7=w5.setRow w #[aA,aq,au,x4,aU,aX,bN,bI,bJ]->
 ∀w8,w8=w7.setRow w #[aA,aq,au,x4,aU,x6,bN,bI,bJ]->
 ∀w9,w9=w8.setRow w1 #[aA,aq,au,x4,aU,x6,bN,bI,bJ]->
 R (Value.agg #[aA,aq,au,x4,aU,x6,bN,bI,bJ]) w9))))):ah 166 #[.agg #[aA,aq,au,aT,aU,aX,bN,bI,bJ],a1,.agg #[br,bG,bq]] w R:=
 cq bT Tryz.func166 h
theorem xy.vc {c0:Addr} {c1:Addr} (h:
 ∃(p0:Option Addr),ld w.drew (some c0)=some (.pointer p0)/\
 ∃(p1:Option Addr),ld w.drew (some c0)=some (.pointer p1)/\
 aP (dB p1) (∃(x2:Int),ld w.drew p1=some (.int .i64 x2)/\
 aP (dB p0) (((p0).isSome=true/\Wr w.drew p0 1)/\(∀w3,w3=aG w.drew p0 [.int .i64 (if (aj (0-a2))>(aj (x2-a1)) then (aj (0-a2)) else (aj (x2-a1)))]->
 ∃(b4:Bool),ld w3 (ae (some c1) 2)=some (.bool b4)/\
 Br b4
 (∃(p5:Option Addr),ld w3 (some c0)=some (.pointer p5)/\
 aP (dB p5) (((p5).isSome=true/\Wr w3 p5 1)/\(∀w6,w6=aG w3 p5 [a0]->
 R sY w6)))
 (R sY w3))))):ah 233 #[a0,a1,a2,c0,c1] w R:=
 cq bT Tryz.func233 h
theorem BE.vc {bJ:Bool} {a1:Value} {bq:Bool} (h:
 ∀w0,w0=w.alloc (.cells #[aA,aq,au,aT,aU,aX,bN,bI,bJ] 70)->
 ∀w1,w1=w0.alloc (.cells #[br,bG,bq] 109)->
 ∀w2,w2=w1.alloc (.cells #[ab,ab,ab,ab,ab,ab,ab,ab,false] 70)->
 ah 48 #[.agg #[aA,aq,au,aT,aU,aX,bN,bI,bJ]] w2 (vy λx4 x5 x6 x7 x8 x9 w3=>K3 w w0 w1 w2 w3 (
 ∀bD,bD=w3.alloc (.cells #[ab,ab,ab,ab,ab,ab] 107)->
 ∀aW,aW=bD.alloc (.cells #[.pointer none] 296)->
 ∀cM,cM=aW.setRow w3 #[x4,x5,x6,x7,x8,x9]->
 ∀bF,bF=cM.setRow bD #[.pointer (some ⟨w,4,none⟩)]->
 ah 234 #[a1,.agg #[x4,x5,x6,x7,x8,x9]] bF (Rb λSs bK=>K2 w1 w3 bF bK (
 Br Ss
 (ah 233 #[(8192:Int),(4096:Int),(8192:Int),.pointer (some ⟨bD,0,none⟩),.pointer (some ⟨w0,0,none⟩)] bK (Rt λcB=>K2 w1 w3 bK cB (
 ∃(cT cg cr cZ dm dI dz eH:Int) (Ka:Bool),ag cB w 0 [cT,cg,cr,cZ,dm,dI,dz,eH,Ka]/\
 ∀eG,eG=cB.setRow w1 #[cT,cg,cr,cZ,dm,dI,dz,eH,Ka]->
 R (Value.agg #[cT,cg,cr,cZ,dm,dI,dz,eH,Ka]) eG)))
 (ah 235 #[a1,.agg #[x4,x5,x6,x7,x8,x9]] bK (Rb λN2 eo=>K2 w1 w3 bK eo (
 Br N2
 (ah 233 #[(6144:Int),(1024:Int),(8192:Int),.pointer (some ⟨bD,0,none⟩),.pointer (some ⟨w0,0,none⟩)] eo (Rt λdH=>K2 w1 w3 eo dH (
 ∃(iK gI gQ ey g8 jX m4 gu:Int) (b38:Bool),ag dH w 0 [iK,gI,gQ,ey,g8,jX,m4,gu,b38]/\
 ∀jD,jD=dH.setRow w1 #[iK,gI,gQ,ey,g8,jX,m4,gu,b38]->
 R (Value.agg #[iK,gI,gQ,ey,g8,jX,m4,gu,b38]) jD)))
 (∃(b40:Bool),ld eo (some ⟨w0,2,none⟩)=some (.bool b40)/\
 Br b40
 (ah 49 #[a1,.agg #[x4,x5,x6,x7,x8,x9]] eo (Rb λb42 jm=>K2 w1 w3 eo jm (
 Wr jm (some ⟨w0,2,none⟩) 1/\Nq (some ⟨w0,2,none⟩) w1/\Nq (some ⟨w0,2,none⟩) w3/\(∀il,il=aG jm (some ⟨w0,2,none⟩) [.bool b42]->
 ah 233 #[(28672:Int),(4096:Int),(262144:Int),.pointer (some ⟨bD,0,none⟩),.pointer (some ⟨w0,0,none⟩)] il (Rt λjV=>K2 w1 w3 il jV (
 ∃(pk gM rV uS Cc sa lr kE:Int) (b53:Bool),ag jV w 0 [pk,gM,rV,uS,Cc,sa,lr,kE,b53]/\
 ∀Bs,Bs=jV.setRow w1 #[pk,gM,rV,uS,Cc,sa,lr,kE,b53]->
 R (Value.agg #[pk,gM,rV,uS,Cc,sa,lr,kE,b53]) Bs))))))
 (Wr eo (some ⟨w0,2,none⟩) 1/\Nq (some ⟨w0,2,none⟩) w1/\Nq (some ⟨w0,2,none⟩) w3/\(∀yH,yH=aG eo (some ⟨w0,2,none⟩) [.bool false]->
 ah 233 #[(28672:Int),(4096:Int),(262144:Int),.pointer (some ⟨bD,0,none⟩),.pointer (some ⟨w0,0,none⟩)] yH (Rt λov=>K2 w1 w3 yH ov (
 ∃(l6 tV lf jc oq mZ sb sR:Int) (b65:Bool),ag ov w 0 [l6,tV,lf,jc,oq,mZ,sb,sR,b65]/\
 ∀my,my=ov.setRow w1 #[l6,tV,lf,jc,oq,mZ,sb,sR,b65]->
 R (Value.agg #[l6,tV,lf,jc,oq,mZ,sb,sR,b65]) my))))))))))))):ah 167 #[.agg #[aA,aq,au,aT,aU,aX,bN,bI,bJ],a1,.agg #[br,bG,bq]] w R:=
 cq bT Tryz.func167 h
theorem Dq.vc {bJ:Bool} {a1:Value} {bq:Bool} (h:
 ∀w0,w0=w.alloc (.cells #[aA,aq,au,aT,aU,aX,bN,bI,bJ] 70)->
 ∀w1,w1=w0.alloc (.cells #[br,bG,bq] 109)->
 ∀w2,w2=w1.alloc (.cells #[ab,ab,ab,ab,ab,ab,ab,ab,false] 70)->
 ah 48 #[.agg #[aA,aq,au,aT,aU,aX,bN,bI,bJ]] w2 (vy λx4 x5 x6 x7 x8 x9 w3=>K3 w w0 w1 w2 w3 (
 ∀bD,bD=w3.alloc (.cells #[ab,ab,ab,ab,ab,ab] 107)->
 ∀aW,aW=bD.setRow w3 #[x4,x5,x6,x7,x8,x9]->
 ∃AD:Option Addr->Option Addr->World->Prop,
 ((ah 237 #[.agg #[aA,aq,au,aT,aU,aX,bN,bI,bJ],.agg #[aT,aU,aX]] aW.drew (iM λbW cm cp bF=>K4 w w0 w1 w3 aW.drew bF (
 ag bF (some ⟨w3,0,none⟩) 0 [x4,x5,x6,x7,x8,x9]/\(ah 236 #[a1,.agg #[x4,x5,x6,x7,x8,x9],.agg #[bW,cm,cp],(32768:Int)] bF (λe cE=>∃(cg cr cZ dm dI dz:Int) (Sw Ka Fa:Bool),e=Value.tuple #[.agg #[cg,cr,cZ,dm,dI,dz],.agg #[Sw,Ka,Fa]]/\K4 w w0 w1 w3 bF cE (
 (∀eo,eo=cE.alloc (.cells #[ab,ab,ab,ab,ab,ab] 107)->
 ∀gn,gn=eo.alloc (.cells #[false,false,false] 299)->
 ∀dH,dH=gn.setRow cE #[cg,cr,cZ,dm,dI,dz]->
 Wt dH ⟨eo,0,none⟩ 3/\Nb eo w/\Nb eo w0/\Nb eo w1/\Nb eo w3/\Nb eo cE/\(∀eY,eY=aG dH (some ⟨eo,0,none⟩) [.bool Sw,Ka,Fa]->
 aO [aA,aq,au,aT,aU,aX,bN,bI,bJ]/\aO [br,bG,bq]/\aO [ab,ab,ab,ab,ab,ab,ab,ab,false]/\aO [x4,x5,x6,x7,x8,x9]/\AD (some ⟨cE,0,none⟩) (some ⟨eo,0,none⟩) eY))/\(∀fj,fj=cE.alloc (.cells #[false,false,false] 299)->
 ∀j6,j6=fj.alloc (.cells #[ab,ab,ab,ab,ab,ab] 107)->
 ∀ej,ej=j6.setRow fj #[cg,cr,cZ,dm,dI,dz]->
 Wt ej ⟨cE,0,none⟩ 3/\Nb cE w/\Nb cE w0/\Nb cE w1/\Nb cE w3/\Nb cE fj/\(∀iL,iL=aG ej (some ⟨cE,0,none⟩) [.bool Sw,Ka,Fa]->
 aO [aA,aq,au,aT,aU,aX,bN,bI,bJ]/\aO [br,bG,bq]/\aO [ab,ab,ab,ab,ab,ab,ab,ab,false]/\aO [x4,x5,x6,x7,x8,x9]/\AD (some ⟨fj,0,none⟩) (some ⟨cE,0,none⟩) iL)))))/\(∀ie,ie=bF.alloc (.cells #[ab,ab,ab,ab,ab,ab] 107)->
 (ah 236 #[a1,.agg #[x4,x5,x6,x7,x8,x9],.agg #[bW,cm,cp],(32768:Int)] ie (λe jl=>∃(gu fX mG lW kq lZ:Int) (MU b44 HZ:Bool),e=Value.tuple #[.agg #[gu,fX,mG,lW,kq,lZ],.agg #[MU,b44,HZ]]/\K5 w w0 w1 w3 bF ie jl (
 ∀m7,m7=jl.alloc (.cells #[false,false,false] 299)->
 ∀jQ,jQ=m7.setRow bF #[gu,fX,mG,lW,kq,lZ]->
 Wt jQ ⟨jl,0,none⟩ 3/\Nb jl w/\Nb jl w0/\Nb jl w1/\Nb jl w3/\Nb jl bF/\(∀fG,fG=aG jQ (some ⟨jl,0,none⟩) [.bool MU,b44,HZ]->
 aO [aA,aq,au,aT,aU,aX,bN,bI,bJ]/\aO [br,bG,bq]/\aO [ab,ab,ab,ab,ab,ab,ab,ab,false]/\aO [x4,x5,x6,x7,x8,x9]/\AD (some ⟨bF,0,none⟩) (some ⟨jl,0,none⟩) fG))))/\(∀kv,kv=ie.alloc (.cells #[false,false,false] 299)->
 ah 236 #[a1,.agg #[x4,x5,x6,x7,x8,x9],.agg #[bW,cm,cp],(32768:Int)] kv (λe kM=>∃(lr kE im ou ky rZ:Int) (VZ N0 b59:Bool),e=Value.tuple #[.agg #[lr,kE,im,ou,ky,rZ],.agg #[VZ,N0,b59]]/\K5 w w0 w1 w3 bF kv kM (
 ∀kC,kC=kM.setRow bF #[lr,kE,im,ou,ky,rZ]->
 Wt kC ⟨ie,0,none⟩ 3/\Nb ie w/\Nb ie w0/\Nb ie w1/\Nb ie w3/\Nb ie bF/\(∀mY,mY=aG kC (some ⟨ie,0,none⟩) [.bool VZ,N0,b59]->
 aO [aA,aq,au,aT,aU,aX,bN,bI,bJ]/\aO [br,bG,bq]/\aO [ab,ab,ab,ab,ab,ab,ab,ab,false]/\aO [x4,x5,x6,x7,x8,x9]/\AD (some ⟨bF,0,none⟩) (some ⟨ie,0,none⟩) mY)))))/\(∀gL,gL=bF.alloc (.cells #[false,false,false] 299)->
 (ah 236 #[a1,.agg #[x4,x5,x6,x7,x8,x9],.agg #[bW,cm,cp],(32768:Int)] gL (λe uz=>∃(sR qp lh od nt pz:Int) (b70 b71 b72:Bool),e=Value.tuple #[.agg #[sR,qp,lh,od,nt,pz],.agg #[b70,b71,b72]]/\K4 w w0 w1 w3 gL uz (
 ∀FG,FG=uz.alloc (.cells #[ab,ab,ab,ab,ab,ab] 107)->
 ∀jK,jK=FG.setRow uz #[sR,qp,lh,od,nt,pz]->
 Wt jK ⟨bF,0,none⟩ 3/\Nb bF w/\Nb bF w0/\Nb bF w1/\Nb bF w3/\Nb bF uz/\(∀pn,pn=aG jK (some ⟨bF,0,none⟩) [.bool b70,b71,b72]->
 aO [aA,aq,au,aT,aU,aX,bN,bI,bJ]/\aO [br,bG,bq]/\aO [ab,ab,ab,ab,ab,ab,ab,ab,false]/\aO [x4,x5,x6,x7,x8,x9]/\AD (some ⟨uz,0,none⟩) (some ⟨bF,0,none⟩) pn))))/\(∀iq,iq=gL.alloc (.cells #[ab,ab,ab,ab,ab,ab] 107)->
 ah 236 #[a1,.agg #[x4,x5,x6,x7,x8,x9],.agg #[bW,cm,cp],(32768:Int)] iq (λe sK=>∃(wS wF wG uA sH uT:Int) (b84 b85 b86:Bool),e=Value.tuple #[.agg #[wS,wF,wG,uA,sH,uT],.agg #[b84,b85,b86]]/\K5 w w0 w1 w3 gL iq sK (
 ∀sI,sI=sK.setRow gL #[wS,wF,wG,uA,sH,uT]->
 Wt sI ⟨bF,0,none⟩ 3/\Nb bF w/\Nb bF w0/\Nb bF w1/\Nb bF w3/\Nb bF gL/\(∀JG,JG=aG sI (some ⟨bF,0,none⟩) [.bool b84,b85,b86]->
 aO [aA,aq,au,aT,aU,aX,bN,bI,bJ]/\aO [br,bG,bq]/\aO [ab,ab,ab,ab,ab,ab,ab,ab,false]/\aO [x4,x5,x6,x7,x8,x9]/\AD (some ⟨gL,0,none⟩) (some ⟨bF,0,none⟩) JG))))))))/\(∀kN,kN=aW.drew.alloc (.cells #[ab,ab,ab,ab,ab,ab] 107)->
 (ah 237 #[.agg #[aA,aq,au,aT,aU,aX,bN,bI,bJ],.agg #[aT,aU,aX]] kN (iM λFf B9 sJ nu=>K4 w w0 w1 w3 kN nu (
 nu.heap[aW.drew.heap.size]? =kN.heap[aW.drew.heap.size]?/\
 ag nu (some ⟨w3,0,none⟩) 0 [x4,x5,x6,x7,x8,x9]/\(ah 236 #[a1,.agg #[x4,x5,x6,x7,x8,x9],.agg #[Ff,B9,sJ],(32768:Int)] nu (λe FH=>∃(CE CF CG Kb H0 rq:Int) (ZQ ZR MV:Bool),e=Value.tuple #[.agg #[CE,CF,CG,Kb,H0,rq],.agg #[ZQ,ZR,MV]]/\K4 w w0 w1 w3 nu FH (
 FH.heap[aW.drew.heap.size]? =nu.heap[aW.drew.heap.size]?/\
 ∀ZS,ZS=FH.alloc (.cells #[false,false,false] 299)->
 ∀Cd,Cd=ZS.setRow aW.drew.heap.size #[CE,CF,CG,Kb,H0,rq]->
 Wt Cd ⟨FH,0,none⟩ 3/\Nb FH w/\Nb FH w0/\Nb FH w1/\Nb FH w3/\bC (some ⟨FH,0,none⟩)≠some aW.drew.heap.size/\(∀ZT,ZT=aG Cd (some ⟨FH,0,none⟩) [.bool ZQ,ZR,MV]->
 aO [aA,aq,au,aT,aU,aX,bN,bI,bJ]/\aO [br,bG,bq]/\aO [ab,ab,ab,ab,ab,ab,ab,ab,false]/\aO [x4,x5,x6,x7,x8,x9]/\AD (some ⟨aW.drew.heap.size,0,none⟩) (some ⟨FH,0,none⟩) ZT))))/\(∀AE,AE=nu.alloc (.cells #[false,false,false] 299)->
 ah 236 #[a1,.agg #[x4,x5,x6,x7,x8,x9],.agg #[Ff,B9,sJ],(32768:Int)] AE (λe Gy=>∃(sM kr qm jn yL Cf:Int) (JE Ca ZU:Bool),e=Value.tuple #[.agg #[sM,kr,qm,jn,yL,Cf],.agg #[JE,Ca,ZU]]/\K4 w w0 w1 w3 AE Gy (
 Gy.heap[aW.drew.heap.size]? =AE.heap[aW.drew.heap.size]?/\
 ∀yM,yM=Gy.setRow aW.drew.heap.size #[sM,kr,qm,jn,yL,Cf]->
 Wt yM ⟨nu,0,none⟩ 3/\Nb nu w/\Nb nu w0/\Nb nu w1/\Nb nu w3/\bC (some ⟨nu,0,none⟩)≠some aW.drew.heap.size/\(∀rA,rA=aG yM (some ⟨nu,0,none⟩) [.bool JE,Ca,ZU]->
 aO [aA,aq,au,aT,aU,aX,bN,bI,bJ]/\aO [br,bG,bq]/\aO [ab,ab,ab,ab,ab,ab,ab,ab,false]/\aO [x4,x5,x6,x7,x8,x9]/\AD (some ⟨aW.drew.heap.size,0,none⟩) (some ⟨nu,0,none⟩) rA)))))))/\(∀AF,AF=kN.alloc (.cells #[false,false,false] 299)->
 ah 237 #[.agg #[aA,aq,au,aT,aU,aX,bN,bI,bJ],.agg #[aT,aU,aX]] AF (iM λV3 Gz MW AG=>K4 w w0 w1 w3 AF AG (
 AG.heap[aW.drew.heap.size]? =AF.heap[aW.drew.heap.size]?/\
 ag AG (some ⟨w3,0,none⟩) 0 [x4,x5,x6,x7,x8,x9]/\ah 236 #[a1,.agg #[x4,x5,x6,x7,x8,x9],.agg #[V3,Gz,MW],(32768:Int)] AG (λe Cb=>∃(GA GB QP MX MY MZ:Int) (ZV ZW ZX:Bool),e=Value.tuple #[.agg #[GA,GB,QP,MX,MY,MZ],.agg #[ZV,ZW,ZX]]/\K4 w w0 w1 w3 AG Cb (
 Cb.heap[aW.drew.heap.size]? =AG.heap[aW.drew.heap.size]?/\
 ∀QQ,QQ=Cb.setRow aW.drew.heap.size #[GA,GB,QP,MX,MY,MZ]->
 Wt QQ ⟨kN,0,none⟩ 3/\Nb kN w/\Nb kN w0/\Nb kN w1/\Nb kN w3/\bC (some ⟨kN,0,none⟩)≠some aW.drew.heap.size/\(∀ZY,ZY=aG QQ (some ⟨kN,0,none⟩) [.bool ZV,ZW,ZX]->
 aO [aA,aq,au,aT,aU,aX,bN,bI,bJ]/\aO [br,bG,bq]/\aO [ab,ab,ab,ab,ab,ab,ab,ab,false]/\aO [x4,x5,x6,x7,x8,x9]/\AD (some ⟨aW.drew.heap.size,0,none⟩) (some ⟨kN,0,none⟩) ZY)))))))/\(∀rC,rC=aW.drew.alloc (.cells #[false,false,false] 299)->
 (ah 237 #[.agg #[aA,aq,au,aT,aU,aX,bN,bI,bJ],.agg #[aT,aU,aX]] rC (iM λGD M1 ZZ rD=>K4 w w0 w1 w3 rC rD (
 ag rD (some ⟨w3,0,none⟩) 0 [x4,x5,x6,x7,x8,x9]/\(ah 236 #[a1,.agg #[x4,x5,x6,x7,x8,x9],.agg #[GD,M1,ZZ],(32768:Int)] rD (λe oD=>∃(Z0 QR QT QU QV QW:Int) (Z1 Z2 Z3:Bool),e=Value.tuple #[.agg #[Z0,QR,QT,QU,QV,QW],.agg #[Z1,Z2,Z3]]/\K4 w w0 w1 w3 rD oD (
 ∀Z4,Z4=oD.alloc (.cells #[ab,ab,ab,ab,ab,ab] 107)->
 ∀QX,QX=Z4.setRow oD #[Z0,QR,QT,QU,QV,QW]->
 Wt QX ⟨aW.drew.heap.size,0,none⟩ 3/\Nq (some ⟨aW.drew.heap.size,0,none⟩) w/\Nq (some ⟨aW.drew.heap.size,0,none⟩) w0/\Nq (some ⟨aW.drew.heap.size,0,none⟩) w1/\Nq (some ⟨aW.drew.heap.size,0,none⟩) w3/\Nq (some ⟨aW.drew.heap.size,0,none⟩) oD/\(∀Z5,Z5=aG QX (some ⟨aW.drew.heap.size,0,none⟩) [.bool Z1,Z2,Z3]->
 aO [aA,aq,au,aT,aU,aX,bN,bI,bJ]/\aO [br,bG,bq]/\aO [ab,ab,ab,ab,ab,ab,ab,ab,false]/\aO [x4,x5,x6,x7,x8,x9]/\AD (some ⟨oD,0,none⟩) (some ⟨aW.drew.heap.size,0,none⟩) Z5))))/\(∀QY,QY=rD.alloc (.cells #[ab,ab,ab,ab,ab,ab] 107)->
 ah 236 #[a1,.agg #[x4,x5,x6,x7,x8,x9],.agg #[GD,M1,ZZ],(32768:Int)] QY (λe Z6=>∃(Z7 Z8 Z9 aaa aab aac:Int) (aad aae aaf:Bool),e=Value.tuple #[.agg #[Z7,Z8,Z9,aaa,aab,aac],.agg #[aad,aae,aaf]]/\K5 w w0 w1 w3 rD QY Z6 (
 ∀QZ,QZ=Z6.setRow rD #[Z7,Z8,Z9,aaa,aab,aac]->
 Wt QZ ⟨aW.drew.heap.size,0,none⟩ 3/\Nq (some ⟨aW.drew.heap.size,0,none⟩) w/\Nq (some ⟨aW.drew.heap.size,0,none⟩) w0/\Nq (some ⟨aW.drew.heap.size,0,none⟩) w1/\Nq (some ⟨aW.drew.heap.size,0,none⟩) w3/\Nq (some ⟨aW.drew.heap.size,0,none⟩) rD/\(∀aag,aag=aG QZ (some ⟨aW.drew.heap.size,0,none⟩) [.bool aad,aae,aaf]->
 aO [aA,aq,au,aT,aU,aX,bN,bI,bJ]/\aO [br,bG,bq]/\aO [ab,ab,ab,ab,ab,ab,ab,ab,false]/\aO [x4,x5,x6,x7,x8,x9]/\AD (some ⟨rD,0,none⟩) (some ⟨aW.drew.heap.size,0,none⟩) aag)))))))/\(∀Q0,Q0=rC.alloc (.cells #[ab,ab,ab,ab,ab,ab] 107)->
 ah 237 #[.agg #[aA,aq,au,aT,aU,aX,bN,bI,bJ],.agg #[aT,aU,aX]] Q0 (iM λV4 V5 V6 JH=>K5 w w0 w1 w3 rC Q0 JH (
 ag JH (some ⟨w3,0,none⟩) 0 [x4,x5,x6,x7,x8,x9]/\ah 236 #[a1,.agg #[x4,x5,x6,x7,x8,x9],.agg #[V4,V5,V6],(32768:Int)] JH (λe aah=>∃(M3 wL aai aaj aak aal:Int) (aam aan aao:Bool),e=Value.tuple #[.agg #[M3,wL,aai,aaj,aak,aal],.agg #[aam,aan,aao]]/\K5 w w0 w1 w3 rC JH aah (
 ∀Q1,Q1=aah.setRow rC #[M3,wL,aai,aaj,aak,aal]->
 Wt Q1 ⟨aW.drew.heap.size,0,none⟩ 3/\Nq (some ⟨aW.drew.heap.size,0,none⟩) w/\Nq (some ⟨aW.drew.heap.size,0,none⟩) w0/\Nq (some ⟨aW.drew.heap.size,0,none⟩) w1/\Nq (some ⟨aW.drew.heap.size,0,none⟩) w3/\Nq (some ⟨aW.drew.heap.size,0,none⟩) rC/\(∀aap,aap=aG Q1 (some ⟨aW.drew.heap.size,0,none⟩) [.bool aam,aan,aao]->
 aO [aA,aq,au,aT,aU,aX,bN,bI,bJ]/\aO [br,bG,bq]/\aO [ab,ab,ab,ab,ab,ab,ab,ab,false]/\aO [x4,x5,x6,x7,x8,x9]/\AD (some ⟨rC,0,none⟩) (some ⟨aW.drew.heap.size,0,none⟩) aap))))))))/\
 ∀aka:Nat->Value,∀(GG agR:Option Addr) (M4:World),AD GG agR M4->
 aP (dB GG) (∃(M5 aaq AH:Int),ag M4.drew (ae GG 0) 0 [M5,aaq,AH]/\
 ah 154 #[.agg #[M5,aaq,AH],.agg #[x4,x5,x6]] M4.drew (iM λagS Ch GH GJ=>K4 w w0 w1 w3 M4.drew GJ (
 ag GJ w 0 [aA,aq,au]/\ah 145 #[.agg #[aA,aq,au],.agg #[agS,Ch,GH]] GJ (iM λFg JI JK M6=>K4 w w0 w1 w3 GJ M6 (
 ∀ua,ua=M6.setRow w #[Fg,JI,JK,aT,aU,aX,bN,bI,bJ]->
 ∃(akb akc akd:Bool),ag ua agR 0 [.bool akb,akc,akd]/\
 ah 238 #[.agg #[akb,akc,akd],.agg #[aT,aU,aX]] ua (iM λFh Q2 Q3 agT=>K4 w w0 w1 w3 ua agT (
 ∀Q4,Q4=agT.setRow w #[Fg,JI,JK,Fh,Q2,Q3,bN,bI,bJ]->
 ∃(ake akf akg akh aki akj:Int),ag Q4 GG 0 [ake,akf,akg,akh,aki,akj]/\
 ah 49 #[a1,.agg #[ake,akf,akg,akh,aki,akj]] Q4 (Rb λagU agV=>K4 w w0 w1 w3 Q4 agV (
 ∀agW,agW=agV.setRow w #[Fg,JI,JK,Fh,Q2,Q3,bN,bI,agU]->
 ∀agX,agX=agW.setRow w1 #[Fg,JI,JK,Fh,Q2,Q3,bN,bI,agU]->
 R (Value.agg #[Fg,JI,JK,Fh,Q2,Q3,bN,bI,agU]) agX)))))))))))):ah 168 #[.agg #[aA,aq,au,aT,aU,aX,bN,bI,bJ],a1,.agg #[br,bG,bq]] w R:=
 cq ⟨[],[(3,⟨[(8,.ptr),(9,.ptr)],[],[]⟩)],[]⟩ Tryz.func168 h
theorem Dr.vc {bJ:Bool} {a1:Value} {bq:Bool} (h:
 ∀w0,w0=w.alloc (.cells #[aA,aq,au,aT,aU,aX,bN,bI,bJ] 70)->
 ∀w1,w1=w0.alloc (.cells #[br,bG,bq] 109)->
 ∀w2,w2=w1.alloc (.cells #[ab,ab,ab,ab,ab,ab,ab,ab,false] 70)->
 ∃I3:Nat->Int->Int->Int->Int->Int->Int->Int->Int->Int->Bool->World->Prop,
 (∃n4,aO [br,bG,bq]/\aO [ab,ab,ab,ab,ab,ab,ab,ab,false]/\I3 n4 (0) aA aq au aT aU aX bN bI bJ w2)/\
 ∀(n4:Nat) (us5:Nat->Value) (x6 x7 x8 x9 bj bz bU cc bW:Int) (Ss:Bool) (cB:World),I3 n4 x6 x7 x8 x9 bj bz bU cc bW Ss cB->
 Br (x6<3)
 (((0:Int)<=x6/\x6<((3:Nat):Int))/\∃(v18:Value),([.func (.func 166) #[] #[],.func (.func 167) #[] #[],.func (.func 168) #[] #[]]:LV)[(x6:Int).toNat*1]? =some (v18)/\
 cw Tryz.prog v18 [.agg #[x7,x8,x9,bj,bz,bU,cc,bW,Ss],a1,.agg #[br,bG,bq]] cB (λe fy=>∃(cZ dm dI dz eH dQ fk fw:Int) (N2:Bool),e=Value.agg #[cZ,dm,dI,dz,eH,dQ,fk,fw,N2]/\K3 w w0 w1 cB fy (
 ∀dH,dH=fy.setRow w #[cZ,dm,dI,dz,eH,dQ,fk,fw,N2]->
 ∃GK,GK<n4/\aO [br,bG,bq]/\aO [ab,ab,ab,ab,ab,ab,ab,ab,false]/\I3 GK ((aj (x6+1))) cZ dm dI dz eH dQ fk fw N2 dH)))
 (∀eY,eY=cB.setRow w1 #[x7,x8,x9,bj,bz,bU,cc,bW,Ss]->
 R (Value.agg #[x7,x8,x9,bj,bz,bU,cc,bW,Ss]) eY)):ah 116 #[.agg #[aA,aq,au,aT,aU,aX,bN,bI,bJ],a1,.agg #[br,bG,bq]] w R:=
 cq ⟨[(2,⟨[(10,.int .i64)],[(0,[.int .i64,.int .i64,.int .i64,.int .i64,.int .i64,.int .i64,.int .i64,.int .i64,.bool])],[]⟩)],[],[]⟩ Tryz.func116 h
theorem BF.vc {bJ:Bool} {a1:Value} (h:
 ∀w0,w0=w.alloc (.cells #[aA,aq,au,aT,aU,aX,bN,bI,bJ] 70)->
 ∀w1,w1=w0.alloc (.cells #[br,bG,bq] 28)->
 ∀w2,w2=w1.alloc (.cells #[ab,ab,ab,ab,ab,ab,ab,ab,false] 70)->
 ah 48 #[.agg #[aA,aq,au,aT,aU,aX,bN,bI,bJ]] w2 (vy λx4 x5 x6 x7 x8 x9 w3=>K3 w w0 w1 w2 w3 (
 ∀bD,bD=w3.alloc (.cells #[ab,ab,ab,ab,ab,ab] 107)->
 ∀aW,aW=bD.setRow w3 #[x4,x5,x6,x7,x8,x9]->
 ∃AD:Option Addr->World->Prop,
 ((ah 237 #[.agg #[aA,aq,au,aT,aU,aX,bN,bI,bJ],.agg #[br,bG,bq]] aW.drew (iM λbW cm cp bF=>K4 w w0 w1 w3 aW.drew bF (
 ag bF (some ⟨w3,0,none⟩) 0 [x4,x5,x6,x7,x8,x9]/\(ah 240 #[a1,.agg #[x4,x5,x6,x7,x8,x9],.agg #[bW,cm,cp]] bF (λe cE=>∃(cg cr cZ dm dI dz:Int) (Sw Ka Fa:Bool),e=Value.tuple #[.agg #[cg,cr,cZ,dm,dI,dz],.agg #[Sw,Ka,Fa]]/\K4 w w0 w1 w3 bF cE (
 (∀eo,eo=cE.alloc (.cells #[ab,ab,ab,ab,ab,ab] 107)->
 ∀gn,gn=eo.alloc (.cells #[false,false,false] 299)->
 ∀dH,dH=gn.setRow cE #[cg,cr,cZ,dm,dI,dz]->
 Wt dH ⟨eo,0,none⟩ 3/\Nb eo w/\Nb eo w0/\Nb eo w1/\Nb eo w3/\Nb eo cE/\(∀eY,eY=aG dH (some ⟨eo,0,none⟩) [.bool Sw,Ka,Fa]->
 aO [aA,aq,au,aT,aU,aX,bN,bI,bJ]/\aO [br,bG,bq]/\aO [ab,ab,ab,ab,ab,ab,ab,ab,false]/\aO [x4,x5,x6,x7,x8,x9]/\AD (some ⟨cE,0,none⟩) eY))/\(∀fj,fj=cE.alloc (.cells #[false,false,false] 299)->
 ∀j6,j6=fj.alloc (.cells #[ab,ab,ab,ab,ab,ab] 107)->
 ∀ej,ej=j6.setRow fj #[cg,cr,cZ,dm,dI,dz]->
 Wt ej ⟨cE,0,none⟩ 3/\Nb cE w/\Nb cE w0/\Nb cE w1/\Nb cE w3/\Nb cE fj/\(∀iL,iL=aG ej (some ⟨cE,0,none⟩) [.bool Sw,Ka,Fa]->
 aO [aA,aq,au,aT,aU,aX,bN,bI,bJ]/\aO [br,bG,bq]/\aO [ab,ab,ab,ab,ab,ab,ab,ab,false]/\aO [x4,x5,x6,x7,x8,x9]/\AD (some ⟨fj,0,none⟩) iL)))))/\(∀ie,ie=bF.alloc (.cells #[ab,ab,ab,ab,ab,ab] 107)->
 (ah 240 #[a1,.agg #[x4,x5,x6,x7,x8,x9],.agg #[bW,cm,cp]] ie (λe jl=>∃(gu fX mG lW kq lZ:Int) (MU b44 HZ:Bool),e=Value.tuple #[.agg #[gu,fX,mG,lW,kq,lZ],.agg #[MU,b44,HZ]]/\K5 w w0 w1 w3 bF ie jl (
 ∀m7,m7=jl.alloc (.cells #[false,false,false] 299)->
 ∀jQ,jQ=m7.setRow bF #[gu,fX,mG,lW,kq,lZ]->
 Wt jQ ⟨jl,0,none⟩ 3/\Nb jl w/\Nb jl w0/\Nb jl w1/\Nb jl w3/\Nb jl bF/\(∀fG,fG=aG jQ (some ⟨jl,0,none⟩) [.bool MU,b44,HZ]->
 aO [aA,aq,au,aT,aU,aX,bN,bI,bJ]/\aO [br,bG,bq]/\aO [ab,ab,ab,ab,ab,ab,ab,ab,false]/\aO [x4,x5,x6,x7,x8,x9]/\AD (some ⟨bF,0,none⟩) fG))))/\(∀kv,kv=ie.alloc (.cells #[false,false,false] 299)->
 ah 240 #[a1,.agg #[x4,x5,x6,x7,x8,x9],.agg #[bW,cm,cp]] kv (λe kM=>∃(lr kE im ou ky rZ:Int) (VZ N0 b59:Bool),e=Value.tuple #[.agg #[lr,kE,im,ou,ky,rZ],.agg #[VZ,N0,b59]]/\K5 w w0 w1 w3 bF kv kM (
 ∀kC,kC=kM.setRow bF #[lr,kE,im,ou,ky,rZ]->
 Wt kC ⟨ie,0,none⟩ 3/\Nb ie w/\Nb ie w0/\Nb ie w1/\Nb ie w3/\Nb ie bF/\(∀mY,mY=aG kC (some ⟨ie,0,none⟩) [.bool VZ,N0,b59]->
 aO [aA,aq,au,aT,aU,aX,bN,bI,bJ]/\aO [br,bG,bq]/\aO [ab,ab,ab,ab,ab,ab,ab,ab,false]/\aO [x4,x5,x6,x7,x8,x9]/\AD (some ⟨bF,0,none⟩) mY)))))/\(∀gL,gL=bF.alloc (.cells #[false,false,false] 299)->
 (ah 240 #[a1,.agg #[x4,x5,x6,x7,x8,x9],.agg #[bW,cm,cp]] gL (λe uz=>∃(sR qp lh od nt pz:Int) (b70 b71 b72:Bool),e=Value.tuple #[.agg #[sR,qp,lh,od,nt,pz],.agg #[b70,b71,b72]]/\K4 w w0 w1 w3 gL uz (
 ∀FG,FG=uz.alloc (.cells #[ab,ab,ab,ab,ab,ab] 107)->
 ∀jK,jK=FG.setRow uz #[sR,qp,lh,od,nt,pz]->
 Wt jK ⟨bF,0,none⟩ 3/\Nb bF w/\Nb bF w0/\Nb bF w1/\Nb bF w3/\Nb bF uz/\(∀pn,pn=aG jK (some ⟨bF,0,none⟩) [.bool b70,b71,b72]->
 aO [aA,aq,au,aT,aU,aX,bN,bI,bJ]/\aO [br,bG,bq]/\aO [ab,ab,ab,ab,ab,ab,ab,ab,false]/\aO [x4,x5,x6,x7,x8,x9]/\AD (some ⟨uz,0,none⟩) pn))))/\(∀iq,iq=gL.alloc (.cells #[ab,ab,ab,ab,ab,ab] 107)->
 ah 240 #[a1,.agg #[x4,x5,x6,x7,x8,x9],.agg #[bW,cm,cp]] iq (λe sK=>∃(wS wF wG uA sH uT:Int) (b84 b85 b86:Bool),e=Value.tuple #[.agg #[wS,wF,wG,uA,sH,uT],.agg #[b84,b85,b86]]/\K5 w w0 w1 w3 gL iq sK (
 ∀sI,sI=sK.setRow gL #[wS,wF,wG,uA,sH,uT]->
 Wt sI ⟨bF,0,none⟩ 3/\Nb bF w/\Nb bF w0/\Nb bF w1/\Nb bF w3/\Nb bF gL/\(∀JG,JG=aG sI (some ⟨bF,0,none⟩) [.bool b84,b85,b86]->
 aO [aA,aq,au,aT,aU,aX,bN,bI,bJ]/\aO [br,bG,bq]/\aO [ab,ab,ab,ab,ab,ab,ab,ab,false]/\aO [x4,x5,x6,x7,x8,x9]/\AD (some ⟨gL,0,none⟩) JG))))))))/\(∀kN,kN=aW.drew.alloc (.cells #[ab,ab,ab,ab,ab,ab] 107)->
 (ah 237 #[.agg #[aA,aq,au,aT,aU,aX,bN,bI,bJ],.agg #[br,bG,bq]] kN (iM λFf B9 sJ nu=>K4 w w0 w1 w3 kN nu (
 nu.heap[aW.drew.heap.size]? =kN.heap[aW.drew.heap.size]?/\
 ag nu (some ⟨w3,0,none⟩) 0 [x4,x5,x6,x7,x8,x9]/\(ah 240 #[a1,.agg #[x4,x5,x6,x7,x8,x9],.agg #[Ff,B9,sJ]] nu (λe FH=>∃(CE CF CG Kb H0 rq:Int) (ZQ ZR MV:Bool),e=Value.tuple #[.agg #[CE,CF,CG,Kb,H0,rq],.agg #[ZQ,ZR,MV]]/\K4 w w0 w1 w3 nu FH (
 FH.heap[aW.drew.heap.size]? =nu.heap[aW.drew.heap.size]?/\
 ∀ZS,ZS=FH.alloc (.cells #[false,false,false] 299)->
 ∀Cd,Cd=ZS.setRow aW.drew.heap.size #[CE,CF,CG,Kb,H0,rq]->
 Wt Cd ⟨FH,0,none⟩ 3/\Nb FH w/\Nb FH w0/\Nb FH w1/\Nb FH w3/\bC (some ⟨FH,0,none⟩)≠some aW.drew.heap.size/\(∀ZT,ZT=aG Cd (some ⟨FH,0,none⟩) [.bool ZQ,ZR,MV]->
 aO [aA,aq,au,aT,aU,aX,bN,bI,bJ]/\aO [br,bG,bq]/\aO [ab,ab,ab,ab,ab,ab,ab,ab,false]/\aO [x4,x5,x6,x7,x8,x9]/\AD (some ⟨aW.drew.heap.size,0,none⟩) ZT))))/\(∀AE,AE=nu.alloc (.cells #[false,false,false] 299)->
 ah 240 #[a1,.agg #[x4,x5,x6,x7,x8,x9],.agg #[Ff,B9,sJ]] AE (λe Gy=>∃(sM kr qm jn yL Cf:Int) (JE Ca ZU:Bool),e=Value.tuple #[.agg #[sM,kr,qm,jn,yL,Cf],.agg #[JE,Ca,ZU]]/\K4 w w0 w1 w3 AE Gy (
 Gy.heap[aW.drew.heap.size]? =AE.heap[aW.drew.heap.size]?/\
 ∀yM,yM=Gy.setRow aW.drew.heap.size #[sM,kr,qm,jn,yL,Cf]->
 Wt yM ⟨nu,0,none⟩ 3/\Nb nu w/\Nb nu w0/\Nb nu w1/\Nb nu w3/\bC (some ⟨nu,0,none⟩)≠some aW.drew.heap.size/\(∀rA,rA=aG yM (some ⟨nu,0,none⟩) [.bool JE,Ca,ZU]->
 aO [aA,aq,au,aT,aU,aX,bN,bI,bJ]/\aO [br,bG,bq]/\aO [ab,ab,ab,ab,ab,ab,ab,ab,false]/\aO [x4,x5,x6,x7,x8,x9]/\AD (some ⟨aW.drew.heap.size,0,none⟩) rA)))))))/\(∀AF,AF=kN.alloc (.cells #[false,false,false] 299)->
 ah 237 #[.agg #[aA,aq,au,aT,aU,aX,bN,bI,bJ],.agg #[br,bG,bq]] AF (iM λV3 Gz MW AG=>K4 w w0 w1 w3 AF AG (
 AG.heap[aW.drew.heap.size]? =AF.heap[aW.drew.heap.size]?/\
 ag AG (some ⟨w3,0,none⟩) 0 [x4,x5,x6,x7,x8,x9]/\ah 240 #[a1,.agg #[x4,x5,x6,x7,x8,x9],.agg #[V3,Gz,MW]] AG (λe Cb=>∃(GA GB QP MX MY MZ:Int) (ZV ZW ZX:Bool),e=Value.tuple #[.agg #[GA,GB,QP,MX,MY,MZ],.agg #[ZV,ZW,ZX]]/\K4 w w0 w1 w3 AG Cb (
 Cb.heap[aW.drew.heap.size]? =AG.heap[aW.drew.heap.size]?/\
 ∀QQ,QQ=Cb.setRow aW.drew.heap.size #[GA,GB,QP,MX,MY,MZ]->
 Wt QQ ⟨kN,0,none⟩ 3/\Nb kN w/\Nb kN w0/\Nb kN w1/\Nb kN w3/\bC (some ⟨kN,0,none⟩)≠some aW.drew.heap.size/\(∀ZY,ZY=aG QQ (some ⟨kN,0,none⟩) [.bool ZV,ZW,ZX]->
 aO [aA,aq,au,aT,aU,aX,bN,bI,bJ]/\aO [br,bG,bq]/\aO [ab,ab,ab,ab,ab,ab,ab,ab,false]/\aO [x4,x5,x6,x7,x8,x9]/\AD (some ⟨aW.drew.heap.size,0,none⟩) ZY)))))))/\(∀rC,rC=aW.drew.alloc (.cells #[false,false,false] 299)->
 (ah 237 #[.agg #[aA,aq,au,aT,aU,aX,bN,bI,bJ],.agg #[br,bG,bq]] rC (iM λGD M1 ZZ rD=>K4 w w0 w1 w3 rC rD (
 ag rD (some ⟨w3,0,none⟩) 0 [x4,x5,x6,x7,x8,x9]/\(ah 240 #[a1,.agg #[x4,x5,x6,x7,x8,x9],.agg #[GD,M1,ZZ]] rD (λe oD=>∃(Z0 QR QT QU QV QW:Int) (Z1 Z2 Z3:Bool),e=Value.tuple #[.agg #[Z0,QR,QT,QU,QV,QW],.agg #[Z1,Z2,Z3]]/\K4 w w0 w1 w3 rD oD (
 ∀Z4,Z4=oD.alloc (.cells #[ab,ab,ab,ab,ab,ab] 107)->
 ∀QX,QX=Z4.setRow oD #[Z0,QR,QT,QU,QV,QW]->
 Wt QX ⟨aW.drew.heap.size,0,none⟩ 3/\Nq (some ⟨aW.drew.heap.size,0,none⟩) w/\Nq (some ⟨aW.drew.heap.size,0,none⟩) w0/\Nq (some ⟨aW.drew.heap.size,0,none⟩) w1/\Nq (some ⟨aW.drew.heap.size,0,none⟩) w3/\Nq (some ⟨aW.drew.heap.size,0,none⟩) oD/\(∀Z5,Z5=aG QX (some ⟨aW.drew.heap.size,0,none⟩) [.bool Z1,Z2,Z3]->
 aO [aA,aq,au,aT,aU,aX,bN,bI,bJ]/\aO [br,bG,bq]/\aO [ab,ab,ab,ab,ab,ab,ab,ab,false]/\aO [x4,x5,x6,x7,x8,x9]/\AD (some ⟨oD,0,none⟩) Z5))))/\(∀QY,QY=rD.alloc (.cells #[ab,ab,ab,ab,ab,ab] 107)->
 ah 240 #[a1,.agg #[x4,x5,x6,x7,x8,x9],.agg #[GD,M1,ZZ]] QY (λe Z6=>∃(Z7 Z8 Z9 aaa aab aac:Int) (aad aae aaf:Bool),e=Value.tuple #[.agg #[Z7,Z8,Z9,aaa,aab,aac],.agg #[aad,aae,aaf]]/\K5 w w0 w1 w3 rD QY Z6 (
 ∀QZ,QZ=Z6.setRow rD #[Z7,Z8,Z9,aaa,aab,aac]->
 Wt QZ ⟨aW.drew.heap.size,0,none⟩ 3/\Nq (some ⟨aW.drew.heap.size,0,none⟩) w/\Nq (some ⟨aW.drew.heap.size,0,none⟩) w0/\Nq (some ⟨aW.drew.heap.size,0,none⟩) w1/\Nq (some ⟨aW.drew.heap.size,0,none⟩) w3/\Nq (some ⟨aW.drew.heap.size,0,none⟩) rD/\(∀aag,aag=aG QZ (some ⟨aW.drew.heap.size,0,none⟩) [.bool aad,aae,aaf]->
 aO [aA,aq,au,aT,aU,aX,bN,bI,bJ]/\aO [br,bG,bq]/\aO [ab,ab,ab,ab,ab,ab,ab,ab,false]/\aO [x4,x5,x6,x7,x8,x9]/\AD (some ⟨rD,0,none⟩) aag)))))))/\(∀Q0,Q0=rC.alloc (.cells #[ab,ab,ab,ab,ab,ab] 107)->
 ah 237 #[.agg #[aA,aq,au,aT,aU,aX,bN,bI,bJ],.agg #[br,bG,bq]] Q0 (iM λV4 V5 V6 JH=>K5 w w0 w1 w3 rC Q0 JH (
 ag JH (some ⟨w3,0,none⟩) 0 [x4,x5,x6,x7,x8,x9]/\ah 240 #[a1,.agg #[x4,x5,x6,x7,x8,x9],.agg #[V4,V5,V6]] JH (λe aah=>∃(M3 wL aai aaj aak aal:Int) (aam aan aao:Bool),e=Value.tuple #[.agg #[M3,wL,aai,aaj,aak,aal],.agg #[aam,aan,aao]]/\K5 w w0 w1 w3 rC JH aah (
 ∀Q1,Q1=aah.setRow rC #[M3,wL,aai,aaj,aak,aal]->
 Wt Q1 ⟨aW.drew.heap.size,0,none⟩ 3/\Nq (some ⟨aW.drew.heap.size,0,none⟩) w/\Nq (some ⟨aW.drew.heap.size,0,none⟩) w0/\Nq (some ⟨aW.drew.heap.size,0,none⟩) w1/\Nq (some ⟨aW.drew.heap.size,0,none⟩) w3/\Nq (some ⟨aW.drew.heap.size,0,none⟩) rC/\(∀aap,aap=aG Q1 (some ⟨aW.drew.heap.size,0,none⟩) [.bool aam,aan,aao]->
 aO [aA,aq,au,aT,aU,aX,bN,bI,bJ]/\aO [br,bG,bq]/\aO [ab,ab,ab,ab,ab,ab,ab,ab,false]/\aO [x4,x5,x6,x7,x8,x9]/\AD (some ⟨rC,0,none⟩) aap))))))))/\
 ∀aka:Nat->Value,∀(GG:Option Addr) (ads:World),AD GG ads->
 aP (dB GG) (∃(JL M5 aaq:Int),ag ads.drew (ae GG 0) 0 [JL,M5,aaq]/\
 ah 154 #[.agg #[JL,M5,aaq],.agg #[x4,x5,x6]] ads.drew (iM λCi agS Ch V7=>K4 w w0 w1 w3 ads.drew V7 (
 ag V7 w 0 [aA,aq,au]/\ah 145 #[.agg #[aA,aq,au],.agg #[Ci,agS,Ch]] V7 (iM λnh Fg JI agY=>K4 w w0 w1 w3 V7 agY (
 ∀agZ,agZ=agY.setRow w #[nh,Fg,JI,aT,aU,aX,bN,bI,bJ]->
 ∀ua,ua=agZ.setRow w1 #[nh,Fg,JI,aT,aU,aX,bN,bI,bJ]->
 R (Value.agg #[nh,Fg,JI,aT,aU,aX,bN,bI,bJ]) ua)))))))):ah 171 #[.agg #[aA,aq,au,aT,aU,aX,bN,bI,bJ],a1,.agg #[br,bG,bq]] w R:=
 cq ⟨[],[(3,⟨[(8,.ptr)],[],[]⟩)],[]⟩ Tryz.func171 h
theorem abY.vc {a0:Value} (h:
 ∃I0:Nat->Int->World->Prop,
 (∃n1,I0 n1 (0) w)/\
 ∀(n1:Nat) (wM:Nat->Value) (x3:Int) (w4:World),I0 n1 x3 w4->
 Br (x3<3)
 (cw Tryz.prog a0 [x3] w4 (λe w6=>∃(b7:Bool),e=b7/\
 Br (!b7)
 (R false w6)
 (∃n5,n5<n1/\I0 n5 ((aj (x3+1))) w6)))
 (R true w4)):ah 176 #[a0] w R:=
 cq ⟨[(2,⟨[(4,.int .i64)],[],[]⟩)],[],[]⟩ Tryz.func176 h
theorem FV.vc {c0:Addr} {c1:Addr} (h:
 ∃(x0 x1 x2:Int),ag w.drew (ae (some c0) 0) 0 [x0,x1,x2]/\
 ∃(x3 x4 x5:Int),ag w.drew (ae (some c1) 3) 0 [x3,x4,x5]/\
 ah 178 #[.agg #[x0,x1,x2],a0] w.drew (λe w6=>∃(x7:Int),e=x7/\
 ag w6 (ae (some c1) 3) 0 [x3,x4,x5]/\ah 178 #[.agg #[x3,x4,x5],a0] w6 (λe w8=>∃(x9:Int),e=x9/\
 Br (x7<x9)
 (∃(bj bz bU:Int),ag w8 (ae (some c1) 0) 0 [bj,bz,bU]/\
 ∃(cc bW cm:Int),ag w8 (ae (some c0) 3) 0 [cc,bW,cm]/\
 ah 178 #[.agg #[bj,bz,bU],a0] w8 (λe cB=>∃(cT:Int),e=cT/\
 ag cB (ae (some c0) 3) 0 [cc,bW,cm]/\ah 178 #[.agg #[cc,bW,cm],a0] cB (λe dA=>∃(cr:Int),e=cr/\
 R (Value.bool (decide (cT<cr))) dA)))
 (R false w8)))):ah 177 #[a0,c0,c1] w R:=
 cq bT Tryz.func177 h
theorem KM.vc (h:
 ∀w0,w0=w.alloc (.cells #[aA,aq,au,aT,aU,aX] 107)->
 ∀w1,w1=w0.alloc (.cells #[ak,ao,aw,bw,bR,bP] 107)->
 ah 176 #[.func (.func 177) #[] #[w,.pointer (some ⟨w0,0,none⟩)]] w1 (λe w2=>∃(b3:Bool),e=b3/\
 R b3 w2)):ah 124 #[.agg #[aA,aq,au,aT,aU,aX],.agg #[ak,ao,aw,bw,bR,bP]] w R:=
 cq bT Tryz.func124 h
theorem KN.vc {c0:Addr} {c1:Addr} (h:
 ∃(x0 x1 x2:Int),ag w.drew (ae (some c0) 3) 0 [x0,x1,x2]/\
 ∃(x3 x4 x5:Int),ag w.drew (ae (some c1) 3) 0 [x3,x4,x5]/\
 ∃(x6 x7 x8:Int),ag w.drew (ae (some c0) 0) 0 [x6,x7,x8]/\
 ∃(x9 bj bz:Int),ag w.drew (ae (some c1) 0) 0 [x9,bj,bz]/\
 ah 178 #[.agg #[x0,x1,x2],a0] w.drew (λe cM=>∃(cc:Int),e=cc/\
 ag cM (ae (some c1) 0) 0 [x9,bj,bz]/\ag cM (ae (some c0) 0) 0 [x6,x7,x8]/\ag cM (ae (some c1) 3) 0 [x3,x4,x5]/\ah 178 #[.agg #[x3,x4,x5],a0] cM (λe bK=>∃(cm:Int),e=cm/\
 ag bK (ae (some c1) 0) 0 [x9,bj,bz]/\ag bK (ae (some c0) 0) 0 [x6,x7,x8]/\ah 178 #[.agg #[x6,x7,x8],a0] bK (λe cB=>∃(cT:Int),e=cT/\
 ag cB (ae (some c1) 0) 0 [x9,bj,bz]/\ah 178 #[.agg #[x9,bj,bz],a0] cB (λe dA=>∃(cr:Int),e=cr/\
 R ((aj ((if cm<cc then cm else cc)-(if cr>cT then cr else cT)))) dA))))):ah 239 #[a0,c0,c1] w R:=
 cq bT Tryz.func239 h
theorem Tx.vc {bJ:Bool} {eL:Bool} (h:
 ∀w0,w0=w.alloc (.cells #[aA,aq,au,aT,aU,aX,bN,bI,bJ] 70)->
 ∀w1,w1=w0.alloc (.cells #[ak,ao,aw,bw,bR,bP,eZ,fa,eL] 70)->
 ∀w2,w2=w1.alloc (.cells #[ab,ab,ab] 28)->
 ∀w3,w3=w2.alloc (.cells #[ab,ab,ab] 28)->
 ∃J4:Option Addr->Option Addr->World->Prop,
 ((ah 48 #[.agg #[aA,aq,au,aT,aU,aX,bN,bI,bJ]] w3.drew (vy λx6 x7 x8 x9 bj bz w5=>K4 w w0 w1 w2 w3.drew w5 (
 ag w5 (some ⟨w0,0,none⟩) 0 [ak,ao,aw,bw,bR,bP,eZ,fa,eL]/\(ah 48 #[.agg #[ak,ao,aw,bw,bR,bP,eZ,fa,eL]] w5 (vy λcc bW cm cp cT cg cM=>K4 w w0 w1 w2 w5 cM (
 (∀fy,fy=cM.alloc (.cells #[ab,ab,ab,ab,ab,ab] 107)->
 ∀fh,fh=fy.alloc (.cells #[ab,ab,ab,ab,ab,ab] 107)->
 ∀ed,ed=fh.setRow cM #[x6,x7,x8,x9,bj,bz]->
 ∀cL,cL=ed.setRow fy #[cc,bW,cm,cp,cT,cg]->
 aO [aA,aq,au,aT,aU,aX,bN,bI,bJ]/\aO [ak,ao,aw,bw,bR,bP,eZ,fa,eL]/\aO [ab,ab,ab]/\aO [ab,ab,ab]/\J4 (some ⟨cM,0,none⟩) (some ⟨fy,0,none⟩) cL)/\(∀dT,dT=cM.alloc (.cells #[ab,ab,ab,ab,ab,ab] 107)->
 ∀fH,fH=dT.alloc (.cells #[ab,ab,ab,ab,ab,ab] 107)->
 ∀cP,cP=fH.setRow dT #[x6,x7,x8,x9,bj,bz]->
 ∀eG,eG=cP.setRow cM #[cc,bW,cm,cp,cT,cg]->
 aO [aA,aq,au,aT,aU,aX,bN,bI,bJ]/\aO [ak,ao,aw,bw,bR,bP,eZ,fa,eL]/\aO [ab,ab,ab]/\aO [ab,ab,ab]/\J4 (some ⟨dT,0,none⟩) (some ⟨cM,0,none⟩) eG))))/\(∀eo,eo=w5.alloc (.cells #[ab,ab,ab,ab,ab,ab] 107)->
 (ah 48 #[.agg #[ak,ao,aw,bw,bR,bP,eZ,fa,eL]] eo (vy λfI iK gI gQ ey g8 gn=>K5 w w0 w1 w2 w5 eo gn (
 ∀ie,ie=gn.alloc (.cells #[ab,ab,ab,ab,ab,ab] 107)->
 ∀jl,jl=ie.setRow w5 #[x6,x7,x8,x9,bj,bz]->
 ∀gJ,gJ=jl.setRow gn #[fI,iK,gI,gQ,ey,g8]->
 aO [aA,aq,au,aT,aU,aX,bN,bI,bJ]/\aO [ak,ao,aw,bw,bR,bP,eZ,fa,eL]/\aO [ab,ab,ab]/\aO [ab,ab,ab]/\J4 (some ⟨w5,0,none⟩) (some ⟨gn,0,none⟩) gJ)))/\(∀mX,mX=eo.alloc (.cells #[ab,ab,ab,ab,ab,ab] 107)->
 ah 48 #[.agg #[ak,ao,aw,bw,bR,bP,eZ,fa,eL]] mX (vy λlW kq lZ pj kD pk jD=>K6 w w0 w1 w2 w5 eo mX jD (
 ∀m7,m7=jD.setRow w5 #[x6,x7,x8,x9,bj,bz]->
 ∀jQ,jQ=m7.setRow eo #[lW,kq,lZ,pj,kD,pk]->
 aO [aA,aq,au,aT,aU,aX,bN,bI,bJ]/\aO [ak,ao,aw,bw,bR,bP,eZ,fa,eL]/\aO [ab,ab,ab]/\aO [ab,ab,ab]/\J4 (some ⟨w5,0,none⟩) (some ⟨eo,0,none⟩) jQ))))/\(∀fG,fG=w5.alloc (.cells #[ab,ab,ab,ab,ab,ab] 107)->
 (ah 48 #[.agg #[ak,ao,aw,bw,bR,bP,eZ,fa,eL]] fG (vy λsa lr kE im ou ky kv=>K5 w w0 w1 w2 w5 fG kv (
 ∀ov,ov=kv.alloc (.cells #[ab,ab,ab,ab,ab,ab] 107)->
 ∀l8,l8=ov.setRow kv #[x6,x7,x8,x9,bj,bz]->
 ∀jZ,jZ=l8.setRow w5 #[sa,lr,kE,im,ou,ky]->
 aO [aA,aq,au,aT,aU,aX,bN,bI,bJ]/\aO [ak,ao,aw,bw,bR,bP,eZ,fa,eL]/\aO [ab,ab,ab]/\aO [ab,ab,ab]/\J4 (some ⟨kv,0,none⟩) (some ⟨w5,0,none⟩) jZ)))/\(∀sQ,sQ=fG.alloc (.cells #[ab,ab,ab,ab,ab,ab] 107)->
 ah 48 #[.agg #[ak,ao,aw,bw,bR,bP,eZ,fa,eL]] sQ (vy λoq mZ sb sR qp lh kC=>K6 w w0 w1 w2 w5 fG sQ kC (
 ∀jY,jY=kC.setRow fG #[x6,x7,x8,x9,bj,bz]->
 ∀qo,qo=jY.setRow w5 #[oq,mZ,sb,sR,qp,lh]->
 aO [aA,aq,au,aT,aU,aX,bN,bI,bJ]/\aO [ak,ao,aw,bw,bR,bP,eZ,fa,eL]/\aO [ab,ab,ab]/\aO [ab,ab,ab]/\J4 (some ⟨fG,0,none⟩) (some ⟨w5,0,none⟩) qo)))))))/\(∀Gx,Gx=w3.drew.alloc (.cells #[ab,ab,ab,ab,ab,ab] 107)->
 (ah 48 #[.agg #[aA,aq,au,aT,aU,aX,bN,bI,bJ]] Gx (vy λm8 nc mH pB tX wE kx=>K4 w w0 w1 w2 Gx kx (
 kx.heap[w3.drew.heap.size]? =Gx.heap[w3.drew.heap.size]?/\
 ag kx (some ⟨w0,0,none⟩) 0 [ak,ao,aw,bw,bR,bP,eZ,fa,eL]/\(ah 48 #[.agg #[ak,ao,aw,bw,bR,bP,eZ,fa,eL]] kx (vy λwS wF wG uA sH uT sK=>K4 w w0 w1 w2 kx sK (
 sK.heap[w3.drew.heap.size]? =kx.heap[w3.drew.heap.size]?/\
 ∀Gw,Gw=sK.alloc (.cells #[ab,ab,ab,ab,ab,ab] 107)->
 ∀JD,JD=Gw.setRow w3.drew.heap.size #[m8,nc,mH,pB,tX,wE]->
 ∀w86,w86=JD.setRow sK #[wS,wF,wG,uA,sH,uT]->
 aO [aA,aq,au,aT,aU,aX,bN,bI,bJ]/\aO [ak,ao,aw,bw,bR,bP,eZ,fa,eL]/\aO [ab,ab,ab]/\aO [ab,ab,ab]/\J4 (some ⟨w3.drew.heap.size,0,none⟩) (some ⟨sK,0,none⟩) w86)))/\(∀sI,sI=kx.alloc (.cells #[ab,ab,ab,ab,ab,ab] 107)->
 ah 48 #[.agg #[ak,ao,aw,bw,bR,bP,eZ,fa,eL]] sI (vy λH3 Sx Ff B9 sJ V2 JG=>K4 w w0 w1 w2 sI JG (
 JG.heap[w3.drew.heap.size]? =sI.heap[w3.drew.heap.size]?/\Kp kx sI JG/\
 ∀Nz,Nz=JG.setRow w3.drew.heap.size #[m8,nc,mH,pB,tX,wE]->
 ∀w96,w96=Nz.setRow kx #[H3,Sx,Ff,B9,sJ,V2]->
 aO [aA,aq,au,aT,aU,aX,bN,bI,bJ]/\aO [ak,ao,aw,bw,bR,bP,eZ,fa,eL]/\aO [ab,ab,ab]/\aO [ab,ab,ab]/\J4 (some ⟨w3.drew.heap.size,0,none⟩) (some ⟨kx,0,none⟩) w96))))))/\(∀w97,w97=Gx.alloc (.cells #[ab,ab,ab,ab,ab,ab] 107)->
 ah 48 #[.agg #[aA,aq,au,aT,aU,aX,bN,bI,bJ]] w97 (vy λH0 rq pq tY yK tZ VW=>K4 w w0 w1 w2 w97 VW (
 VW.heap[w3.drew.heap.size]? =w97.heap[w3.drew.heap.size]?/\Kp Gx w97 VW/\
 ag VW (some ⟨w0,0,none⟩) 0 [ak,ao,aw,bw,bR,bP,eZ,fa,eL]/\ah 48 #[.agg #[ak,ao,aw,bw,bR,bP,eZ,fa,eL]] VW (vy λqk ql GL sM kr qm Cd=>K4 w w0 w1 w2 VW Cd (
 Cd.heap[w3.drew.heap.size]? =VW.heap[w3.drew.heap.size]?/\Kp Gx VW Cd/\
 ∀wK,wK=Cd.setRow w3.drew.heap.size #[H0,rq,pq,tY,yK,tZ]->
 ∀JM,JM=wK.setRow Gx #[qk,ql,GL,sM,kr,qm]->
 aO [aA,aq,au,aT,aU,aX,bN,bI,bJ]/\aO [ak,ao,aw,bw,bR,bP,eZ,fa,eL]/\aO [ab,ab,ab]/\aO [ab,ab,ab]/\J4 (some ⟨w3.drew.heap.size,0,none⟩) (some ⟨Gx,0,none⟩) JM))))))/\(∀JN,JN=w3.drew.alloc (.cells #[ab,ab,ab,ab,ab,ab] 107)->
 (ah 48 #[.agg #[aA,aq,au,aT,aU,aX,bN,bI,bJ]] JN (vy λV8 aas akl aat aau Q5 GM=>K4 w w0 w1 w2 JN GM (
 GM.heap[w3.drew.heap.size]? =JN.heap[w3.drew.heap.size]?/\
 ag GM (some ⟨w0,0,none⟩) 0 [ak,ao,aw,bw,bR,bP,eZ,fa,eL]/\(ah 48 #[.agg #[ak,ao,aw,bw,bR,bP,eZ,fa,eL]] GM (vy λGz MW adu GA GB QP M7=>K4 w w0 w1 w2 GM M7 (
 M7.heap[w3.drew.heap.size]? =GM.heap[w3.drew.heap.size]?/\
 ∀akm,akm=M7.alloc (.cells #[ab,ab,ab,ab,ab,ab] 107)->
 ∀akn,akn=akm.setRow M7 #[V8,aas,akl,aat,aau,Q5]->
 ∀ako,ako=akn.setRow w3.drew.heap.size #[Gz,MW,adu,GA,GB,QP]->
 aO [aA,aq,au,aT,aU,aX,bN,bI,bJ]/\aO [ak,ao,aw,bw,bR,bP,eZ,fa,eL]/\aO [ab,ab,ab]/\aO [ab,ab,ab]/\J4 (some ⟨M7,0,none⟩) (some ⟨w3.drew.heap.size,0,none⟩) ako)))/\(∀JO,JO=GM.alloc (.cells #[ab,ab,ab,ab,ab,ab] 107)->
 ah 48 #[.agg #[ak,ao,aw,bw,bR,bP,eZ,fa,eL]] JO (vy λadv adw adx ady adz GD adA=>K4 w w0 w1 w2 JO adA (
 adA.heap[w3.drew.heap.size]? =JO.heap[w3.drew.heap.size]?/\Kp GM JO adA/\
 ∀akp,akp=adA.setRow GM #[V8,aas,akl,aat,aau,Q5]->
 ∀akq,akq=akp.setRow w3.drew.heap.size #[adv,adw,adx,ady,adz,GD]->
 aO [aA,aq,au,aT,aU,aX,bN,bI,bJ]/\aO [ak,ao,aw,bw,bR,bP,eZ,fa,eL]/\aO [ab,ab,ab]/\aO [ab,ab,ab]/\J4 (some ⟨GM,0,none⟩) (some ⟨w3.drew.heap.size,0,none⟩) akq))))))/\(∀oD,oD=JN.alloc (.cells #[ab,ab,ab,ab,ab,ab] 107)->
 ah 48 #[.agg #[aA,aq,au,aT,aU,aX,bN,bI,bJ]] oD (vy λQR QT QU QV QW apv M8=>K4 w w0 w1 w2 oD M8 (
 M8.heap[w3.drew.heap.size]? =oD.heap[w3.drew.heap.size]?/\Kp JN oD M8/\
 ag M8 (some ⟨w0,0,none⟩) 0 [ak,ao,aw,bw,bR,bP,eZ,fa,eL]/\ah 48 #[.agg #[ak,ao,aw,bw,bR,bP,eZ,fa,eL]] M8 (vy λapw apx apy apz apA apB adB=>K4 w w0 w1 w2 M8 adB (
 adB.heap[w3.drew.heap.size]? =M8.heap[w3.drew.heap.size]?/\Kp JN M8 adB/\
 ∀akr,akr=adB.setRow JN #[QR,QT,QU,QV,QW,apv]->
 ∀aks,aks=akr.setRow w3.drew.heap.size #[apw,apx,apy,apz,apA,apB]->
 aO [aA,aq,au,aT,aU,aX,bN,bI,bJ]/\aO [ak,ao,aw,bw,bR,bP,eZ,fa,eL]/\aO [ab,ab,ab]/\aO [ab,ab,ab]/\J4 (some ⟨JN,0,none⟩) (some ⟨w3.drew.heap.size,0,none⟩) aks)))))))/\
 ∀at2:Nat->Value,∀(aav aaw:Option Addr) (aax:World),J4 aav aaw aax->
 ∃(akt aku akv akw akx aky:Int),ag aax aav 0 [akt,aku,akv,akw,akx,aky]/\
 ∃(akz V4 V5 V6 akA M3:Int),ag aax aaw 0 [akz,V4,V5,V6,akA,M3]/\
 ah 124 #[.agg #[akt,aku,akv,akw,akx,aky],.agg #[akz,V4,V5,V6,akA,M3]] aax (Rb λapC M9=>K4 w w0 w1 w2 aax M9 (
 Br (!apC)
 (∀ag0,ag0=M9.setRow w1 #[ab,ab,ab]->
 ∀ag1,ag1=ag0.setRow w2 #[ab,ab,ab]->
 R (Value.tuple #[.agg #[ab,ab,ab],.agg #[ab,ab,ab]]) ag1)
 (∃ag2:Int->World->Prop,
 (ah 239 #[ab,aav,aaw] M9 (Ri λapD adC=>K4 w w0 w1 w2 M9 adC (
 ah 239 #[(2:Int),aav,aaw] adC (Ri λapE adD=>K4 w w0 w1 w2 adC adD (
 Br (apD>apE)
 (aO [aA,aq,au,aT,aU,aX,bN,bI,bJ]/\aO [ak,ao,aw,bw,bR,bP,eZ,fa,eL]/\aO [ab,ab,ab]/\aO [ab,ab,ab]/\ag2 (2) adD)
 (aO [aA,aq,au,aT,aU,aX,bN,bI,bJ]/\aO [ak,ao,aw,bw,bR,bP,eZ,fa,eL]/\aO [ab,ab,ab]/\aO [ab,ab,ab]/\ag2 (0) adD))))))/\
 ∀at4:Nat->Value,∀(V9:Int) (ag3:World),ag2 V9 ag3->
 ∃akB:Int->World->Prop,
 (ah 239 #[V9,aav,aaw] ag3 (Ri λM5 M4=>K4 w w0 w1 w2 ag3 M4 (
 aO [aA,aq,au,aT,aU,aX,bN,bI,bJ]/\aO [ak,ao,aw,bw,bR,bP,eZ,fa,eL]/\aO [ab,ab,ab]/\aO [ab,ab,ab]/\akB ((if 4096<M5 then 4096 else M5)) M4)))/\
 ∀at5:Nat->Value,∀(AH:Int) (GJ:World),akB AH GJ->
 ∃ag4:Int->World->Prop,
 (ah 178 #[.agg #[aA,aq,au],V9] GJ.drew (Ri λGH Wa=>K4 w w0 w1 w2 GJ.drew Wa (
 ag Wa (some ⟨w0,0,none⟩) 0 [ak,ao,aw]/\ah 178 #[.agg #[ak,ao,aw],V9] Wa (Ri λFg M6=>K4 w w0 w1 w2 Wa M6 (
 Br (GH<=Fg)
 (aO [aA,aq,au,aT,aU,aX,bN,bI,bJ]/\aO [ak,ao,aw,bw,bR,bP,eZ,fa,eL]/\aO [ab,ab,ab]/\aO [ab,ab,ab]/\ag4 ((aj (0-AH))) M6)
 (aO [aA,aq,au,aT,aU,aX,bN,bI,bJ]/\aO [ak,ao,aw,bw,bR,bP,eZ,fa,eL]/\aO [ab,ab,ab]/\aO [ab,ab,ab]/\ag4 AH M6))))))/\
 ∀at6:Nat->Value,∀(JK:Int) (ua:World),ag4 JK ua->
 ah 155 #[.agg #[ab,ab,ab],V9,JK] ua (iM λakC akD GN aay=>K4 w w0 w1 w2 ua aay (
 ah 155 #[.agg #[ab,ab,ab],V9,(aj (0-JK))] aay (iM λQ2 Q3 aaz ag5=>K4 w w0 w1 w2 aay ag5 (
 ∀ag6,ag6=ag5.setRow w1 #[akC,akD,GN]->
 ∀ag7,ag7=ag6.setRow w2 #[Q2,Q3,aaz]->
 R (Value.tuple #[.agg #[akC,akD,GN],.agg #[Q2,Q3,aaz]]) ag7)))))))):ah 170 #[.agg #[aA,aq,au,aT,aU,aX,bN,bI,bJ],.agg #[ak,ao,aw,bw,bR,bP,eZ,fa,eL]] w R:=
 cq ⟨[],[(11,⟨[(10,.int .i64)],[],[]⟩),(9,⟨[(10,.int .i64)],[],[]⟩),(8,⟨[(9,.int .i64)],[],[]⟩),(2,⟨[(6,.ptr),(7,.ptr)],[],[]⟩)],[]⟩ Tryz.func170 h
theorem xz.vc {a0:Sl} (h:
 Br (a0.a).isNone
 (R (Value.slice none 0 0) w)
 (∀w0,w0=w.alloc (.cells #[] 70)->
 ∃l1:LV,Rd w0 a0.a l1/\ba 72 9 w0 ⟨(some ⟨w,0,none⟩),0,0⟩ a0.n l1/\∀(s2:Sl) (w3:World),aV 70 9 w0 ⟨(some ⟨w,0,none⟩),0,0⟩ a0.n l1 s2 w3->Kp w w0 w3/\
 R s2 w3)):ah 169 #[a0] w R:=
 cq bT Tryz.func169 h
theorem O9.vc {a0:Value} {a1:Sl} (h:
 ah 169 #[a1] w (λe w0=>∃(s1:Sl),e=s1/\
 ∃I2:Nat->Int->World->Prop,
 (∃n3,I2 n3 (0) w0)/\
 ∀(n3:Nat) (us4:Nat->Value) (x5:Int) (w6:World),I2 n3 x5 w6->
 Br (decide (x5<((s1.n:Nat):Int)))
 (∃I8:Nat->Int->World->Prop,
 (∃n9,I8 n9 ((aj (x5+1))) w6)/\
 ∀(n9:Nat) (Wb:Nat->Value) (bz:Int) (cM:World),I8 n9 bz cM->
 Br (decide (bz<((s1.n:Nat):Int)))
 (∃J14:Option Addr->Option Addr->World->Prop,
 (ee s1.a x5 s1.n/\∃(cm cp cT cg cr cZ dm dI:Int) (H2:Bool),ag cM.drew (ae s1.a ((x5:Int).toNat*9)) 0 [cm,cp,cT,cg,cr,cZ,dm,dI,H2]/\
 ee s1.a bz s1.n/\∃(eH dQ fk fw gy fI iK gI:Int) (N1:Bool),ag cM.drew (ae s1.a ((bz:Int).toNat*9)) 0 [eH,dQ,fk,fw,gy,fI,iK,gI,N1]/\
 (ah 170 #[.agg #[cm,cp,cT,cg,cr,cZ,dm,dI,H2],.agg #[eH,dQ,fk,fw,gy,fI,iK,gI,N1]] cM.drew (λe ej=>∃(g8 jX m4 gu fX mG:Int),e=Value.tuple #[.agg #[g8,jX,m4],.agg #[gu,fX,mG]]/\
 (∀ik,ik=ej.alloc (.cells #[ab,ab,ab] 28)->
 ∀jm,jm=ik.alloc (.cells #[ab,ab,ab] 28)->
 ∀jI,jI=jm.setRow ej #[g8,jX,m4]->
 ∀il,il=jI.setRow ik #[gu,fX,mG]->
 J14 (some ⟨ej,0,none⟩) (some ⟨ik,0,none⟩) il)/\(∀jV,jV=ej.alloc (.cells #[ab,ab,ab] 28)->
 ∀yN,yN=jV.alloc (.cells #[ab,ab,ab] 28)->
 ∀m7,m7=yN.setRow jV #[g8,jX,m4]->
 ∀jQ,jQ=m7.setRow ej #[gu,fX,mG]->
 J14 (some ⟨jV,0,none⟩) (some ⟨ej,0,none⟩) jQ)))/\(∀fG,fG=cM.drew.alloc (.cells #[ab,ab,ab] 28)->
 (ah 170 #[.agg #[cm,cp,cT,cg,cr,cZ,dm,dI,H2],.agg #[eH,dQ,fk,fw,gy,fI,iK,gI,N1]] fG (λe kv=>∃(sa lr kE im ou ky:Int),e=Value.tuple #[.agg #[sa,lr,kE],.agg #[im,ou,ky]]/\kv.heap[cM.drew.heap.size]? =fG.heap[cM.drew.heap.size]?/\
 ∀ov,ov=kv.alloc (.cells #[ab,ab,ab] 28)->
 ∀l8,l8=ov.setRow cM.drew.heap.size #[sa,lr,kE]->
 ∀jZ,jZ=l8.setRow kv #[im,ou,ky]->
 J14 (some ⟨cM.drew.heap.size,0,none⟩) (some ⟨kv,0,none⟩) jZ))/\(∀sQ,sQ=fG.alloc (.cells #[ab,ab,ab] 28)->
 ah 170 #[.agg #[cm,cp,cT,cg,cr,cZ,dm,dI,H2],.agg #[eH,dQ,fk,fw,gy,fI,iK,gI,N1]] sQ (λe kC=>∃(oq mZ sb sR qp lh:Int),e=Value.tuple #[.agg #[oq,mZ,sb],.agg #[sR,qp,lh]]/\kC.heap[cM.drew.heap.size]? =sQ.heap[cM.drew.heap.size]?/\Kp fG sQ kC/\
 ∀jY,jY=kC.setRow cM.drew.heap.size #[oq,mZ,sb]->
 ∀qo,qo=jY.setRow fG #[sR,qp,lh]->
 J14 (some ⟨cM.drew.heap.size,0,none⟩) (some ⟨fG,0,none⟩) qo)))/\(∀Gx,Gx=cM.drew.alloc (.cells #[ab,ab,ab] 28)->
 (ah 170 #[.agg #[cm,cp,cT,cg,cr,cZ,dm,dI,H2],.agg #[eH,dQ,fk,fw,gy,fI,iK,gI,N1]] Gx (λe kx=>∃(m8 nc mH pB tX wE:Int),e=Value.tuple #[.agg #[m8,nc,mH],.agg #[pB,tX,wE]]/\kx.heap[cM.drew.heap.size]? =Gx.heap[cM.drew.heap.size]?/\
 ∀sK,sK=kx.alloc (.cells #[ab,ab,ab] 28)->
 ∀lX,lX=sK.setRow kx #[m8,nc,mH]->
 ∀N3,N3=lX.setRow cM.drew.heap.size #[pB,tX,wE]->
 J14 (some ⟨kx,0,none⟩) (some ⟨cM.drew.heap.size,0,none⟩) N3))/\(∀r6,r6=Gx.alloc (.cells #[ab,ab,ab] 28)->
 ah 170 #[.agg #[cm,cp,cT,cg,cr,cZ,dm,dI,H2],.agg #[eH,dQ,fk,fw,gy,fI,iK,gI,N1]] r6 (λe qq=>∃(sH uT yI Ay J8 qi:Int),e=Value.tuple #[.agg #[sH,uT,yI],.agg #[Ay,J8,qi]]/\qq.heap[cM.drew.heap.size]? =r6.heap[cM.drew.heap.size]?/\Kp Gx r6 qq/\
 ∀JG,JG=qq.setRow Gx #[sH,uT,yI]->
 ∀kN,kN=JG.setRow cM.drew.heap.size #[Ay,J8,qi]->
 J14 (some ⟨Gx,0,none⟩) (some ⟨cM.drew.heap.size,0,none⟩) kN))))/\
 ∀awV:Nat->Value,∀(p91 p92:Option Addr) (yT:World),J14 p91 p92 yT->
 ∃J94:World->Prop,
 (ee s1.a x5 s1.n/\∃(CE CF CG Kb H0 rq pq tY:Int) (MV:Bool),ag yT.drew (ae s1.a ((x5:Int).toNat*9)) 0 [CE,CF,CG,Kb,H0,rq,pq,tY,MV]/\
 ∃(tZ sL qk:Int),ag yT.drew p91 0 [tZ,sL,qk]/\
 ah 171 #[.agg #[CE,CF,CG,Kb,H0,rq,pq,tY,MV],a0,.agg #[tZ,sL,qk]] yT.drew (λe AE=>∃(GL sM kr qm jn yL Cf Wc:Int) (Ca:Bool),e=Value.agg #[GL,sM,kr,qm,jn,yL,Cf,Wc,Ca]/\
 ee s1.a x5 s1.n/\(((ae s1.a ((x5:Int).toNat*9))).isSome=true/\Wr AE (ae s1.a ((x5:Int).toNat*9)) 9)/\(∀JF,JF=aG AE (ae s1.a ((x5:Int).toNat*9)) [GL,sM,kr,qm,jn,yL,Cf,Wc,Ca]->
 J94 JF)))/\
 ∀at9:Nat->Value,∀(rA:World),J94 rA->
 ee s1.a bz s1.n/\∃(aau Q5 V3 Gz MW adu GA GB:Int) (ZP:Bool),ag rA.drew (ae s1.a ((bz:Int).toNat*9)) 0 [aau,Q5,V3,Gz,MW,adu,GA,GB,ZP]/\
 ∃(MX MY MZ:Int),ag rA.drew p92 0 [MX,MY,MZ]/\
 ah 171 #[.agg #[aau,Q5,V3,Gz,MW,adu,GA,GB,ZP],a0,.agg #[MX,MY,MZ]] rA.drew (λe JO=>∃(akE adv adw adx ady adz GD M1:Int) (akF:Bool),e=Value.agg #[akE,adv,adw,adx,ady,adz,GD,M1,akF]/\
 ee s1.a bz s1.n/\(((ae s1.a ((bz:Int).toNat*9))).isSome=true/\Wr JO (ae s1.a ((bz:Int).toNat*9)) 9)/\(∀oD,oD=aG JO (ae s1.a ((bz:Int).toNat*9)) [akE,adv,adw,adx,ady,adz,GD,M1,akF]->
 ∃n13,n13<n9/\I8 n13 ((aj (bz+1))) oD)))
 (∃n7,n7<n3/\I2 n7 ((aj (x5+1))) cM))
 (R s1 w6))):ah 117 #[a0,a1] w R:=
 cq ⟨[(6,⟨[(7,.int .i64)],[],[]⟩),(3,⟨[(14,.int .i64)],[],[]⟩)],[(10,⟨[],[],[]⟩),(9,⟨[(8,.ptr),(9,.ptr)],[],[]⟩)],[]⟩ Tryz.func117 h
open Go.dK Go.bf Go.Code Go.gw Go.fV Go.ku
theorem zA {w v:World} {o:Obj} (e:v=w.alloc o):v.heap.size=w.heap.size+1:=by rw [e];simp
theorem zR {w v:World} {g:Nat} {c:Array Value} (e:v=w.setRow g c):v.heap.size=w.heap.size:=by rw [e];simp
theorem KZ {v:Value} {V:Ce->Int} {w:World} (hV:Tl v V w) (hv:ke v=[]) (b:Bx):ah 234 #[v,qG b] w λe w'=>e=Value.bool (jN V b λx=>x==4)/\Ext w w':=by apply Iz.vc;intro w0 e0;have x0:=aL e0;have z0:=zA e0;refine (Dy (hV.ext x0) hv b (.func (.func 274) #[] #[]) rfl (λx=>x==4) λx w'=>cU (by kernel_rfl) rfl (IA.vc ⟨rfl,Ext.cQ _⟩)).mono ?_;rintro e w1 ⟨rfl,x1⟩;exact ⟨_,rfl,x1.heap aa,rfl,x0.tr x1⟩
theorem TJ {v:Value} {V:Ce->Int} {w:World} (hV:Tl v V w) (hv:ke v=[]) (b:Bx):ah 235 #[v,qG b] w λe w'=>e=Value.bool (jN V b qH)/\Ext w w':=by
 apply Tv.vc;intro w0 e0;have x0:=aL e0;have z0:=zA e0;refine (Dy (hV.ext x0) hv b (.func (.func 202) #[] #[]) rfl qH λx w'=>cU (by kernel_rfl) rfl ((nL x w').mono ?_)).mono ?_
 ·rintro e w'' ⟨rfl,rfl⟩;exact ⟨rfl,Ext.cQ _⟩
 rintro e w1 ⟨rfl,x1⟩;exact ⟨_,rfl,x1.heap aa,rfl,x0.tr x1⟩
theorem uj (n:Int) (w:World):ah 260 #[n] w λe w'=>e=Value.tuple #[.int .u64 (max (dP n) (-(dP n))),.bool (decide (dP n<0))]/\w'=w:=by
 apply O8.vc;refine (gg n w).mono ?_;rintro e w0 ⟨rfl,rfl⟩;have hc:=jG n;refine ⟨_,rfl,Br.mk (λh=> ?_) (λh=> ?_)⟩
 ·have h':dP n<0:=by simpa using h
  rw [wI,vE aa,h];exact ⟨by rw [show max (dP n) (-(dP n))=0-dP n from by omega],rfl⟩
 ·have h':¬dP n<0:=by simpa using h
  rw [vE aa,h];exact ⟨by rw [show max (dP n) (-(dP n))=dP n from by omega],rfl⟩
theorem RP {x:Int} (h:0<=x/\x<4294967296):nB .u64 x 4294967295=x:=by
 unfold nB;have e:(BitVec.ofInt IntKind.u64.bits x &&& BitVec.ofInt IntKind.u64.bits 4294967295).toNat=x.toNat:=by
  show (BitVec.ofInt 64 x &&& BitVec.ofInt 64 4294967295).toNat=_;rw [BitVec.toNat_and];have h1:(BitVec.ofInt 64 4294967295).toNat=2 ^ 32-1:=by decide
  rw [h1,Nat.and_two_pow_sub_one_eq_mod,BitVec.toNat_ofInt];omega
 rw [e,Int.toNat_of_nonneg h.1];exact vE aa
theorem p32:(2 ^(min (32:Int).toNat 64):Int)=4294967296:=by decide
theorem Pk (x:Int) (h:0<=x/\x<=65536) (w:World):ah 273 #[.int .u64 x,.int .u64 16384] w λe w'=>e=Value.tuple #[.int .u64 0,.int .u64 (x*16384)]/\w'=w:=by
 apply BC.vc;have f:∀y:Int,y.fdiv 4294967296=y / 4294967296:=λy=>rM _ aE
 have q1:x / 4294967296=0:=by omega
 have q3:x*16384 / 4294967296=0:=by omega
 rw [p32,RP (x:=x) aa,RP (x:=16384) aa];simp only [f];rw [q1,show (16384:Int) / 4294967296=0 from by decide,vE (n:=x*16384) aa,q3,Int.zero_mul,Int.zero_mul,Int.mul_zero];exact ⟨congrArg (λn=>Ending.returned (.tuple #[.int .u64 n,.int .u64 (x*16384)])) aE,trivial⟩
theorem ab7 (q:Int) (hq:0<=q/\q<=100000000000000) (below rest:Bool) {c0 c1:Nat} {w:World} {τ τ':TypeId} (h0:Row w c0 [.bool below] τ) (h1:Row w c1 [.bool rest] τ'):
  ah 285 #[.int .u64 q,c0,c1] w λe w'=>e=Value.int .u64 (if below=true/\rest=true then q+1 else q)/\w'=w:=by
 apply FU.vc;refine ⟨below,h0.at 0 rfl,?_⟩
 cases below with
 |false=>exact ⟨rfl,rfl⟩
 |true=>
  refine ⟨rest,h1.at 0 rfl,?_⟩
  cases rest with
  |false=>exact ⟨rfl,rfl⟩
  |true=>exact ⟨by rw [vE aa];rfl,rfl⟩
theorem Dz (q:Int) (hq:0<=q/\q<=100000000000000) (rest below:Bool) (w:World):ah 261 #[.int .u64 q,rest,below] w λe w'=>e=Value.int .i64 (if below=true then -(if rest=true then q+1 else q) else q)/\Ext w w':=by
 apply KL.vc;intro w0 e0 w1 e1;have x0:=aL e0;have z0:=zA e0;have r0:Row w0 w [.bool rest] 4:=Row.nw e0;have x1:=aL e1;have r1:Row w1 w0 [.bool below] 4:=Row.nw e1;refine eI (by simp;omega) ⟨below,r1.at 0 rfl,?_⟩
 cases below with
 |false=>exact ⟨by rw [wI];rfl,x0.tr x1⟩
 |true=>
  refine (ab7 q hq true rest r1 (r0.ext x1)).mono ?_;rintro e w7 ⟨rfl,rfl⟩;refine ⟨_,rfl,?_⟩;have e:(if (true=true/\rest=true) then q+1 else q)=if rest=true then q+1 else q:=by simp
  rw [e];have hb:0<=(if rest=true then q+1 else q)/\(if rest=true then q+1 else q)<=100000000000001:=by split<;>omega
  generalize (if rest=true then q+1 else q)=y at*;rw [aK (n:=y) (by unfold bS;omega),wI];exact ⟨by rw [if_pos rfl,Int.zero_sub],x0.tr x1⟩
theorem XI (n:Int) (h: -65536<=n/\n<=65536) (w:World):ah 232 #[n,(16384:Int)] w λe w'=>e=Value.int .i64 (n / 4)/\Ext w w':=by
 apply Tw.vc;refine (uj n w).mono ?_;rintro e w0 ⟨rfl,rfl⟩;have hc:dP n=n:=qO aa;have hd:dP 16384=16384:=by decide
 rw [hc];refine ⟨_,_,rfl,(uj 16384 w0).mono ?_⟩;rintro e w3 ⟨rfl,rfl⟩;rw [hd];refine ⟨_,_,rfl,(Pk (max n (-n)) aa w3).mono ?_⟩;rintro e w6 ⟨rfl,rfl⟩;refine ⟨_,_,rfl,eI rfl ?_⟩;have hf:(max n (-n)*16384).fdiv (2 ^(min (16:Int).toNat 64))=max n (-n) / 4:=by rw [p16,rM _ aE];omega
 have hr:Int.tmod (max n (-n)*16384) 65536=max n (-n) % 4*16384:=by rw [Int.tmod_eq_emod_of_nonneg aa];omega
 rw [hf,hr];refine (Dz (max n (-n) / 4) aa _ _ w6).mono ?_;rintro e aW ⟨rfl,bz⟩;refine ⟨_,rfl,?_,bz⟩;have hs:(!(decide (n<0)==decide ((16384:Int)<0)))=decide (n<0):=by
  by_cases q:n<0
  ·rw [decide_eq_true q];rfl
  ·rw [decide_eq_false q];rfl
 rw [hs];congr 2;by_cases q:n<0
 ·rw [decide_eq_true q,if_pos rfl];by_cases q2:max n (-n) % 4=0
  ·rw [q2];show -(max n (-n) / 4)=n / 4;omega
  ·have:(max n (-n) % 4*16384 !=0)=true:=by simp;omega
   rw [this,if_pos rfl];omega
 ·rw [decide_eq_false q];show max n (-n) / 4=n / 4;omega
theorem AZ (n:Int) (w:World):ah 231 #[n] w λe w'=>e=Value.int .i64 (Hj n)/\Ext w w':=by
 apply xt.vc;have e:(if 65536<(if (-65536)>n then (-65536) else n) then 65536 else (if (-65536)>n then (-65536) else n))=min (max n (-65536)) 65536:=by
  repeat' split
  all_goals omega
 rw [e];refine (XI _ aa w).mono ?_;rintro e w1 ⟨rfl,x1⟩;exact ⟨_,rfl,rfl,x1⟩
theorem Pm (b:Bx) (v:Ce) (w:World):ah 300 #[qG b,ea v] w λe w'=>e=(qG (XJ b v))/\Ext w w':=by apply Xx.vc;intro w0 e0 w1 e1 w2 e2;have x0:=aL e0;have z0:=zA e0;have r0:Row w0 w (fQ b) bE:=Row.nw e0;have x1:=aL e1;have z1:=zA e1;have r1:Row w1 w0 (du v) eC:=Row.nw e1;have x2:Ext w1 w2.drew:=(aL e2).drew;have z2:w2.drew.heap.size=w1.heap.size+1:=(zA e2:w2.heap.size=_);refine (iS b.1 v w2.drew).mono ?_;rintro e w3 ⟨rfl,x3⟩;have z3:=x3.size;refine ⟨_,_,_,rfl,x3.heap aa,x3.heap aa,x3.heap aa,Lo.wv (r1.ext (x2.tr x3)),qL (r0.ext (x1.tr (x2.tr x3))) rfl rfl rfl,(iS b.2 v w3).mono ?_⟩;rintro e w7 ⟨rfl,x7⟩;have z7:=x7.size;exact ⟨_,_,_,rfl,x7.heap aa,x7.heap aa,x7.heap aa,λaW FA=>⟨rfl,(x0.tr (x1.tr (x2.tr (x3.tr x7)))).af FA aa⟩⟩
theorem Pn (b:Bx) (ax k:Int) (hk:bS (k+1)) (w:World):ah 312 #[qG b,ax,k] w λe w'=>e=(qG (DA b ax k))/\Ext w w':=by apply KI.vc;rw [aK hk];intro w0 e0 w1 e1;have x0:=aL e0;have z0:=zA e0;have r0:Row w0 w (fQ b) bE:=Row.nw e0;have x1:Ext w0 w1.drew:=(aL e1).drew;have z1:w1.drew.heap.size=w0.heap.size+1:=(zA e1:w1.heap.size=_);have r1:=r0.ext x1;refine (qP k w1.drew).mono ?_;rintro e w2 ⟨rfl,rfl⟩;refine ⟨_,rfl,rfl,rfl,qL r1 rfl rfl rfl,qL r1 rfl rfl rfl,(iC b.1 ax (px k) w1.drew).mono ?_⟩;rintro e w4 ⟨rfl,x4⟩;have z4:=x4.size;refine ⟨_,_,_,rfl,x4.heap aa,x4.heap aa,qL (r1.ext x4) rfl rfl rfl,(qP (k+1) w4).mono ?_⟩;rintro e w8 ⟨rfl,rfl⟩;refine ⟨_,rfl,rfl,rfl,qL (r1.ext x4) rfl rfl rfl,(iC b.2 ax (px (k+1)) _).mono ?_⟩;rintro e bD ⟨rfl,bj⟩;have Sr:=bj.size;exact ⟨_,_,_,rfl,bj.heap aa,bj.heap aa,λbK uy=>⟨rfl,(x0.tr (x1.tr (x4.tr bj))).af uy aa⟩⟩
abbrev qR (b:Bx) (ax d:Int):List (LV):=(eF b ax d).map λx=> [.int .i64 x.1,.int .i64 x.2]
abbrev aej (g:Nat):Value:=.func (.func 322) #[] #[g,.pointer (some ⟨g+1,0,none⟩),.pointer (some ⟨g+2,0,none⟩)]
theorem Ln (b:Bx) (ax d:Int) (w:World):ah 311 #[qG b,ax,d] w λe w'=>e=(aej w)/\Row w' w (fQ b) bE/\Row w' (w.heap.size+1) [ax] 3/\Row w' (w.heap.size+2) [d] 3/\Ext w w':=by apply IB.vc;intro w0 e0 w1 e1 w2 e2;have z0:=zA e0;have z1:=zA e1;have r0:Row w0 w (fQ b) bE:=Row.nw e0;have r1:Row w1 w0 [ax] 3:=Row.nw e1;have r2:Row w2 w1 [d] 3:=Row.nw e2;have x1:=aL e1;have x2:=aL e2;rw [z0] at r1;rw [z1,z0] at r2;exact ⟨by rw [z1,z0],r0.ext (x1.tr x2),r1.ext x2,r2,(aL e0).tr (x1.tr x2)⟩
theorem Ja {k:Int} (h: -2147483648<=k/\k<=2147483648):px k=k*65536:=by unfold px;omega
theorem Lp (b:Bx) (ax d:Int) (hb:dh b 100000000000000) (hd: -4194304<=d/\d<=4194304) (g:Nat) (W0:World) (h0:Row W0 g (fQ b) bE) (h1:Row W0 (g+1) [ax] 3) (h2:Row W0 (g+2) [d] 3):
  Iter Tryz.prog (aej g) W0 (λi=>i=g\/i=g+1\/i=g+2) (qR b ax d):=by
 refine ⟨⟨_,_,_,rfl,by kernel_rfl⟩,?_⟩;intro y B J Jx F0 W hB hsJ hsX uR hRd hround hJ0;refine cU (by kernel_rfl) (by rfl) ?_;apply Dp.vc;have rows:∀{wr:World},(∀i,(i=g\/i=g+1\/i=g+2)->wr.heap[i]? =W0.heap[i]?)->Row wr g (fQ b) bE/\Row wr (g+1) [ax] 3/\Row wr (g+2) [d] 3:=λh=>⟨h0.same (h _ (.inl rfl)),h1.same (h _ (.inr (.inl rfl))),h2.same (h _ (.inr (.inr rfl)))⟩
 obtain ⟨q0,q1,q2⟩:=rows λi hi=>(hRd i hi).2.2
 have xd:=Ext.dr W;have WU:=hb.ax aE ax;refine ⟨_,_,_,qL (o:=0) (q0.ext xd) rfl rfl rfl,_,(q1.ext xd).at 0 rfl,_,_,_,qL (o:=3) (q0.ext xd) rfl rfl rfl,_,(q1.ext xd).at 0 rfl,(dj b.1 ax W.drew).mono ?_⟩;rintro e w8 ⟨rfl,x8⟩;refine ⟨_,rfl,Lo.wv (q1.ext (xd.tr x8)),qL (o:=3) (q0.ext (xd.tr x8)) rfl rfl rfl,(dj b.2 ax w8).mono ?_⟩;rintro e bD ⟨rfl,bj⟩;have xW:=xd.tr (x8.tr bj);refine ⟨_,rfl,_,(q2.ext xW).at 0 rfl,?_⟩;obtain ⟨Q,hQ⟩:∃Q:Nat->World->Prop,Q=λk wr=>∃F,J k F wr/\∀i,(i=g\/i=g+1\/i=g+2)->¬F i/\i<wr.heap.size/\wr.heap[i]? =W0.heap[i]? :=⟨_,rfl⟩
 have ext:∀{k:Nat} {wr wr':World},Q k wr->Ext wr wr'->W.heap.size<=wr->Q k wr':=λ{k wr wr'} h x hz=>by rw [hQ] at h ⊢;obtain ⟨F,hJ,hk⟩:=h;exact ⟨F,hsJ _ _ _ _ hJ (Below.mono x aa) λi hi=>x.heap (uR _ _ _ hJ i hi),λi hi=>⟨(hk i hi).1,j9 (hk i hi).2.1 x.size,(x.heap (hk i hi).2.1).trans (hk i hi).2.2⟩⟩
 have init:Q 0 bD:=by refine ext (wr:=W) ?_ xW (aB _);rw [hQ];exact ⟨F0,hJ0,hRd⟩
 have qrow:∀{k:Nat} {wr:World},Q k wr->Row wr (g+2) [d] 3:=λh=>by rw [hQ] at h;obtain ⟨F,-,hk⟩:=h;exact h2.same (hk _ (.inr (.inr rfl))).2.2
 have round:∀{k:Nat} {wr:World} {x:LV},W.heap.size<=wr->(qR b ax d)[k]? =some x->Q k wr->cw Tryz.prog y x wr λe w'=>W.heap.size<=w'.heap.size/\((e=true/\Q (k+1) w')\/(e=false/\∃F',Jx () F' w')):=λ{k wr x} hz hx h=>by
  rw [hQ] at h ⊢;obtain ⟨F,hJ,hk⟩:=h;refine dq (hround _ _ _ _ hx hJ) ?_;rintro e w' (⟨rfl,F2,Rk,gC⟩|⟨rfl,F2,Rk,gC⟩)
  ·refine ⟨by have:=gC.size;omega,.inl ⟨rfl,F2,Rk,λi hi=> ?_⟩⟩;obtain ⟨p1,p2,p3⟩:=hk i hi;refine ⟨λhf=> ?_,j9 p2 gC.size,(gC.same i p2 p1).trans p3⟩;rcases gC.sub i hf with hf|hf
   ·exact p1 hf
   ·omega
  ·exact ⟨by have:=gC.size;omega,.inr ⟨rfl,F2,Rk⟩⟩
 have fin:∀{wr:World},Q (qR b ax d).length wr->∃F',J (qR b ax d).length F' wr:=λh=>by rw [hQ] at h;obtain ⟨F,hJ,-⟩:=h;exact ⟨F,hJ⟩
 have zW:=xW.size;apply Br.mk<;>intro Aw
 ·have Aw:0<d:=by simpa using Aw
  have hL:eF b ax d=(List.range (Yx (di b.2 ax) d (cW (di b.2 ax+65535)))).map λi:Nat=>(cW (di b.2 ax+65535)+i,(cW (di b.2 ax+65535)+i)*65536-di b.2 ax):=by unfold eF;rw [if_pos Aw]
  have Fz:∀{k:Nat},k<Yx (di b.2 ax) d (cW (di b.2 ax+65535))->(qR b ax d)[k]? =some [.int .i64 (cW (di b.2 ax+65535)+k),.int .i64 ((cW (di b.2 ax+65535)+k)*65536-di b.2 ax)]:=λ{k} hk=>by unfold qR;rw [hL,aS,aS,List.getElem?_range hk];rfl
  have dG:(qR b ax d).length=Yx (di b.2 ax) d (cW (di b.2 ax+65535)):=by unfold qR;rw [hL];simp
  have ET:cW (di b.2 ax+65535)=(di b.2 ax+65535) / 65536:=by unfold cW;rw [qO aa]
  generalize qR b ax d=xs at*;generalize di b.2 ax=top at*;generalize di b.1 ax=low at*;rw [aK (n:=top+65536) (by unfold bS;omega),aK (n:=top+65536-1) (by unfold bS;omega),show top+65536-1=top+65535 from by omega];refine (nN (top+65535) bD).mono ?_;rintro e bF ⟨rfl,aq6⟩;subst aq6;rw [ET] at Fz dG ⊢;have aaV:∀i:Nat,((top+65535) / 65536+(i:Int))*65536<top+d ↔ i<Yx top d ((top+65535) / 65536):=λi=>acH aa
  have hn:Yx top d ((top+65535) / 65536)<=100:=by unfold Yx;omega
  generalize Yx top d ((top+65535) / 65536)=N at*;refine ⟨_,rfl,λn x wr=>∃k:Nat,x=(top+65535) / 65536+k/\k+n=N/\Q k wr/\W.heap.size<=wr,⟨N,0,by omega,by omega,init,zW⟩,?_⟩;rintro n us x wr ⟨k,rfl,hk,hq,zr⟩;have xr:=Ext.dr wr;have hqd:=ext hq xr zr;have zrd:W.heap.size<=wr.drew.heap.size:=zr;refine ⟨_,(qrow hqd).at 0 rfl,(qP _ wr.drew).mono ?_⟩;rw [Ja aa];rintro e cL ⟨rfl,aq7⟩;subst aq7;refine ⟨_,rfl,Lo.wv (qrow hqd),?_⟩;rw [aK (n:=top+d) (by unfold bS;omega)];refine Br.mk (λhc=>(qP _ wr.drew).mono ?_) (λhc=> ?_)
  ·have hc:=(aaV k).1 (by simpa using hc);rw [Ja aa];rintro e fH ⟨rfl,aq8⟩;subst aq8;have wq:aj (((top+65535) / 65536+(k:Int))*65536-top)=((top+65535) / 65536+(k:Int))*65536-top:=wI;have wk:aj ((top+65535) / 65536+(k:Int)+1)=(top+65535) / 65536+((k+1:Nat):Int):=by rw [wI];omega
   refine ⟨_,rfl,?_⟩;rw [wq];refine dq (round zrd (Fz hc) hqd) ?_;rintro e eG ⟨z26,⟨rfl,WD⟩|⟨rfl,hx2⟩⟩
   ·exact ⟨true,rfl,Br.mk (λh=>by cases h) (λ_=>⟨n-1,by omega,k+1,wk,by omega,WD,z26⟩)⟩
   ·exact ⟨false,rfl,Br.mk (λ_=>⟨⟨_,rfl⟩,.inr hx2⟩) (λh=>by cases h)⟩
  ·have hc:¬k<N:=λq=>absurd ((aaV k).2 q) (by simpa using hc)
   have e:k=N:=by omega
   subst e;rw [<-dG] at hqd;exact ⟨⟨_,rfl⟩,.inl (fin hqd)⟩
 ·have Aw:¬0<d:=by simpa using Aw
  have hL:eF b ax d=(List.range (tE (di b.1 ax) d (cW (di b.1 ax)-1))).map λi:Nat=>(cW (di b.1 ax)-1-i,(cW (di b.1 ax)-1-i+1)*65536-di b.1 ax):=by unfold eF;rw [if_neg Aw]
  have Fz:∀{k:Nat},k<tE (di b.1 ax) d (cW (di b.1 ax)-1)->(qR b ax d)[k]? =some [.int .i64 (cW (di b.1 ax)-1-k),.int .i64 ((cW (di b.1 ax)-1-k+1)*65536-di b.1 ax)]:=λ{k} hk=>by unfold qR;rw [hL,aS,aS,List.getElem?_range hk];rfl
  have dG:(qR b ax d).length=tE (di b.1 ax) d (cW (di b.1 ax)-1):=by unfold qR;rw [hL];simp
  have ET:cW (di b.1 ax)=di b.1 ax / 65536:=by unfold cW;rw [qO aa]
  generalize qR b ax d=xs at*;generalize di b.2 ax=top at*;generalize di b.1 ax=low at*;refine (nN low bD).mono ?_;rintro e gn ⟨rfl,aq9⟩;subst aq9;rw [ET] at Fz dG ⊢;have aaV:∀i:Nat,low+d<(low / 65536-1-(i:Int)+1)*65536 ↔ i<tE low d (low / 65536-1):=λi=>UH
  have hn:tE low d (low / 65536-1)<=100:=by unfold tE;omega
  generalize tE low d (low / 65536-1)=N at*;have ws:aj (low / 65536-1)=low / 65536-1:=wI;refine ⟨_,rfl,?_⟩;rw [ws];refine ⟨λn x wr=>∃k:Nat,x=low / 65536-1-k/\k+n=N/\Q k wr/\W.heap.size<=wr,⟨N,0,by omega,by omega,init,zW⟩,?_⟩;rintro n us x wr ⟨k,rfl,hk,hq,zr⟩;have xr:=Ext.dr wr;have hqd:=ext hq xr zr;have zrd:W.heap.size<=wr.drew.heap.size:=zr;have w1:aj (low / 65536-1-(k:Int)+1)=low / 65536-1-(k:Int)+1:=wI;rw [w1];refine ⟨_,(qrow hqd).at 0 rfl,(qP _ wr.drew).mono ?_⟩;rw [Ja aa];rintro e gJ ⟨rfl,ara⟩;subst ara;refine ⟨_,rfl,Lo.wv (qrow hqd),?_⟩;rw [aK (n:=low+d) (by unfold bS;omega)];refine Br.mk (λhc=>(qP _ wr.drew).mono ?_) (λhc=> ?_)
  ·have hc:=(aaV k).1 (by simpa using hc);rw [Ja aa];rintro e jD ⟨rfl,ahB⟩;subst ahB;have wq:aj ((low / 65536-1-(k:Int)+1)*65536-low)=(low / 65536-1-(k:Int)+1)*65536-low:=wI;have wk:aj (low / 65536-1-(k:Int)-1)=low / 65536-1-((k+1:Nat):Int):=by rw [wI];omega
   refine ⟨_,rfl,?_⟩;rw [wq];refine dq (round zrd (Fz hc) hqd) ?_;rintro e jm ⟨z41,⟨rfl,WD⟩|⟨rfl,hx2⟩⟩
   ·exact ⟨true,rfl,Br.mk (λh=>by cases h) (λ_=>⟨n-1,by omega,k+1,wk,by omega,WD,z41⟩)⟩
   ·exact ⟨false,rfl,Br.mk (λ_=>⟨⟨_,rfl⟩,.inr hx2⟩) (λh=>by cases h)⟩
  ·have hc:¬k<N:=λq=>absurd ((aaV k).2 q) (by simpa using hc)
   have e:k=N:=by omega
   subst e;rw [<-dG] at hqd;exact ⟨⟨_,rfl⟩,.inl (fin hqd)⟩
theorem XX {b:Bx} {ax d:Int} {n:Nat} {x y:Int} (h:(qR b ax d)[n]? =some [.int .i64 x,.int .i64 y]):(eF b ax d)[n]? =some (x,y):=by
 unfold qR at h;rw [aS] at h
 cases hc:(eF b ax d)[n]? with
 |none=>rw [hc] at h;cases h
 |some c=>
  rw [hc] at h;simp only [Option.map_some] at h;injection h with h;injection h with h1 h;injection h with h2 _;injection h1 with _ h1;injection h2 with _ h2;exact congrArg some (Prod.ext h1 h2)
theorem aoo (d:Int):(if 4194304<(if (-4194304)>d then (-4194304) else d) then 4194304 else (if (-4194304)>d then (-4194304) else d))=nQ d:=by
 unfold nQ
 repeat' split
 all_goals omega
theorem PA {v:Value} {V:Ce->Int} {w:World} (hV:Tl v V w) (hv:ke v=[]) (b:Bx) (hb:dh b 100000000000000) (ax d:Int) (hax:0<=ax/\ax<3):
  ah 299 #[v,qG b,ax,d] w λe w'=>e=Value.tuple #[.int .i64 (oT V aI b ax d).1,.bool (oT V aI b ax d).2]/\Ext w w':=by
 apply O5.vc;rw [hv,pF,aoo];have hd:=IP d;intro w0 e0 w1 e1 w2 e2 w3 e3 w4 e4;have x0:=aL e0;have z0:=zA e0;have r0:∃τ,Row w0 w [v] τ:=⟨_,by rw [e0];exact Row.new w [_] _⟩;have x1:=aL e1;have z1:=zA e1;have x2:=aL e2;have z2:=zA e2;have x3:=aL e3;have z3:=zA e3;have x4:=aL e4;have z4:=zA e4;have Bq:=x0.tr (x1.tr (x2.tr (x3.tr x4)));obtain ⟨τ0,r0⟩:=r0;refine eI (by simp;omega) (eI (by simp;omega) ((Ln b ax (nQ d) w4).mono ?_));rintro e w9 ⟨rfl,hb9,ha9,hd9,x9⟩;have z9:=x9.size;have l9:=hd9.lt;have Na:=Bq.tr x9;have r9:=r0.ext (x1.tr (x2.tr (x3.tr (x4.tr x9))));refine ⟨_,rfl,x9.heap aa,x9.heap aa,x9.heap aa,x9.heap aa,x9.heap aa,qR b ax (nQ d),λi=>i=w4.heap.size\/i=w4.heap.size+1\/i=w4.heap.size+2,λ_=>False,
  λn F y bb w'=>(∀i,¬F i)/\(∀x ∈(eF b ax (nQ d)).take n,jN V (DA b ax x.1) aI=false)/\Mod (λi=>w9.heap.size<=i) w9 w',
  λo F y bb w'=>(∀i,¬F i)/\(y,bb)=oT V aI b ax d/\Mod (λi=>i=w2.heap.size\/i=w3.heap.size\/w9.heap.size<=i) w9 w',?_,?_,?_,λn F y bb w' h i hi=>(h.1 i hi).elim,λo F y bb w' h i hi=>(h.1 i hi).elim,λi hi=> ?_,λyN wJ=> ?_,?_,?_,?_⟩
 ·intro x hx;obtain ⟨c,-,rfl⟩:=bg.1 hx;exact ⟨_,_,rfl⟩
 ·rintro n F y bb ed cL ⟨h1,h2,h3⟩ kF -;exact ⟨h1,h2,h3.tr ⟨kF.os,kF.tape,kF.output,kF.size,λi hi hn=>kF.block i (Nat.lt_of_not_le hn)⟩ λi hi=> .inl hi⟩
 ·rintro o F y bb ed cL ⟨h1,h2,h3⟩ kF -;exact ⟨h1,h2,h3.tr ⟨kF.os,kF.tape,kF.output,kF.size,λi hi hn=>kF.block i (Nat.lt_of_not_le hn)⟩ λi hi=> .inl (.inr (.inr hi))⟩
 ·rcases hi with rfl|rfl|rfl<;>exact ⟨by omega,id,by omega,by omega,by omega,by omega,by omega,trivial⟩
 ·exact ⟨Lp b ax (nQ d) hb hd _ yN (hb9.same (wJ.ext.block _ aa)) (ha9.same (wJ.ext.block _ aa)) (hd9.same (wJ.ext.block _ aa)),rfl,rfl,rfl,λi h=>h,λc hc=>by simp at hc,Mod.aD wJ.ext⟩
 ·rintro n F us y50 b51 kE im ov hx hI;have z56:=hI.2.2.size;refine ⟨Below.refl _ _,λl8 fN aaB=> ?_⟩;obtain ⟨hF,mV,hM⟩:=aaB;have zr:=fN.size;have hc:=XX hx;have rF:=aZ hc;have mW:=Lq hb hd _ rF;have z57:=hM.size;have ht:(eF b ax (nQ d)).take (n+1)=(eF b ax (nQ d)).take n++ [(kE,im)]:=by rw [dE,hc];rfl
  have zd:=lv l8;have aqb:Tl v V l8.drew:=by obtain ⟨D,hD1,hD2⟩:=hV;refine ⟨D,λi hi=>by have:=hD1 i hi;have:=Na.size;omega,λw' hk=>hD2 w' λi hi=>(hk i hi).trans ?_⟩;have:=hD1 i hi;have:=Na.size;exact (hM.same i aa aa).trans (Na.heap aa)
  refine (Pn b ax kE (by simp only at mW;unfold bS;omega) l8.drew).mono ?_;rintro e kC ⟨rfl,jc⟩;have z60:=jc.size;have aaC:=hM.trans (Mod.aD ((Ext.dr l8).tr jc));refine ⟨_,_,_,_,_,_,rfl,jc.heap aa,jc.heap aa,jc.heap aa,jc.heap aa,jc.heap aa,Lo.wv (aaC.row r9 aa),(mO (aqb.ext jc) hv (DA b ax kE)).mono ?_⟩;rintro e gL ⟨rfl,mZ⟩;have z62:=mZ.size;have Nd:=aaC.trans (Mod.aD mZ);refine ⟨_,rfl,mZ.heap aa,mZ.heap aa,mZ.heap aa,mZ.heap aa,mZ.heap aa,Br.mk (λhq=>λoX We E7 Wf=> ?_) (λhq=> ?_)⟩
  ·have hax2:oT V aI b ax d=(im,true):=by
    unfold oT;have hf:(eF b ax (nQ d)).find? (λx=>jN V (DA b ax x.1) aI)=some (kE,im):=by
     have hsplit:eF b ax (nQ d)=(eF b ax (nQ d)).take n++(kE,im)::(eF b ax (nQ d)).drop (n+1):=by
      have h1:=List.take_append_drop n (eF b ax (nQ d));have h2:(eF b ax (nQ d)).drop n=(kE,im)::(eF b ax (nQ d)).drop (n+1):=by have hl:=(cR.1 hc);rw [List.drop_eq_getElem_cons hl.1,hl.2]
      rw [h2] at h1;exact h1.symm
     rw [hsplit,List.find?_append,List.find?_eq_none.2 λx hx=>by rw [mV x hx];decide];simp [hq]
    rw [hf]
   have apX:E7.heap.size=gL.heap.size:=by rw [Wf,setRow_size,We,setRow_size]
   have ahf:∀i,i≠w2.heap.size->i≠w3.heap.size->E7.heap[i]? =gL.heap[i]? :=λi h1 h2=>by rw [Wf,setRow_other _ _ _ _ h2,We,setRow_other _ _ _ _ h1]
   have aaD:Mod (λi=>i=w2.heap.size\/i=w3.heap.size) gL E7:=⟨by rw [Wf,We];rfl,by rw [Wf,We];rfl,by rw [Wf,We];rfl,by omega,λi _ hn=>ahf i (λq=>hn (.inl q)) (λq=>hn (.inr q))⟩;refine ⟨rfl,λ_=>False,⟨rfl,rfl,rfl,λi h=>h,hax2.symm,(Nd.mono λi _ h=> .inr (.inr h)).trans (aaD.mono λi _ h=>h.elim .inl λh=> .inr (.inl h))⟩,?_⟩;have Fi:=((Mod.aD (F:=λi=>i=w2.heap.size\/i=w3.heap.size) (((Ext.dr l8).tr jc).tr mZ))).trans aaD;refine Step.late ⟨λi hi=> ?_,Fi.size,λi hi hn=>Fi.same i hi λq=>hn (.inr ?_)⟩
   ·rcases hi with h|h
    ·exact h.elim
    ·exact .inl (.inr h)
   ·rcases q with rfl|rfl<;>simp
  ·have Nf:=((Ext.dr l8).tr jc).tr mZ;refine ⟨λ_=>False,⟨rfl,rfl,rfl,λi h=>h,λc hc=> ?_,Nd⟩,Step.late ⟨λi hi=> ?_,Nf.size,λi hi _=>Nf.block i hi⟩⟩
   ·rw [ht,dR] at hc;rcases hc with hc|hc
    ·exact mV c hc
    ·rw [List.mem_singleton.1 hc];exact hq
   ·rcases hi with h|h
    ·exact h.elim
    ·exact .inl (.inr h)
 ·rintro F us y70 b73 jK ⟨hF,mV,hM⟩ Q8 pn Wg iq e76;have z74:=hM.size;have dG:(qR b ax (nQ d)).length=(eF b ax (nQ d)).length:=by unfold qR;simp
  rw [dG,iB] at mV;have hax2:oT V aI b ax d=(nQ d,false):=by unfold oT;rw [List.find?_eq_none.2 λx hx=>by rw [mV x hx];decide]
  rw [hax2];refine ⟨by rw [e76,setRow_other _ _ _ _ aa,Wg,setRow_other _ _ _ _ aa];exact Q8,λsK fN=>⟨rfl,?_⟩⟩;have pB:Ext w jK:=hM.ext Na λi hi=>by have:=Na.size;omega
  have wE:Ext w iq:=(pB.af Wg aa).af e76 aa;exact (Mod.nO fN).ext wE λi hi=>by have:=Na.size;omega
 ·rintro F us y80 b83 Gw ⟨hF,hax2,hM⟩ Q8;rw [<-hax2];refine ⟨Q8,λJD fN=>⟨rfl,?_⟩⟩;have yI:Ext w Gw:=hM.ext Na λi hi=>by have:=Na.size;omega
  exact (Mod.nO fN).ext yI λi hi=>by have:=Na.size;omega
theorem nJ {v:Value} {V:Ce->Int} {w:World} (hV:Tl v V w) (hv:ke v=[]) (b:Bx) (hb:dh b 100000000000000) (ax d:Int) (hax:0<=ax/\ax<3):
  ah 275 #[v,qG b,ax,d] w λe w'=>e=Value.tuple #[qG (cD V aI b ax d).1,.bool (cD V aI b ax d).2]/\Ext w w':=by
 apply KK.vc;intro w0 e0 w1 e1;have x0:=aL e0;have z0:=zA e0;have r0:Row w0 w (fQ b) bE:=Row.nw e0;have x1:=aL e1;have z1:=zA e1;refine (PA (hV.ext (x0.tr x1)) hv b hb ax d hax).mono ?_;rintro e w2 ⟨rfl,x2⟩;have z2:=x2.size;have zd:=lv w2;refine ⟨_,_,rfl,x2.heap aa,x2.heap aa,(iC (0,0,0) ax (oT V aI b ax d).1 w2.drew).mono ?_⟩;rintro e w5 ⟨rfl,x5⟩;have z5:=x5.size;refine ⟨_,_,_,rfl,x5.heap aa,x5.heap aa,Lo.wv (r0.ext (x1.tr (x2.tr ((Ext.dr w2).tr x5)))),(Pm b (iD (0,0,0) ax (oT V aI b ax d).1) w5).mono ?_⟩;rintro e w9 ⟨rfl,x9⟩;have z9:=x9.size;exact ⟨_,_,_,_,_,_,rfl,x9.heap aa,x9.heap aa,λcB FE=>⟨rfl,(x0.tr (x1.tr (x2.tr ((Ext.dr w2).tr (x5.tr x9))))).af FE aa⟩⟩
abbrev Ht:=Bool × Bool × Bool
abbrev hL (h:Ht):LV:=[.bool h.1,.bool h.2.1,.bool h.2.2]
abbrev dy:TypeId:=299
theorem gf (h:Ht):One (hL h):=by intro v hv;simp at hv;rcases hv with rfl|rfl|rfl<;>rfl
theorem cV {g h o:Nat} (hn:g≠h):bC (some ⟨g,o,none⟩)≠some h:=λq=>hn (Option.some.inj q)
theorem oY {g h o n:Nat} (hn:g≠h):bC (ae (some ⟨g,o,none⟩) n)≠some h:=by rw [cY];exact cV hn
theorem Cq {wr:World} {gh go gb:Nat} {h:Ht} {cs:LV} (rh:Row wr gh (hL h) dy) (ro:Row wr go cs dy) (hc:cs.length=3) (jb:gh≠go) (h1:gb≠gh) (h2:gb≠go) (c:Array Value):
  ag wr.drew (some ⟨gh,0,none⟩) 0 (hL h)/\∀fH:World,fH=wr.drew.setRow gb c->ag fH (some ⟨gh,0,none⟩) 0 (hL h)/\Wr fH (some ⟨go,0,none⟩) 3/\∀cP:World,cP=Vc.aG fH (some ⟨go,0,none⟩) (hL h)->ag cP (some ⟨go,0,none⟩) 0 (hL h)/\Mod (λi=>i=gb\/i=go) wr cP:=by
 have xd:=Ext.dr wr;refine ⟨Lo.wv (rh.ext xd),λfH Gu=> ?_⟩;have rh2:Row fH gh (hL h) dy:=(rh.ext xd).same (by rw [Gu];exact setRow_other _ _ _ _ h1.symm);have ro2:Row fH go cs dy:=(ro.ext xd).same (by rw [Gu];exact setRow_other _ _ _ _ h2.symm);have m24:Mod (λi=>i=gb\/i=go) wr fH:=by refine (Mod.aD xd).trans ⟨by rw [Gu];rfl,by rw [Gu];rfl,by rw [Gu];rfl,by rw [Gu,setRow_size];exact aB _,λi _ hn=>by rw [Gu];exact setRow_other _ _ _ _ λq=>hn (.inl q)⟩
 refine ⟨Lo.wv rh2,ro2.wr aa,λcP wB=> ?_⟩;rw [ro2.aG (vs:=hL h) (by rw [hc];exact aB _) (gf h),aQ (by rw [hc];rfl)] at wB;have r25:Row cP go (hL h) dy:=ro2.st wB;exact ⟨Lo.wv r25,m24.trans ⟨by rw [wB];rfl,by rw [wB];rfl,by rw [wB];rfl,by rw [wB,setRow_size];exact aB _,λi _ hn=>by rw [wB];exact setRow_other _ _ _ _ λq=>hn (.inr q)⟩⟩
def KA (V:Ce->Int) (p:Int->Bool) (b:Bx) (d:Ce):Nat->Bx × Ht
 |0=>(b,(false,false,false))
 |1=>((cD V p b 1 d.2.1).1,(false,(cD V p b 1 d.2.1).2,false))
 |2=>((cD V p (cD V p b 1 d.2.1).1 0 d.1).1,((cD V p (cD V p b 1 d.2.1).1 0 d.1).2,(cD V p b 1 d.2.1).2,false))
 |_=>kI V p b d
theorem abR {V:Ce->Int} {p:Int->Bool} {b:Bx} {d:Ce} {m:Int} (hb:dh b m) (hm:m<=99990000000000) {k:Nat} (hk:k<3):dh (KA V p b d k).1 100000000000000:=by
 have up:∀{c:Bx} {a:Int},dh c a->a<=100000000000000->dh c 100000000000000:=λh1 h2=>by unfold dh at h1 ⊢;omega
 have h1:=dO (V:=V) (p:=p) (ax:=1) (d:=d.2.1) hb aa;have h2:=dO (V:=V) (p:=p) (ax:=0) (d:=d.1) h1 aa;have:k=0\/k=1\/k=2:=by omega
 rcases this with rfl|rfl|rfl
 ·exact up hb aa
 ·exact up h1 aa
 ·exact up h2 aa
theorem Dc {v:Value} {V:Ce->Int} {w:World} (hV:Tl v V w) (hv:ke v=[]) (b:Bx) {m:Int} (hb:dh b m) (hm:m<=99990000000000) (d:Ce):
  ah 240 #[v,qG b,ea d] w λe w'=>e=Value.tuple #[qG (kI V aI b d).1,.agg (hL (kI V aI b d).2).toArray]/\Ext w w':=by
 apply Oo.vc;intro w0 e0 w1 e1 w2 e2 w3 e3 w4 e4;have x0:=aL e0;have z0:=zA e0;have r0:Row w0 w (fQ b) bE:=Row.nw e0;have x1:=aL e1;have z1:=zA e1;have x2:=aL e2;have z2:=zA e2;have x3:=aL e3;have z3:=zA e3;have r3:Row w3 w2 (hL (false,false,false)) dy:=Row.nw e3;have x4:=aL e4;have z4:=zA e4;have r4:Row w4 w3 (hL (false,false,false)) dy:=Row.nw e4;have Bq:=x0.tr (x1.tr (x2.tr (x3.tr x4)));refine ⟨λn x a1 a2 a3 a4 a5 a6 wr=>∃k:Nat,x=k/\k+n=3/\a1=(KA V aI b d k).1.1.1/\a2=(KA V aI b d k).1.1.2.1/\a3=(KA V aI b d k).1.1.2.2/\a4=(KA V aI b d k).1.2.1/\a5=(KA V aI b d k).1.2.2.1/\a6=(KA V aI b d k).1.2.2.2/\Row wr w (fQ (KA V aI b d k).1) bE/\Row wr w3 (hL (KA V aI b d k).2) dy/\Row wr w2 (hL (false,false,false)) dy/\Ext w wr,
  ⟨3,rfl,rfl,0,rfl,rfl,rfl,rfl,rfl,rfl,rfl,rfl,r0.ext (x1.tr (x2.tr (x3.tr x4))),r4,r3.ext x4,Bq⟩,?_⟩
 rintro n us x a1 a2 a3 a4 a5 a6 wr ⟨k,rfl,hk,rfl,rfl,rfl,rfl,rfl,rfl,hb',hh,ho,xr⟩;have l3:=hh.lt;apply Br.mk<;>intro hc
 ·have hc:(k:Int)<3:=by simpa using hc
  have yR:k=0\/k=1\/k=2:=by omega
  have vk:=abR (V:=V) (p:=aI) (d:=d) hb hm (k:=k) aa;obtain ⟨a,ha,ha1,ZK,ha3⟩:∃a:Nat,a<3/\([(1:Int),ab,(2:Int)]:LV)[((k:Nat):Int).toNat*1]? =some (.int .i64 (a:Int))/\(KA V aI b d (k+1)).1=(cD V aI (KA V aI b d k).1 a (di d a)).1/\aR (hL (KA V aI b d k).2) a [.bool (cD V aI (KA V aI b d k).1 a (di d a)).2]=hL (KA V aI b d (k+1)).2:=by
   rcases yR with rfl|rfl|rfl
   ·exact ⟨1,by decide,rfl,rfl,rfl⟩
   ·exact ⟨0,by decide,rfl,rfl,rfl⟩
   ·exact ⟨2,by decide,rfl,rfl,rfl⟩
  have zd:=lv wr;refine ⟨⟨by omega,by omega⟩,_,ha1,(dj d a wr.drew).mono ?_⟩;rintro e dA ⟨rfl,cg⟩;have z18:=cg.size;have ajL:=xr.tr ((Ext.dr wr).tr cg);refine ⟨_,rfl,cg.heap aa,cg.heap aa,cg.heap aa,Lo.wv (hb'.ext ((Ext.dr wr).tr cg)),(nJ (hV.ext ajL) hv (KA V aI b d k).1 vk a (di d a) aa).mono ?_⟩;rintro e fh ⟨rfl,cZ⟩;have z20:=cZ.size;have ZL:=(Ext.dr wr).tr (cg.tr cZ);refine ⟨_,_,_,_,_,_,_,rfl,cZ.heap aa,cZ.heap aa,cZ.heap aa,λgn e28=> ?_⟩;generalize hy:cD V aI (KA V aI b d k).1 a (di d a)=y at*;have rb:Row gn w (fQ y.1) bE:=by rw [e28];exact Row.set (hb'.ext ZL) [_,_,_,_,_,_]
  have rh:Row gn w3 (hL (KA V aI b d k).2) dy:=(hh.ext ZL).same (by rw [e28];exact setRow_other _ _ _ _ aa);have ro:Row gn w2 (hL (false,false,false)) dy:=(ho.ext ZL).same (by rw [e28];exact setRow_other _ _ _ _ aa);have gy:Ext w gn:=(ajL.tr cZ).af e28 (aB _);have hpp:ae (some ⟨w3.heap.size,0,none⟩) (((a:Nat):Int).toNat*1)=ae (some ⟨w3.heap.size,0,none⟩) a:=by rw [eJ,Nat.mul_one]
  obtain ⟨p1,p2⟩:=rh.je (j:=a) (v:=.bool y.2) ha rfl;have wk:=mh (j:=k);rw [hpp];refine ⟨by omega,by omega,⟨rfl,p1⟩,oY aa,oY aa,oY aa,λdH MP=> ?_⟩;obtain ⟨q1,q2⟩:=p2 dH MP;exact ⟨n-1,by omega,rfl,rfl,k+1,wk,by omega,by rw [ZK],by rw [ZK],by rw [ZK],by rw [ZK],by rw [ZK],by rw [ZK],by rw [ZK];exact rb.same (q2.same _ rb.lt aa),by rw [<-ha3];exact q1,ro.same (q2.same _ ro.lt aa),q2.ext gy λi hi=>by omega⟩
 ·have hc:¬(k:Int)<3:=by simpa using hc
  have yR:k=3:=by omega
  subst yR;obtain ⟨q1,q2⟩:=Cq (gb:=w1.heap.size) hh ho rfl aa aa aa _;refine ⟨_,_,_,q1,λej MS=> ?_⟩;obtain ⟨q3,q4,q5⟩:=q2 ej MS;refine ⟨q3,⟨rfl,q4⟩,cV aa,cV aa,cV aa,λiL e34=> ?_⟩;obtain ⟨q6,q7⟩:=q5 iL e34;exact ⟨_,_,_,q6,rfl,q7.ext xr λi hi=>by omega⟩
theorem HA (a b:Bx) (ha:dh a 100000000000000) (hb:dh b 100000000000000) (w:World):ah 276 #[qG a,qG b] w λe w'=>e=Value.int .i64 (xZ a b)/\Ext w w':=by
 apply O6.vc;intro w0 e0 w1 e1;have x1:Ext w w1.drew:=((aL e0).bB e1).drew;unfold dh at ha hb;rw [aK (n:=b.1.1-a.1.1) (by unfold bS;omega),aK (n:=b.1.2.2-a.1.2.2) (by unfold bS;omega),aK (n:=0-(b.1.1-a.1.1)) (by unfold bS;omega),aK (n:=0-(b.1.2.2-a.1.2.2)) (by unfold bS;omega)];have e1:∀y:Int,(if 0-y>y then 0-y else y)=max y (-y):=λy=>by split<;>omega
 rw [e1,e1,wI];exact ⟨rfl,x1⟩
def stK (h:Ht) (v:Ce):Nat->Ce
 |0=>v
 |1=>if h.1 then iD v 0 0 else v
 |2=>(λv=>if h.2.1 then iD v 1 0 else v) (if h.1 then iD v 0 0 else v)
 |_=>lO h v
theorem UC (h:Ht) (v:Ce) (w:World):ah 238 #[.agg (hL h).toArray,ea v] w λe w'=>e=(ea (lO h v))/\Ext w w':=by
 apply BA.vc;intro w0 e0 w1 e1 w2 e2;have x0:=aL e0;have z0:=zA e0;have r0:Row w0 w (hL h) dy:=Row.nw e0;have x1:=aL e1;have z1:=zA e1;have x2:=aL e2;have z2:=zA e2;have yA:=x0.tr (x1.tr x2);refine ⟨_,_,_,Lo.wv (r0.ext (x1.tr x2)),λn x a1 a2 a3 wr=>∃k:Nat,x=k/\k+n=3/\(a1,a2,a3)=stK h v k/\Ext w wr/\w2.heap.size<=wr,⟨3,rfl,0,rfl,rfl,rfl,yA,aB _⟩,?_⟩;rintro n us x a1 a2 a3 wr ⟨k,rfl,hk,hs,xr,zr⟩;apply Br.mk<;>intro hc
 ·have hc:(k:Int)<3:=by simpa using hc
  have yR:k=0\/k=1\/k=2:=by omega
  obtain ⟨r,hr1,py⟩:∃r:Bool,([.bool h.1,.bool h.2.1,.bool h.2.2]:LV)[((k:Nat):Int).toNat*1]? =some (.bool r)/\stK h v (k+1)=if r then iD (stK h v k) k 0 else stK h v k:=by
   rcases yR with rfl|rfl|rfl
   ·exact ⟨h.1,rfl,rfl⟩
   ·exact ⟨h.2.1,rfl,rfl⟩
   ·exact ⟨h.2.2,rfl,rfl⟩
  have wk:=mh (j:=k);refine ⟨⟨by omega,by omega⟩,r,hr1,Br.mk (λhq=>(iC (a1,a2,a3) k 0 wr).mono ?_) (λhq=> ?_)⟩
  ·rintro e cB ⟨rfl,cp⟩;have z16:=cp.size;refine ⟨_,_,_,rfl,cp.heap aa,cp.heap aa,λfh e20=>⟨n-1,by omega,rfl,k+1,wk,by omega,?_,(xr.tr cp).af e20 aa,by rw [zR e20];omega⟩⟩;rw [py,hq,if_pos rfl,<-hs]
  ·exact ⟨n-1,by omega,rfl,k+1,wk,by omega,by rw [py,hq,if_neg aE,<-hs],xr,zr⟩
 ·have hc:¬(k:Int)<3:=by simpa using hc
  have yR:k=3:=by omega
  subst yR;intro ed wO;have hs:(a1,a2,a3)=lO h v:=hs;refine ⟨by rw [<-hs],xr.af wO aa⟩
theorem oV {b:Bx} {m n:Int} (h:dh b m) (hmn:m<=n):dh b n:=by unfold dh at h ⊢;omega
set_option maxHeartbeats 1000000 in
theorem PS {v:Value} {V:Ce->Int} {w:World} (hV:Tl v V w) (hv:ke v=[]) (b:Bx) {m:Int} (hb:dh b m) (hm:m<=99980000000000) (d:Ce) (up:Int):
  ah 236 #[v,qG b,ea d,up] w λe w'=>e=Value.tuple #[qG (lK V aI b d up).1,.agg (hL (lK V aI b d up).2).toArray]/\Ext w w':=by
 apply O7.vc;have hup:(if 65536<up then 65536 else up)=min up 65536:=by split<;>omega
 rw [hup];intro w0 e0 w1 e1 w2 e2 w3 e3;have x0:=aL e0;have z0:=zA e0;have r0:Row w0 w (fQ b) bE:=Row.nw e0;have x1:=aL e1;have z1:=zA e1;have r1:Row w1 w0 (du d) eC:=Row.nw e1;have x2:=aL e2;have z2:=zA e2;have x3:=aL e3;have z3:=zA e3;have r3:Row w3 w2 (hL (false,false,false)) dy:=Row.nw e3;have Av:=x0.tr (x1.tr (x2.tr x3));refine (Dc (hV.ext Av) hv b hb aa d).mono ?_;rintro e w4 ⟨rfl,x4⟩;have z4:=x4.size;have hpn:=Iy (V:=V) (p:=aI) (d:=d) hb aa;have hstep:lK V aI b d up=(if ((!(kI V aI b d).2.1 && !(kI V aI b d).2.2.2)||decide (up<=0)|| !jN V (iA b) aI)=true then kI V aI b d else if xZ b (cD V aI (cD V aI (cD V aI (cD V aI b 1 (min up 65536)).1 0 d.1).1 2 d.2.2).1 1 (-((cD V aI b 1 (min up 65536)).1.1.2.1-b.1.2.1))).1<=xZ b (kI V aI b d).1 then kI V aI b d else ((cD V aI (cD V aI (cD V aI (cD V aI b 1 (min up 65536)).1 0 d.1).1 2 d.2.2).1 1 (-((cD V aI b 1 (min up 65536)).1.1.2.1-b.1.2.1))).1,((cD V aI (cD V aI b 1 (min up 65536)).1 0 d.1).2,true,(cD V aI (cD V aI (cD V aI b 1 (min up 65536)).1 0 d.1).1 2 d.2.2).2))):=rfl;generalize kI V aI b d=mv at*;refine ⟨_,_,_,_,_,_,_,_,_,rfl,x4.heap aa,x4.heap aa,x4.heap aa,λbK uy dY oE cB FE=> ?_⟩;have bW:=aL uy;have WE:=zA uy;have cm:=aL oE;have z15:=zA oE;have r15:Row dY bK (hL (false,false,false)) dy:=Row.nw oE;have z16:=zR FE;have r16:Row cB bK (hL (false,false,false)) dy:=r15.same (by rw [FE];exact setRow_other _ _ _ _ aa);have aqP:Row cB w4 (fQ mv.1) bE:=by rw [FE];exact Row.set ((by rw [uy];exact Row.new w4 [_,_,_,_,_,_] _:Row bK w4 _ bE).ext cm) [_,_,_,_,_,_]
 have cp:Ext w4 cB:=(bW.tr cm).af FE (aB _);refine ⟨⟨rfl,r16.wr bt⟩,cV aa,cV aa,cV aa,cV aa,λcE yS=> ?_⟩;rw [r16.aG (vs:=hL mv.2) bt (gf _),aQ bt] at yS;have rh:Row cE bK (hL mv.2) dy:=r16.st yS;have z17:=zR yS;have cT:Ext w4 cE:=cp.af yS aa;have rp:Row cE w4 (fQ mv.1) bE:=aqP.same (by rw [yS];exact setRow_other _ _ _ _ aa);have adV:=Av.tr (x4.tr cT);have alp:=x1.tr (x2.tr (x3.tr (x4.tr cT)));have ro:Row cE w2 (hL (false,false,false)) dy:=r3.ext (x4.tr cT);have rb:=r0.ext alp;have rd:=r1.ext (x2.tr (x3.tr (x4.tr cT)));have plain:∀wr:World,Ext cE wr->lK V aI b d up=mv->∃(J3:Bool) (b22:Bool) (H2:Bool),ag wr.drew (some ⟨bK.heap.size,0,none⟩) 0 [.bool J3,b22,H2]/\
   ∀fH:World,fH=wr.drew.setRow w1 #[mv.1.1.1,mv.1.1.2.1,mv.1.1.2.2,mv.1.2.1,mv.1.2.2.1,mv.1.2.2.2]->
   ag fH (some ⟨bK.heap.size,0,none⟩) 0 [.bool J3,b22,H2]/\(true=true/\Wr fH (some ⟨w2.heap.size,0,none⟩) 3)/\bC (some ⟨w2.heap.size,0,none⟩)≠some w.heap.size/\bC (some ⟨w2.heap.size,0,none⟩)≠some w0.heap.size/\bC (some ⟨w2.heap.size,0,none⟩)≠some w1.heap.size/\bC (some ⟨w2.heap.size,0,none⟩)≠some w4.heap.size/\(∀cP:World,cP=Vc.aG fH (some ⟨w2.heap.size,0,none⟩) [.bool J3,b22,H2]->
   ∃(Fa:Bool) (Ax:Bool) (N2:Bool),ag cP (some ⟨w2.heap.size,0,none⟩) 0 [.bool Fa,Ax,N2]/\
   (Ending.returned (.tuple #[.agg #[mv.1.1.1,mv.1.1.2.1,mv.1.1.2.2,mv.1.2.1,mv.1.2.2.1,mv.1.2.2.2],.agg #[Fa,Ax,N2]])=Value.tuple #[qG (lK V aI b d up).1,.agg (hL (lK V aI b d up).2).toArray]/\Ext w cP)):=λwr x gC=>by
  have zx:=x.size;obtain ⟨q1,q2⟩:=Cq (gb:=w1.heap.size) (rh.ext x) (ro.ext x) rfl aa aa aa #[mv.1.1.1,mv.1.1.2.1,mv.1.1.2.2,mv.1.2.1,mv.1.2.2.1,mv.1.2.2.2];refine ⟨_,_,_,q1,λfH Gu=> ?_⟩;obtain ⟨q3,q4,q5⟩:=q2 fH Gu;refine ⟨q3,⟨rfl,q4⟩,cV aa,cV aa,cV aa,cV aa,λcP wB=> ?_⟩;obtain ⟨q6,q7⟩:=q5 cP wB;exact ⟨_,_,_,q6,by rw [gC],q7.ext (adV.tr x) λi hi=>by omega⟩
 have gC:∀wr:World,Ext cE wr->Tl v V wr:=λwr x=>hV.ext (adV.tr x)
 refine ⟨λwj=>Ext cE wj/\¬((!mv.2.1 && !mv.2.2.2)||decide (up<=0)|| !jN V (iA b) aI)=true,?_,?_⟩
 ·refine ⟨by decide,by decide,mv.2.1,rh.at 0 rfl,Br.mk (λq1=>⟨by decide,by decide,mv.2.2.2,rh.at 2 rfl,Br.mk (λq2=>plain cE (Ext.cQ _) (by rw [hstep,if_pos (by rw [q1,q2];rfl)])) (λq2=> ?_)⟩) (λq1=> ?_)⟩
  all_goals
   have hcf:(!mv.2.1 && !mv.2.2.2)=false:=by first|rw [q2,Bool.and_false]|rw [q1,Bool.false_and]
   refine Br.mk (λq3=>plain cE (Ext.cQ _) (by rw [hstep,if_pos (by rw [hcf,q3];rfl)])) (λq3=>(lF (gC cE (Ext.cQ _)) hv b).mono ?_)
   rintro e gJ ⟨rfl,gu⟩
   exact ⟨_,rfl,gu.heap aa,gu.heap aa,gu.heap aa,gu.heap aa,Br.mk (λq4=>plain gJ gu (by rw [hstep,if_pos (by rw [hcf,q3,q4];rfl)])) (λq4=>⟨rfl,rfl,rfl,rfl,gu,by rw [hcf,q3,q4];decide⟩)⟩
 ·rintro us my ⟨lh,hn⟩;rw [if_neg hn] at hstep;have z66:=lh.size;have n1:=dO (V:=V) (p:=aI) (ax:=1) (d:=min up 65536) hb aa;refine (nJ (gC my lh) hv b (oV hb aa) 1 (min up 65536) aE).mono ?_;rintro e jY ⟨rfl,od⟩;have z67:=od.size;have n2:=dO (V:=V) (p:=aI) (ax:=0) (d:=d.1) n1 aa;have n3:=dO (V:=V) (p:=aI) (ax:=2) (d:=d.2.2) n2 aa;have n4:=dO (V:=V) (p:=aI) (ax:=1) (d:= -((cD V aI b 1 (min up 65536)).1.1.2.1-b.1.2.1)) n3 aa;refine ⟨_,_,_,_,_,_,_,rfl,od.heap aa,od.heap aa,od.heap aa,od.heap aa,λpn Wg iq e76 sK e77=> ?_⟩;generalize cD V aI b 1 (min up 65536)=hi at*;have z75:=zA Wg;have z76:=zR e76;have z77:=zA e77;have rhi:Row iq jY (fQ hi.1) bE:=by rw [e76];exact Row.set (by rw [Wg];exact Row.new jY [_,_,_,_,_,_] _) [_,_,_,_,_,_]
  have ahy:Row sK iq (hL (false,false,false)) dy:=Row.nw e77;have FC:Ext jY sK:=((aL Wg).af e76 (aB _)).bB e77;have rhi:=rhi.ext (aL e77);refine ⟨⟨rfl,ahy.wr bt⟩,cV aa,cV aa,cV aa,cV aa,cV aa,λlX e78 N3 e79 r6 e80=> ?_⟩;rw [ahy.aG (vs:=hL (false,true,false)) bt (gf (false,true,false)),aQ bt] at e78;have z78:=zR e78;have aqT:Row lX iq (hL (false,true,false)) dy:=ahy.st e78;have rhi:=rhi.so e78;have wS:Ext jY lX:=FC.af e78 aa;have z79:=zA e79;have z80:=zR e80;have aaR:Ext lX r6:=(aL e79).af e80 (aB _);have aqU:Row r6 lX (fQ hi.1) bE:=by rw [e80];exact Row.set (by rw [e79];exact Row.new lX [_,_,_,_,_,_] _) [_,_,_,_,_,_]
  have aqV:=aqT.ext aaR;have alr:=lh.tr (od.tr (wS.tr aaR));refine (nJ (gC r6 alr) hv hi.1 (oV n1 aa) 0 d.1 aE).mono ?_;rintro e qq ⟨rfl,uA⟩;have z81:=uA.size;refine ⟨_,_,_,_,_,_,_,rfl,uA.heap aa,uA.heap aa,uA.heap aa,uA.heap aa,uA.heap aa,uA.heap aa,λkN e89=> ?_⟩;generalize cD V aI hi.1 0 d.1=ax at*;have z89:=zR e89;have als:Row kN lX (fQ ax.1) bE:=by rw [e89];exact Row.set (aqU.ext uA) [_,_,_,_,_,_]
  have aqW:Row kN iq (hL (false,true,false)) dy:=(aqV.ext uA).same (by rw [e89];exact setRow_other _ _ _ _ aa);have H3:Ext lX kN:=(aaR.tr uA).af e89 (aB _);obtain ⟨p1,p2⟩:=aqW.je (j:=0) (v:=.bool ax.2) aE rfl;refine ⟨by decide,by decide,⟨rfl,p1⟩,oY aa,oY aa,oY aa,oY aa,oY aa,oY aa,λnu e90=> ?_⟩;obtain ⟨q1,q2⟩:=p2 nu e90;have aqX:Row nu iq (hL (ax.2,true,false)) dy:=q1;have aqY:=als.same (q2.same _ als.lt aa);have z90:=q2.size;have Sx:Ext jY nu:=q2.ext (wS.tr H3) λi hi=>by omega
  refine (nJ (gC nu (lh.tr (od.tr Sx))) hv ax.1 (oV n2 aa) 2 d.2.2 aE).mono ?_;rintro e w91 ⟨rfl,Ff⟩;have z91:=Ff.size;refine ⟨_,_,_,_,_,_,_,rfl,Ff.heap aa,Ff.heap aa,Ff.heap aa,Ff.heap aa,Ff.heap aa,Ff.heap aa,λJ9 e99=> ?_⟩;generalize cD V aI ax.1 2 d.2.2=az at*;have z99:=zR e99;have alv:Row J9 lX (fQ az.1) bE:=by rw [e99];exact Row.set (aqY.ext Ff) [_,_,_,_,_,_]
  have aqZ:Row J9 iq (hL (ax.2,true,false)) dy:=(aqX.ext Ff).same (by rw [e99];exact setRow_other _ _ _ _ aa);have H0:Ext jY J9:=(Sx.tr Ff).af e99 aa;obtain ⟨p1,p3⟩:=aqZ.je (j:=2) (v:=.bool az.2) (show 2<3 by decide) rfl;refine ⟨by decide,by decide,⟨rfl,p1⟩,oY aa,oY aa,oY aa,oY aa,oY aa,oY aa,λpo adW=> ?_⟩;obtain ⟨q1,q3⟩:=p3 po adW;have alw:Row po iq (hL (ax.2,true,az.2)) dy:=q1;have auY:=alv.same (q3.same _ alv.lt aa);have axU:=q3.size;have rq:Ext jY po:=q3.ext H0 λi hi=>by omega
  have hhi:=n1;have hbb:=hb;unfold dh at hhi hbb;have wr1:aj (hi.1.1.2.1-b.1.2.1)=hi.1.1.2.1-b.1.2.1:=wI;have QI:aj (0-(hi.1.1.2.1-b.1.2.1))= -(hi.1.1.2.1-b.1.2.1):=by rw [wI];omega
  rw [wr1,QI];refine (nJ (gC po (lh.tr (od.tr rq))) hv az.1 (oV n3 aa) 1 (-(hi.1.1.2.1-b.1.2.1)) aE).mono ?_;rintro e Fc ⟨rfl,pq⟩;have axX:=pq.size;refine ⟨_,_,_,_,_,_,_,rfl,pq.heap aa,pq.heap aa,pq.heap aa,pq.heap aa,pq.heap aa,pq.heap aa,λAB ahA=> ?_⟩;generalize cD V aI az.1 1 (-(hi.1.1.2.1-b.1.2.1))=ay at*;have axY:=zR ahA;have alx:Row AB iq (hL (ax.2,true,az.2)) dy:=(alw.ext pq).same (by rw [ahA];exact setRow_other _ _ _ _ aa);have sM:Ext jY AB:=(rq.tr pq).af ahA aa;have xd:=Ext.dr AB;have zd:=lv AB;have x17d:=lh.tr (od.tr (sM.tr xd));refine (HA b ay.1 (oV hb aa) (oV n4 aa) AB.drew).mono ?_;rintro e Fe ⟨rfl,kr⟩;have axZ:=kr.size;refine ⟨_,rfl,kr.heap aa,kr.heap aa,kr.heap aa,kr.heap aa,kr.heap aa,kr.heap aa,Lo.wv (rp.ext (x17d.tr kr)),Lo.wv (rb.ext (x17d.tr kr)),(HA b mv.1 (oV hb aa) (oV hpn aa) Fe).mono ?_⟩;rintro e wK ⟨rfl,jn⟩;have ax0:=jn.size;have Fp:=x17d.tr (kr.tr jn);refine ⟨_,rfl,jn.heap aa,jn.heap aa,jn.heap aa,jn.heap aa,jn.heap aa,jn.heap aa,Br.mk (λq=> ?_) (λq=> ?_)⟩
  ·have q:xZ b ay.1<=xZ b mv.1:=by simpa using q
   rw [if_pos q] at hstep;rw [hstep];obtain ⟨q1,q2⟩:=Cq (gb:=w1.heap.size) (rh.ext Fp) (ro.ext Fp) rfl aa aa aa #[mv.1.1.1,mv.1.1.2.1,mv.1.1.2.2,mv.1.2.1,mv.1.2.2.1,mv.1.2.2.2];refine ⟨_,_,_,q1,λfH Gu=> ?_⟩;obtain ⟨q3,q4,q5⟩:=q2 fH Gu;refine ⟨q3,⟨rfl,q4⟩,cV aa,cV aa,cV aa,cV aa,cV aa,cV aa,λcP wB=> ?_⟩;obtain ⟨q6,q7⟩:=q5 cP wB;exact ⟨_,_,_,q6,rfl,q7.ext (adV.tr Fp) λi hi=>by omega⟩
  ·have q:¬xZ b ay.1<=xZ b mv.1:=by simpa using q
   rw [if_neg q] at hstep;rw [hstep];obtain ⟨q1,q2⟩:=Cq (gb:=w1.heap.size) (alx.ext (xd.tr (kr.tr jn))) (ro.ext Fp) rfl aa aa aa #[ay.1.1.1,ay.1.1.2.1,ay.1.1.2.2,ay.1.2.1,ay.1.2.2.1,ay.1.2.2.2];refine ⟨_,_,_,q1,λfH Gu=> ?_⟩;obtain ⟨q3,q4,q5⟩:=q2 fH Gu;refine ⟨q3,⟨rfl,q4⟩,cV aa,cV aa,cV aa,cV aa,cV aa,cV aa,λcP wB=> ?_⟩;obtain ⟨q6,q7⟩:=q5 cP wB;exact ⟨_,_,_,q6,rfl,q7.ext (adV.tr Fp) λi hi=>by omega⟩
theorem af8 (n:Int):(if 70368744177664<(if (-70368744177664)>n then (-70368744177664) else n) then 70368744177664 else (if (-70368744177664)>n then (-70368744177664) else n))=yk n:=by
 unfold yk
 repeat' split
 all_goals omega
theorem Aq (n:Int) (w:World):ah 277 #[n] w λe w'=>e=Value.int .i64 (yk n)/\w'=w:=by apply BB.vc;exact ⟨by rw [af8],rfl⟩
theorem gV (b:ep) (d:Ce) (w:World):ah 237 #[BG b,ea d] w λe w'=>e=(ea (pV b.aH d))/\Ext w w':=by
 apply FT.vc;intro w0 e0 w1 e1 w2 e2;have x0:=aL e0;have z0:=zA e0;have r0:Row w0 w (jo b) yQ:=Row.nw e0;have x1:=aL e1;have z1:=zA e1;have x2:=aL e2;have z2:=zA e2;refine (iS b.aH d w2).mono ?_;rintro e w3 ⟨rfl,x3⟩;have z3:=x3.size;refine ⟨_,_,_,rfl,x3.heap aa,x3.heap aa,x3.heap aa,λw7 e7 w8 e8=> ?_⟩;have x8:Ext w3 w8.drew:=((aL e7).af e8 (aB _)).drew;have z8:w8.drew.heap.size=w3.heap.size+1:=by show w8.heap.size=_;rw [zR e8,zA e7]
 have r8:Row w8.drew w3 (du (jW b.aH d)) eC:=(by rw [e8];exact Row.set (by rw [e7];exact Row.new w3 [_,_,_] _) [_,_,_]:Row w8 w3 _ eC).ext (Ext.dr w8);have rb:=r0.ext (x1.tr (x2.tr (x3.tr x8)));refine (Aq (jW b.aH d).1 w8.drew).mono ?_;rintro e w9 ⟨rfl,rfl⟩;refine ⟨_,rfl,rfl,rfl,rfl,rfl,qL rb rfl rfl rfl,mC r8 rfl,mC r8 rfl,(Aq (jW b.aH d).2.1 w8.drew).mono ?_⟩;rintro e aW ⟨rfl,rfl⟩;refine ⟨_,rfl,rfl,rfl,rfl,rfl,qL rb rfl rfl rfl,mC r8 rfl,(Aq (jW b.aH d).2.2 w8.drew).mono ?_⟩;rintro e bF ⟨rfl,rfl⟩;refine ⟨_,rfl,rfl,rfl,rfl,rfl,qL rb rfl rfl rfl,(uh (yk (jW b.aH d).1,yk (jW b.aH d).2.1,yk (jW b.aH d).2.2) b.aH w8.drew).mono ?_⟩;rintro e dY ⟨rfl,cm⟩;have z15:=cm.size;exact ⟨_,_,_,rfl,cm.heap aa,cm.heap aa,cm.heap aa,cm.heap aa,λfy e19=>⟨rfl,(x0.tr (x1.tr (x2.tr (x3.tr (x8.tr cm))))).af e19 aa⟩⟩
abbrev FR:=Int × Int × Bool
abbrev inV (i:FR):Value:=.agg #[i.1,i.2.1,.bool i.2.2]
abbrev inL (i:FR):LV:=[.int .i64 i.1,.int .i64 i.2.1,.bool i.2.2]
abbrev acN:TypeId:=109
def rO (b:ep) (i:FR):ep:={b with speed:=(Hj i.1,b.speed.2.1,Hj i.2.1)}
theorem Qd (b:ep) (v:Value) (i:FR) (w:World):ah 166 #[BG b,v,inV i] w λe w'=>e=(BG (rO b i))/\Ext w w':=by apply BD.vc;intro w0 e0 w1 e1 w2 e2;have x0:=aL e0;have z0:=zA e0;have x1:=aL e1;have z1:=zA e1;have r1:Row w1 w0 (inL i) acN:=Row.nw e1;have x2:Ext w1 w2.drew:=(aL e2).drew;have z2:w2.drew.heap.size=w1.heap.size+1:=(zA e2:w2.heap.size=_);refine (AZ i.1 w2.drew).mono ?_;rintro e w3 ⟨rfl,x3⟩;have z3:=x3.size;refine ⟨_,rfl,x3.heap aa,x3.heap aa,x3.heap aa,mC (r1.ext (x2.tr x3)) rfl,(AZ i.2.1 w3).mono ?_⟩;rintro e w5 ⟨rfl,x5⟩;have z5:=x5.size;exact ⟨_,rfl,x5.heap aa,x5.heap aa,x5.heap aa,λw7 e7 w8 e8 w9 e9=>⟨rfl,((((x0.tr (x1.tr (x2.tr (x3.tr x5)))).af e7 aa).af e8 aa).af e9 aa)⟩⟩
def DQ (n jump less least:Int) (j:Bool):Int:=if j then jump else max (n-less) (-least)
def pT (V:Ce->Int) (b:ep) (i:FR):ep:=
 if jN V b.box (λx=>x==4)=true then {b with speed:=(b.speed.1,DQ b.speed.2.1 8192 4096 8192 i.2.2,b.speed.2.2)}
 else if jN V b.box qH=true then {b with speed:=(b.speed.1,DQ b.speed.2.1 6144 1024 8192 i.2.2,b.speed.2.2)}
 else {b with speed:=(b.speed.1,DQ b.speed.2.1 28672 4096 262144 (i.2.2 && jN V (iA b.box) aI),b.speed.2.2)}
theorem ur (b:ep) (jump less least:Int) (j:Bool) {gb gp gi:Nat} {w:World} {τ:TypeId} {i:FR} (hb:Row w gb (jo b) yQ) (hp:Row w gp [.pointer (some ⟨gb,4,none⟩)] τ) (hi:Row w gi [i.1,i.2.1,j] acN) (hs:bS (b.speed.2.1-less)) (hl:0<=least/\least<=1000000) (hn:gb≠gp/\gb≠gi):
  ah 233 #[jump,less,least,gp,gi] w λe w'=>e=sY/\Row w' gb (jo {b with speed:=(b.speed.1,DQ b.speed.2.1 jump less least j,b.speed.2.2)}) yQ/\Mod (λk=>k=gb) w w':=by
 apply xy.vc;have xd:=Ext.dr w;have hb':=hb.ext xd;have hp':=hp.ext xd;have e1:aj (b.speed.2.1-less)=b.speed.2.1-less:=aK hs;have e2:aj (0-least)= -least:=by rw [wI];omega
 have e3:(if -least>b.speed.2.1-less then -least else b.speed.2.1-less)=max (b.speed.2.1-less) (-least):=by split<;>omega
 refine ⟨_,hp'.at 0 rfl,_,hp'.at 0 rfl,gr rfl ⟨_,hb'.at 4 rfl,gr rfl ?_⟩⟩;rw [e1,e2,e3];obtain ⟨p1,p2⟩:=hb'.je (j:=4) (v:=.int .i64 (max (b.speed.2.1-less) (-least))) (show 4<9 by decide) rfl;refine ⟨⟨rfl,p1⟩,λw3 e3=> ?_⟩;obtain ⟨q1,q2⟩:=p2 w3 e3;have hm:=(Mod.aD (F:=λk=>k=gb) xd).trans q2;have hi3:=(hi.ext xd).same (q2.same _ (hi.ext xd).lt (Ne.symm hn.2));have hp3:=hp'.same (q2.same _ hp'.lt (Ne.symm hn.1));refine ⟨j,hi3.at 2 rfl,?_⟩
 cases j with
 |false=>exact ⟨rfl,q1,hm⟩
 |true=>
  obtain ⟨p3,p4⟩:=q1.je (j:=4) (v:=.int .i64 jump) (show 4<9 by decide) rfl;refine ⟨_,hp3.at 0 rfl,gr rfl ⟨⟨rfl,p3⟩,λw6 e6=> ?_⟩⟩;obtain ⟨q3,q4⟩:=p4 w6 e6;exact ⟨rfl,q3,hm.trans q4⟩
set_option maxHeartbeats 1000000 in
theorem Qe {v:Value} {V:Ce->Int} {w:World} (hV:Tl v V w) (hv:ke v=[]) (b:ep) (hw:bS b.wd) (hs: -1000000<=b.speed.2.1/\b.speed.2.1<=1000000) (i:FR):
  ah 167 #[BG b,v,inV i] w λe w'=>e=(BG (pT V b i))/\Ext w w':=by
 apply BE.vc;intro w0 e0 w1 e1 w2 e2;have x0:=aL e0;have z0:=zA e0;have r0:Row w0 w (jo b) yQ:=Row.nw e0;have x1:=aL e1;have z1:=zA e1;have r1:Row w1 w0 (inL i) acN:=Row.nw e1;have x2:=aL e2;have z2:=zA e2;refine (cO b hw w2).mono ?_;rintro e w3 ⟨rfl,x3⟩;have z3:=x3.size;refine ⟨_,_,_,_,_,_,rfl,x3.heap aa,x3.heap aa,x3.heap aa,λbD CH aW FA cM N4 bF B7=> ?_⟩;have Sr:=zA CH;have z11:=zA FA;have z12:=zR N4;have z13:=zR B7;have cc:Ext w3 bF:=(((aL CH).bB FA).af N4 (aB _)).af B7 aa;have rp:∃τ,Row bF bD [.pointer (some ⟨w.heap.size,4,none⟩)] τ:=⟨_,by
  rw [B7];exact Row.set ((by rw [FA];exact Row.new bD [_] _:Row aW bD _ _).same (by rw [N4];exact setRow_other _ _ _ _ aa)) [_]⟩
 obtain ⟨τ,rp⟩:=rp;have rb:=r0.ext (x1.tr (x2.tr (x3.tr cc)));have ri:=r1.ext (x2.tr (x3.tr cc));have xw:=x0.tr (x1.tr (x2.tr (x3.tr cc)));have fin:∀{cB:World} {b':ep},Row cB w (jo b') yQ->Ext w cB->∃(cT:Int) (cg:Int) (cr:Int) (cZ:Int) (dm:Int) (dI:Int) (dz:Int) (eH:Int) (Ka:Bool),ag cB (some ⟨w.heap.size,0,none⟩) 0 [cT,cg,cr,cZ,dm,dI,dz,eH,Ka]/\
   ∀eG:World,eG=cB.setRow w1 #[cT,cg,cr,cZ,dm,dI,dz,eH,Ka]->(Ending.returned (.agg #[cT,cg,cr,cZ,dm,dI,dz,eH,Ka])=(BG b')/\Ext w eG):=λhr x=>⟨_,_,_,_,_,_,_,_,_,Lo.wv hr,λeG yU=>⟨rfl,x.af yU aa⟩⟩
 unfold pT;refine (KZ (hV.ext xw) hv b.box).mono ?_;rintro e bK ⟨rfl,bW⟩;have WE:=bW.size;refine ⟨_,rfl,bW.heap aa,bW.heap aa,Br.mk (λhc=> ?_) (λhc=> ?_)⟩
 ·rw [if_pos hc];refine (ur b 8192 4096 8192 i.2.2 (rb.ext bW) (rp.ext bW) (ri.ext bW) (by unfold bS;omega) aE ⟨by omega,by omega⟩).mono ?_;rintro e cB ⟨rfl,hr,hm⟩;exact ⟨rfl,hm.same _ aa aa,hm.same _ aa aa,fin hr (hm.ext (xw.tr bW) λk hk=>by omega)⟩
 rw [if_neg (by rw [hc];decide)];refine (TJ (hV.ext (xw.tr bW)) hv b.box).mono ?_;rintro e eo ⟨rfl,fw⟩;have z27:=fw.size;have ad0:=xw.tr (bW.tr fw);have ahI:=rb.ext (bW.tr fw);have ahJ:=rp.ext (bW.tr fw);have ahK:=ri.ext (bW.tr fw);refine ⟨_,rfl,fw.heap aa,fw.heap aa,Br.mk (λnr=> ?_) (λnr=>⟨_,ahK.at 2 rfl,?_⟩)⟩
 ·rw [if_pos nr];refine (ur b 6144 1024 8192 i.2.2 ahI ahJ ahK (by unfold bS;omega) aE ⟨by omega,by omega⟩).mono ?_;rintro e cB ⟨rfl,hr,hm⟩;exact ⟨rfl,hm.same _ aa aa,hm.same _ aa aa,fin hr (hm.ext ad0 λk hk=>by omega)⟩
 rw [if_neg (by rw [nr];decide)];have last:∀(j:Bool) (jm:World),Ext eo jm->Wr jm (some ⟨w0.heap.size,2,none⟩) 1/\∀il:World,il=Vc.aG jm (some ⟨w0.heap.size,2,none⟩) [.bool j]->Row il w0 [i.1,i.2.1,.bool j] acN/\Mod (λk=>k=w0.heap.size) jm il:=λj jm kq=>(ahK.ext kq).je (j:=2) (v:=.bool j) (show 2<3 by decide) rfl
 refine Br.mk (λhj=>(lF (hV.ext ad0) hv b.box).mono ?_) (λhj=> ?_)
 ·rintro e jm ⟨rfl,kq⟩;have z41:=kq.size;rw [hj,Bool.true_and];generalize jN V (iA b.box) aI=st;obtain ⟨p1,p2⟩:=last st jm kq;refine ⟨_,rfl,kq.heap aa,kq.heap aa,p1,cV aa,cV aa,λil e43=> ?_⟩;obtain ⟨q1,q2⟩:=p2 il e43;have z43:=q2.size;refine (ur (i:=i) b 28672 4096 262144 st ((ahI.ext kq).same (q2.same _ aa aa)) ((ahJ.ext kq).same (q2.same _ aa aa)) q1 (by unfold bS;omega) aE ⟨by omega,by omega⟩).mono ?_;rintro e cB ⟨rfl,hr,hm⟩;exact ⟨rfl,hm.same _ aa aa,hm.same _ aa aa,fin hr (hm.ext (q2.ext (ad0.tr kq) λk hk=>by omega) λk hk=>by omega)⟩
 ·rw [hj,Bool.false_and];obtain ⟨p1,p2⟩:=last false eo (Ext.cQ _);refine ⟨p1,cV aa,cV aa,λil e43=> ?_⟩;obtain ⟨q1,q2⟩:=p2 il e43;have z43:=q2.size;refine (ur (i:=i) b 28672 4096 262144 false (ahI.same (q2.same _ aa aa)) (ahJ.same (q2.same _ aa aa)) q1 (by unfold bS;omega) aE ⟨by omega,by omega⟩).mono ?_;rintro e cB ⟨rfl,hr,hm⟩;exact ⟨rfl,hm.same _ aa aa,hm.same _ aa aa,fin hr (hm.ext (q2.ext ad0 λk hk=>by omega) λk hk=>by omega)⟩
end Go.Proofs.YtkkkfkopcfdmaaaGreatDoor
