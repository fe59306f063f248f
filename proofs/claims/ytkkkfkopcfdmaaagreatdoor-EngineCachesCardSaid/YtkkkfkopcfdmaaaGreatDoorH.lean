import Derived.Test.YtkkkfkopcfdmaaaGreatDoorG
import Derived.Test.YtkkkfkopcfdmaaaGreatDoorC
set_option linter.all false
namespace Go.Proofs.YtkkkfkopcfdmaaaGreatDoor
open Go Go.Vc Go.RowKit Go.Proofs
set_option maxRecDepth 100000
set_option maxHeartbeats 8000000
set_option linter.unusedVariables false
variable {R:Ending->World->Prop} {w:World} {a0 a1 a2 a3 a4 a5 a6 a7 a8 a9 aA ar au aU aV aZ bG bC bD Cf aj aq aw bt bR bH eB eO eC wh bA bQ bw wi wm vb vd wo wu wx Ch Ci Cj Ck Cm Cn Co Cp Cq Cr:Int}
def La.vc{a0:Value}(h:
 Aw w #[aj,aq,aw,bt,bR,bH] 107 λw0=>
 ah 102 #[a0,.agg #[aj,aq,aw,bt,bR,bH],.func (.func 274) #[] #[]] w0 (Rb λb2 w1=>Kp w w0 w1/\
 R b2 w1)):ah 234 #[a0,.agg #[aj,aq,aw,bt,bR,bH]] w R:=
 cq bU Tryz.func234 h
def Wf.vc{a0:Value}(h:
 Aw w #[aj,aq,aw,bt,bR,bH] 107 λw0=>
 ah 102 #[a0,.agg #[aj,aq,aw,bt,bR,bH],.func (.func 202) #[] #[]] w0 (Rb λb2 w1=>Kp w w0 w1/\
 R b2 w1)):ah 235 #[a0,.agg #[aj,aq,aw,bt,bR,bH]] w R:=
 cq bU Tryz.func235 h
def Lb.vc(h:
 R (Value.bool (a0==4)) w):ah 274 #[a0] w R:=
 cq bU Tryz.func274 h
def Lc.vc(h:
 Aw w #[aA,ar,au,aU,aV,aZ] 107 λw0=>
 Aw w0 #[a1] 3 λw1=>
 Aw w1 #[a2] 3 λw2=>
 R (Value.func (.func 322) #[] #[w,.pointer (aB w0),.pointer (aB w1)]) w2):ah 311 #[.agg #[aA,ar,au,aU,aV,aZ],a1,a2] w R:=
 cq bU Tryz.func311 h
def FJ.vc{a0:Value}{c0:Addr}{c1:Addr}{c2:Addr}(h:
 ∃(x0 x1 x2:Int),af w.drew (ae (some c0) 0) 0 [x0,x1,x2]/\
 ∃(x3:Int),ld w.drew (some c1)=some (.int .i64 x3)/\
 ∃(x4 x5 x6:Int),af w.drew (ae (some c0) 3) 0 [x4,x5,x6]/\
 ∃(x7:Int),ld w.drew (some c1)=some (.int .i64 x7)/\
 ah 178 #[.agg #[x0,x1,x2],x3] w.drew (λe w8=>∃(x9:Int),e=x9/\
 af w8 (some c1) 0 [x7]/\af w8 (ae (some c0) 3) 0 [x4,x5,x6]/\ah 178 #[.agg #[x4,x5,x6],x7] w8 (λe bP=>∃(bu:Int),e=bu/\
 ∃(bV:Int),ld bP (some c2)=some (.int .i64 bV)/\
 Br (bV>0)
 (ah 152 #[(ao ((ao (bu+65536))-1))] bP (λe bK=>∃(bI:Int),e=bI/\
 ∃I15:Nat->Int->World->Prop,
 (∃IE,I15 IE bI bK)/\
 ∀(IE:Nat)(as1:Nat->Value)(cA:Int)(gg:World),I15 IE cA gg->
 ∃(db:Int),ld gg.drew (some c2)=some (.int .i64 db)/\
 ah 174 #[cA] gg.drew (λe dP=>∃(dG:Int),e=dG/\
 af dP (some c2) 0 [db]/\Br (decide (dG<(ao (bu+db))))
 (ah 174 #[cA] dP (λe gl=>∃(dY:Int),e=dY/\
 cC Tryz.prog a0 [cA,(ao (dY-bu))] gl (λe fx=>∃(EI:Bool),e=EI/\
 Br (!EI)
 (R po fx)
 (∃TR,TR<IE/\I15 TR ((ao (cA+1))) fx))))
 (R po dP))))
 (ah 152 #[x9] bP (λe iw=>∃(gn:Int),e=gn/\
 ∃I30:Nat->Int->World->Prop,
 (∃Vv,I30 Vv ((ao (gn-1))) iw)/\
 ∀(Vv:Nat)(as2:Nat->Value)(eL:Int)(jf:World),I30 Vv eL jf->
 ∃(nh:Int),ld jf.drew (some c2)=some (.int .i64 nh)/\
 ah 174 #[(ao (eL+1))] jf.drew (λe gw=>∃(gk:Int),e=gk/\
 af gw (some c2) 0 [nh]/\Br (decide (gk>(ao (x9+nh))))
 (ah 174 #[(ao (eL+1))] gw (λe kx=>∃(mP:Int),e=mP/\
 cC Tryz.prog a0 [eL,(ao (mP-x9))] kx (λe jw=>∃(b42:Bool),e=b42/\
 Br (!b42)
 (R po jw)
 (∃ME,ME<Vv/\I30 ME ((ao (eL-1))) jw))))
 (R po gw))))))):ah 322 #[a0,c0,c1,c2] w R:=
 cq ⟨[(3,⟨[(7,.int .i64)],[],[]⟩),(7,⟨[(8,.int .i64)],[],[]⟩)],[],[]⟩ Tryz.func322 h
def Nh.vc(h:
 Aw w #[aA,ar,au,aU,aV,aZ] 107 λw0=>
 Aw w0 #[aa,aa,aa,aa,aa,aa] 107 λw1=>
 ah 174 #[a2] w1.drew (Ri λx3 w2=>K2 w w0 w1.drew w2 (
 af w2 (dC w 3) 0 [aU,aV,aZ]/\af w2 w 0 [aA,ar,au]/\ah 155 #[.agg #[aA,ar,au],a1,x3] w2 (iF λx5 x6 x7 w4=>K2 w w0 w2 w4 (
 af w4 (dC w 3) 0 [aU,aV,aZ]/\ah 174 #[(ao (a2+1))] w4 (Ri λx9 w8=>K2 w w0 w4 w8 (
 af w8 (dC w 3) 0 [aU,aV,aZ]/\ah 155 #[.agg #[aU,aV,aZ],a1,x9] w8 (iF λbu bV cn bP=>K2 w w0 w8 bP (
 Sw bP w0 #[x5,x6,x7,bu,bV,cn] λbO=>
 R (Value.agg #[x5,x6,x7,bu,bV,cn]) bO))))))))):ah 312 #[.agg #[aA,ar,au,aU,aV,aZ],a1,a2] w R:=
 cq bU Tryz.func312 h
def RL.vc{a0:Value}(h:
 aP (kP a0) (
 Aw w #[a0] 65 λw0=>
 Aw w0 #[aj,aq,aw,bt,bR,bH] 107 λw1=>
 Aw w1 #[a2] 3 λw2=>
 Aw w2 #[aa] 3 λw3=>
 Aw w3 #[false] 4 λw4=>
 Br (a2<0)
 (Sw w4 w2 #[aa] λw5=>
 Sw w5 w3 #[false] λw6=>
 R (Value.tuple #[aa,false]) w6)
 (Br (a2>=3)
 (Sw w4 w2 #[aa] λw7=>
 Sw w7 w3 #[false] λw8=>
 R (Value.tuple #[aa,false]) w8)
 (ah 311 #[.agg #[aj,aq,aw,bt,bR,bH],a2,.int .i64 (if 4194304<(if (-4194304)>a3 then (-4194304) else a3) then 4194304 else (if (-4194304)>a3 then (-4194304) else a3))] w4 (Rv λv10 w9=>K5 w w0 w1 w2 w3 w4 w9 (
 ∃(agr:List (LV))(ans F13:Nat->Prop)(I14:Nat->(Nat->Prop)->Int->Bool->World->Prop)(X15:Option Nat->(Nat->Prop)->Int->Bool->World->Prop),
 (∀x ∈ agr,∃(cH dh:Int),x=[.int .i64 cH,.int .i64 dh])/\
 (∀(n18:Nat)(F19:Nat->Prop)(di:Int)(MC:Bool)(dP eP:World),I14 n18 F19 di MC dP->Below w9 dP eP->(∀i,F19 i->eP.heap[i]? =dP.heap[i]?)->I14 n18 F19 di MC eP)/\
 (∀(n24:Option Nat)(F25:Nat->Prop)(fg:Int)(EI:Bool)(iw dW:World),X15 n24 F25 fg EI iw->Below w9 iw dW->(∀i,F25 i->dW.heap[i]? =iw.heap[i]?)->X15 n24 F25 fg EI dW)/\
 (∀(n30:Nat)(F31:Nat->Prop)(ic:Int)(b33:Bool)(jf:World),I14 n30 F31 ic b33 jf->∀i,F31 i->i<jf.heap.size/\i≠w9.heap.size/\i≠w9.heap.size+1)/\
 (∀(ME:Option Nat)(F36:Nat->Prop)(gI:Int)(b38:Bool)(kx:World),X15 ME F36 gI b38 kx->∀i,F36 i->i<kx.heap.size/\i≠w9.heap.size/\i≠w9.heap.size+1)/\
 (∀i,ans i->i<w9.heap.size/\¬F13 i/\i≠w.heap.size/\i≠w0.heap.size/\i≠w1.heap.size/\i≠w2.heap.size/\i≠w3.heap.size/\True)/\
 (∀jP:World,Ni w9 w9 jP->Iter Tryz.prog (v10) jP ans agr/\aO [a0]/\aO [aj,aq,aw,bt,bR,bH]/\aO [a2]/\I14 0 F13 (0) false jP)/\
 (∀(n41:Nat)(F42:Nat->Prop)(aAF:Nat->Value)(lD:Int)(Qo:Bool)(iz sW:Int)(gj:World),agr[n41]? =some [.int .i64 iz,.int .i64 sW]->I14 n41 F42 lD Qo gj->
 Below gj gj gj/\∀lq:World,Rec (w9.heap.size+1) gj lq->I14 n41 F42 lD Qo lq->
 ah 312 #[.agg #[aj,aq,aw,bt,bR,bH],a2,iz] lq.drew (xF λnk lh jA qp lY sX mT=>K5 w w0 w1 w2 w3 lq.drew mT (
 af mT w 0 [a0]/\ah 46 #[a0,.agg #[nk,lh,jA,qp,lY,sX]] mT (Rb λQ6 mR=>K5 w w0 w1 w2 w3 mT mR (
 Br Q6
 (Sw mR w2 #[sW] λyO=>
 Sw yO w3 #[true] λmQ=>
 true=true/\∃F61:Nat->Prop,(aO [a0]/\aO [aj,aq,aw,bt,bR,bH]/\aO [a2]/\X15 none F61 sW true mQ)/\Step (λi=>(F42 i\/i ∈([w.heap.size,w0.heap.size,w1.heap.size,w2.heap.size,w3.heap.size]:List Nat))\/gj.heap.size<=i) (λi=>F61 i\/i ∈([w.heap.size,w0.heap.size,w1.heap.size,w2.heap.size,w3.heap.size]:List Nat)) lq mQ)
 (∃F62:Nat->Prop,(aO [a0]/\aO [aj,aq,aw,bt,bR,bH]/\aO [a2]/\I14 (n41+1) F62 lD Qo mR)/\Step (λi=>(F42 i\/i ∈([w.heap.size,w0.heap.size,w1.heap.size,w2.heap.size,w3.heap.size]:List Nat))\/gj.heap.size<=i) (λi=>F62 i\/i ∈([w.heap.size,w0.heap.size,w1.heap.size,w2.heap.size,w3.heap.size]:List Nat)) lq mR))))))/\
 (∀(F63:Nat->Prop)(as3:Nat->Value)(rW:Int)(b66:Bool)(jH:World),I14 agr.length F63 rW b66 jH->jH.heap[w9.heap.size]? =some (.deferred (some []))->
 Sw jH w2 #[.int .i64 (if 4194304<(if (-4194304)>a3 then (-4194304) else a3) then 4194304 else (if (-4194304)>a3 then (-4194304) else a3))] λuc=>
 Sw uc w3 #[false] λIF=>
 IF.heap[w9.heap.size]? =some (.deferred (some []))/\∀ou:World,Rec w9 IF ou->
 R (Value.tuple #[.int .i64 (if 4194304<(if (-4194304)>a3 then (-4194304) else a3) then 4194304 else (if (-4194304)>a3 then (-4194304) else a3)),false]) ou)/\
 (∀(F71:Nat->Prop)(asU:Nat->Value)(nM:Int)(b74:Bool)(sY:World),X15 none F71 nM b74 sY->sY.heap[w9.heap.size]? =some (.deferred (some []))->
 sY.heap[w9.heap.size]? =some (.deferred (some []))/\∀j6:World,Rec w9 sY j6->
 R (Value.tuple #[nM,b74]) j6))))))):ah 299 #[a0,.agg #[aj,aq,aw,bt,bR,bH],a2,a3] w R:=
 cq ⟨[],[],[(7,⟨[],[(3,[.int .i64]),(4,[.bool])],[]⟩,[.sc (.int .i64),.sc (.int .i64)])]⟩ Tryz.func299 h
def aam.vc(h:
 Aw w #[aA,ar,au,aU,aV,aZ] 107 λw0=>
 Aw w0 #[aj,aq,aw] 28 λw1=>
 Aw w1 #[aa,aa,aa,aa,aa,aa] 107 λw2=>
 ah 145 #[.agg #[aA,ar,au],.agg #[aj,aq,aw]] w2.drew (iF λx4 x5 x6 w3=>K3 w w0 w1 w2.drew w3 (
 af w3 (aB w0) 0 [aj,aq,aw]/\af w3 (dC w 3) 0 [aU,aV,aZ]/\ah 145 #[.agg #[aU,aV,aZ],.agg #[aj,aq,aw]] w3 (iF λx8 x9 bj w7=>K3 w w0 w1 w3 w7 (
 Sw w7 w1 #[x4,x5,x6,x8,x9,bj] λbg=>
 R (Value.agg #[x4,x5,x6,x8,x9,bj]) bg))))):ah 300 #[.agg #[aA,ar,au,aU,aV,aZ],.agg #[aj,aq,aw]] w R:=
 cq bU Tryz.func300 h
def Nj.vc{a0:Value}(h:
 Aw w #[aj,aq,aw,bt,bR,bH] 107 λw0=>
 Aw w0 #[aa,aa,aa,aa,aa,aa] 107 λw1=>
 ah 299 #[a0,.agg #[aj,aq,aw,bt,bR,bH],a2,a3] w1 (λe w2=>∃(x3:Int)(b4:Bool),e=Value.tuple #[x3,b4]/\K2 w w0 w1 w2 (
 ah 155 #[.agg #[aa,aa,aa],a2,x3] w2.drew (iF λx6 x7 x8 w5=>K2 w w0 w2.drew w5 (
 af w5 w 0 [aj,aq,aw,bt,bR,bH]/\ah 300 #[.agg #[aj,aq,aw,bt,bR,bH],.agg #[x6,x7,x8]] w5 (xF λbj bu bV cn bI cw w9=>K2 w w0 w5 w9 (
 Sw w9 w0 #[bj,bu,bV,cn,bI,cw] λcF=>
 R (Value.tuple #[.agg #[bj,bu,bV,cn,bI,cw],b4]) cF))))))):ah 275 #[a0,.agg #[aj,aq,aw,bt,bR,bH],a2,a3] w R:=
 cq bU Tryz.func275 h
def Ry.vc{a0:Value}(h:
 Aw w #[aj,aq,aw,bt,bR,bH] 107 λw0=>
 Aw w0 #[bA,bQ,bw] 28 λw1=>
 Aw w1 #[aa,aa,aa,aa,aa,aa] 107 λw2=>
 Aw w2 #[false,false,false] 299 λw3=>
 Aw w3 #[false,false,false] 299 λw4=>
 ∃I5:Nat->Int->Int->Int->Int->Int->Int->Int->World->Prop,
 (∃n6,aO [bA,bQ,bw]/\aO [aa,aa,aa,aa,aa,aa]/\I5 n6 (0) aj aq aw bt bR bH w4)/\
 ∀(n6:Nat)(us7:Nat->Value)(x8 x9 bj bu bV cn bI:Int)(dB:World),I5 n6 x8 x9 bj bu bV cn bI dB->
 Br (x8<3)
 (((0:Int)<=x8/\x8<((3:Nat):Int))/\∃(dh:Int),([(1:Int),aa,(2:Int)]:LV)[(x8:Int).toNat*1]? =some (.int .i64 dh)/\
 ah 178 #[.agg #[bA,bQ,bw],dh] dB.drew (Ri λcu dH=>K3 w w0 w1 dB.drew dH (
 af dH w 0 [x9,bj,bu,bV,cn,bI]/\ah 275 #[a0,.agg #[x9,bj,bu,bV,cn,bI],dh,cu] dH (λe eW=>∃(db ef dG eU dY fg:Int)(EI:Bool),e=Value.tuple #[.agg #[db,ef,dG,eU,dY,fg],EI]/\K3 w w0 w1 dH eW (
 Sw eW w #[db,ef,dG,eU,dY,fg] λiw=>
 (0:Int)<=dh/\dh<((3:Nat):Int)/\(true=true/\Wr iw (ae (aB w3) ((dh:Int).toNat*1)) 1)/\bz (ae (aB w3) ((dh:Int).toNat*1))≠some w.heap.size/\bz (ae (aB w3) ((dh:Int).toNat*1))≠some w0.heap.size/\bz (ae (aB w3) ((dh:Int).toNat*1))≠some w1.heap.size/\(∀dW,dW=aL iw (ae (aB w3) ((dh:Int).toNat*1)) [.bool EI]->
 ∃IE,IE<n6/\aO [bA,bQ,bw]/\aO [aa,aa,aa,aa,aa,aa]/\I5 IE ((ao (x8+1))) db ef dG eU dY fg dW))))))
 (∃(Y2 ZG Y3:Bool),af dB.drew (aB w3) 0 [.bool Y2,ZG,Y3]/\
 Sw dB.drew w1 #[x9,bj,bu,bV,cn,bI] λeT=>
 af eT (aB w3) 0 [.bool Y2,ZG,Y3]/\Wt eT ⟨w2,0,none⟩ 3/\Nb w2 w/\Nb w2 w0/\Nb w2 w1/\(∀jf,jf=aL eT (aB w2) [.bool Y2,ZG,Y3]->
 ∃(b35 b36 b37:Bool),af jf (aB w2) 0 [.bool b35,b36,b37]/\
 R (Value.tuple #[.agg #[x9,bj,bu,bV,cn,bI],.agg #[b35,b36,b37]]) jf))):ah 240 #[a0,.agg #[aj,aq,aw,bt,bR,bH],.agg #[bA,bQ,bw]] w R:=
 cq ⟨[(3,⟨[(12,.int .i64)],[(0,[.int .i64,.int .i64,.int .i64,.int .i64,.int .i64,.int .i64])],[]⟩)],[],[]⟩ Tryz.func240 h
def RM.vc(h:
 Aw w #[aA,ar,au,aU,aV,aZ] 107 λw0=>
 Aw w0 #[aj,aq,aw,bt,bR,bH] 107 λw1=>
 R ((ao ((if (ao (0-(ao (aj-aA))))>(ao (aj-aA)) then (ao (0-(ao (aj-aA)))) else (ao (aj-aA)))+(if (ao (0-(ao (aw-au))))>(ao (aw-au)) then (ao (0-(ao (aw-au)))) else (ao (aw-au)))))) w1.drew):ah 276 #[.agg #[aA,ar,au,aU,aV,aZ],.agg #[aj,aq,aw,bt,bR,bH]] w R:=
 cq bU Tryz.func276 h
def RN.vc{a0:Value}(h:
 Aw w #[aj,aq,aw,bt,bR,bH] 107 λw0=>
 Aw w0 #[bA,bQ,bw] 28 λw1=>
 Aw w1 #[aa,aa,aa,aa,aa,aa] 107 λw2=>
 Aw w2 #[false,false,false] 299 λw3=>
 ah 240 #[a0,.agg #[aj,aq,aw,bt,bR,bH],.agg #[bA,bQ,bw]] w3 (λe w4=>∃(x5 x6 x7 x8 x9 bj:Int)(ZH b12 Hn:Bool),e=Value.tuple #[.agg #[x5,x6,x7,x8,x9,bj],.agg #[ZH,b12,Hn]]/\K3 w w0 w1 w3 w4 (
 Aw w4 #[aa,aa,aa,aa,aa,aa] 107 λbO=>
 Aw bO #[false,false,false] 299 λdB=>
 Sw dB w4 #[x5,x6,x7,x8,x9,bj] λcF=>
 Wt cF ⟨bO,0,none⟩ 3/\Nb bO w/\Nb bO w0/\Nb bO w1/\Nb bO w4/\(∀cL,cL=aL cF (aB bO) [.bool ZH,b12,Hn]->
 ∃J18:World->Prop,
 ((0:Int)<=0/\(0:Int)<((3:Nat):Int)/\∃(b19:Bool),ld cL (ae (aB bO) ((0:Int).toNat*1))=some (.bool b19)/\
 Br (!b19)
 ((0:Int)<=2/\(2:Int)<((3:Nat):Int)/\∃(b20:Bool),ld cL (ae (aB bO) ((2:Int).toNat*1))=some (.bool b20)/\
 Br (!b20)
 (∃(MC b22 Kw:Bool),af cL.drew (aB bO) 0 [.bool MC,b22,Kw]/\
 Sw cL.drew w1 #[x5,x6,x7,x8,x9,bj] λgl=>
 af gl (aB bO) 0 [.bool MC,b22,Kw]/\Wt gl ⟨w2,0,none⟩ 3/\Nb w2 w/\Nb w2 w0/\Nb w2 w1/\Nb w2 w4/\(∀cW,cW=aL gl (aB w2) [.bool MC,b22,Kw]->
 ∃(Hq EI Q7:Bool),af cW (aB w2) 0 [.bool Hq,EI,Q7]/\
 R (Value.tuple #[.agg #[x5,x6,x7,x8,x9,bj],.agg #[Hq,EI,Q7]]) cW))
 (Br (a3<=0)
 (∃(b29 Y2 ZG:Bool),af cL.drew (aB bO) 0 [.bool b29,Y2,ZG]/\
 Sw cL.drew w1 #[x5,x6,x7,x8,x9,bj] λni=>
 af ni (aB bO) 0 [.bool b29,Y2,ZG]/\Wt ni ⟨w2,0,none⟩ 3/\Nb w2 w/\Nb w2 w0/\Nb w2 w1/\Nb w2 w4/\(∀eT,eT=aL ni (aB w2) [.bool b29,Y2,ZG]->
 ∃(YZ b35 b36:Bool),af eT (aB w2) 0 [.bool YZ,b35,b36]/\
 R (Value.tuple #[.agg #[x5,x6,x7,x8,x9,bj],.agg #[YZ,b35,b36]]) eT))
 (ah 49 #[a0,.agg #[aj,aq,aw,bt,bR,bH]] cL (Rb λb38 gw=>K4 w w0 w1 w4 cL gw (
 Br (!b38)
 (∃(b39 b40 b41:Bool),af gw.drew (aB bO) 0 [.bool b39,b40,b41]/\
 Sw gw.drew w1 #[x5,x6,x7,x8,x9,bj] λlj=>
 af lj (aB bO) 0 [.bool b39,b40,b41]/\Wt lj ⟨w2,0,none⟩ 3/\Nb w2 w/\Nb w2 w0/\Nb w2 w1/\Nb w2 w4/\(∀jg,jg=aL lj (aB w2) [.bool b39,b40,b41]->
 ∃(b44 Qo b46:Bool),af jg (aB w2) 0 [.bool b44,Qo,b46]/\
 R (Value.tuple #[.agg #[x5,x6,x7,x8,x9,bj],.agg #[b44,Qo,b46]]) jg))
 (aO [aj,aq,aw,bt,bR,bH]/\aO [bA,bQ,bw]/\aO [aa,aa,aa,aa,aa,aa]/\aO [x5,x6,x7,x8,x9,bj]/\J18 gw))))))
 (Br (a3<=0)
 (∃(b47 b48 b49:Bool),af cL.drew (aB bO) 0 [.bool b47,b48,b49]/\
 Sw cL.drew w1 #[x5,x6,x7,x8,x9,bj] λmT=>
 af mT (aB bO) 0 [.bool b47,b48,b49]/\Wt mT ⟨w2,0,none⟩ 3/\Nb w2 w/\Nb w2 w0/\Nb w2 w1/\Nb w2 w4/\(∀tH,tH=aL mT (aB w2) [.bool b47,b48,b49]->
 ∃(b52 b53 b54:Bool),af tH (aB w2) 0 [.bool b52,b53,b54]/\
 R (Value.tuple #[.agg #[x5,x6,x7,x8,x9,bj],.agg #[b52,b53,b54]]) tH))
 (ah 49 #[a0,.agg #[aj,aq,aw,bt,bR,bH]] cL (Rb λb56 xk=>K4 w w0 w1 w4 cL xk (
 Br (!b56)
 (∃(Y4 Q6 b59:Bool),af xk.drew (aB bO) 0 [.bool Y4,Q6,b59]/\
 Sw xk.drew w1 #[x5,x6,x7,x8,x9,bj] λmQ=>
 af mQ (aB bO) 0 [.bool Y4,Q6,b59]/\Wt mQ ⟨w2,0,none⟩ 3/\Nb w2 w/\Nb w2 w0/\Nb w2 w1/\Nb w2 w4/\(∀px,px=aL mQ (aB w2) [.bool Y4,Q6,b59]->
 ∃(b62 b63 b64:Bool),af px (aB w2) 0 [.bool b62,b63,b64]/\
 R (Value.tuple #[.agg #[x5,x6,x7,x8,x9,bj],.agg #[b62,b63,b64]]) px))
 (aO [aj,aq,aw,bt,bR,bH]/\aO [bA,bQ,bw]/\aO [aa,aa,aa,aa,aa,aa]/\aO [x5,x6,x7,x8,x9,bj]/\J18 xk))))))/\
 ∀as6:Nat->Value,∀(rT:World),J18 rT->
 ah 275 #[a0,.agg #[aj,aq,aw,bt,bR,bH],(1:Int),.int .i64 (if 65536<a3 then 65536 else a3)] rT (λe jH=>∃(mS qN py oq nL nM:Int)(b74:Bool),e=Value.tuple #[.agg #[mS,qN,py,oq,nL,nM],b74]/\K4 w w0 w1 w4 rT jH (
 Aw jH #[aa,aa,aa,aa,aa,aa] 107 λsY=>
 Sw sY jH #[mS,qN,py,oq,nL,nM] λj6=>
 Aw j6 #[false,false,false] 299 λvf=>
 Wt vf ⟨j6,0,none⟩ 3/\Nb j6 w/\Nb j6 w0/\Nb j6 w1/\Nb j6 w4/\Nb j6 jH/\(∀qu,qu=aL vf (aB j6) [.bool false,true,false]->
 Aw qu #[aa,aa,aa,aa,aa,aa] 107 λl6=>
 Sw l6 qu #[mS,qN,py,oq,nL,nM] λvL=>
 ah 275 #[a0,.agg #[mS,qN,py,oq,nL,nM],(0:Int),bA] vL (λe wC=>∃(qt rV vJ vK Hs qO:Int)(b88:Bool),e=Value.tuple #[.agg #[qt,rV,vJ,vK,Hs,qO],b88]/\K6 w w0 w1 w4 jH qu vL wC (
 Sw wC qu #[qt,rV,vJ,vK,Hs,qO] λpf=>
 (0:Int)<=0/\(0:Int)<((3:Nat):Int)/\(true=true/\Wr pf (ae (aB j6) ((0:Int).toNat*1)) 1)/\bz (ae (aB j6) ((0:Int).toNat*1))≠some w.heap.size/\bz (ae (aB j6) ((0:Int).toNat*1))≠some w0.heap.size/\bz (ae (aB j6) ((0:Int).toNat*1))≠some w1.heap.size/\bz (ae (aB j6) ((0:Int).toNat*1))≠some w4.heap.size/\bz (ae (aB j6) ((0:Int).toNat*1))≠some jH.heap.size/\bz (ae (aB j6) ((0:Int).toNat*1))≠some qu.heap.size/\(∀pg,pg=aL pf (ae (aB j6) ((0:Int).toNat*1)) [.bool b88]->
 ah 275 #[a0,.agg #[qt,rV,vJ,vK,Hs,qO],(2:Int),bw] pg (λe w91=>∃(xl tJ Kx yE EK EM:Int)(b98:Bool),e=Value.tuple #[.agg #[xl,tJ,Kx,yE,EK,EM],b98]/\K6 w w0 w1 w4 jH qu pg w91 (
 Sw w91 qu #[xl,tJ,Kx,yE,EK,EM] λQ8=>
 (0:Int)<=2/\(2:Int)<((3:Nat):Int)/\(true=true/\Wr Q8 (ae (aB j6) ((2:Int).toNat*1)) 1)/\bz (ae (aB j6) ((2:Int).toNat*1))≠some w.heap.size/\bz (ae (aB j6) ((2:Int).toNat*1))≠some w0.heap.size/\bz (ae (aB j6) ((2:Int).toNat*1))≠some w1.heap.size/\bz (ae (aB j6) ((2:Int).toNat*1))≠some w4.heap.size/\bz (ae (aB j6) ((2:Int).toNat*1))≠some jH.heap.size/\bz (ae (aB j6) ((2:Int).toNat*1))≠some qu.heap.size/\(∀qF,qF=aL Q8 (ae (aB j6) ((2:Int).toNat*1)) [.bool b98]->
 ah 275 #[a0,.agg #[xl,tJ,Kx,yE,EK,EM],(1:Int),(ao (0-(ao (qN-aq))))] qF (λe IG=>∃(qG sZ pJ ph np nq:Int)(as7:Bool),e=Value.tuple #[.agg #[qG,sZ,pJ,ph,np,nq],as7]/\K6 w w0 w1 w4 jH qu qF IG (
 Sw IG qu #[qG,sZ,pJ,ph,np,nq] λHu=>
 ah 276 #[.agg #[aj,aq,aw,bt,bR,bH],.agg #[qG,sZ,pJ,ph,np,nq]] Hu.drew (Ri λnr Hv=>K6 w w0 w1 w4 jH qu Hu.drew Hv (
 af Hv (aB w4) 0 [x5,x6,x7,x8,x9,bj]/\af Hv w 0 [aj,aq,aw,bt,bR,bH]/\ah 276 #[.agg #[aj,aq,aw,bt,bR,bH],.agg #[x5,x6,x7,x8,x9,bj]] Hv (Ri λta AO=>K6 w w0 w1 w4 jH qu Hv AO (
 Br (nr<=ta)
 (∃(akn Md D9:Bool),af AO.drew (aB bO) 0 [.bool akn,Md,D9]/\
 Sw AO.drew w1 #[x5,x6,x7,x8,x9,bj] λQs=>
 af Qs (aB bO) 0 [.bool akn,Md,D9]/\Wt Qs ⟨w2,0,none⟩ 3/\Nb w2 w/\Nb w2 w0/\Nb w2 w1/\Nb w2 w4/\Nb w2 jH/\Nb w2 qu/\(∀Hw,Hw=aL Qs (aB w2) [.bool akn,Md,D9]->
 ∃(anx anz anA:Bool),af Hw (aB w2) 0 [.bool anx,anz,anA]/\
 R (Value.tuple #[.agg #[x5,x6,x7,x8,x9,bj],.agg #[anx,anz,anA]]) Hw))
 (∃(ako akp akq:Bool),af AO.drew (aB j6) 0 [.bool ako,akp,akq]/\
 Sw AO.drew w1 #[qG,sZ,pJ,ph,np,nq] λHx=>
 af Hx (aB j6) 0 [.bool ako,akp,akq]/\Wt Hx ⟨w2,0,none⟩ 3/\Nb w2 w/\Nb w2 w0/\Nb w2 w1/\Nb w2 w4/\Nb w2 jH/\Nb w2 qu/\(∀akr,akr=aL Hx (aB w2) [.bool ako,akp,akq]->
 ∃(anB acN anC:Bool),af akr (aB w2) 0 [.bool anB,acN,anC]/\
 R (Value.tuple #[.agg #[qG,sZ,pJ,ph,np,nq],.agg #[anB,acN,anC]]) akr))))))))))))))))))))):ah 236 #[a0,.agg #[aj,aq,aw,bt,bR,bH],.agg #[bA,bQ,bw],a3] w R:=
 cq ⟨[],[(4,⟨[],[],[]⟩)],[]⟩ Tryz.func236 h
def Dx.vc{aA:Bool}{ar:Bool}{au:Bool}(h:
 Aw w #[aA,ar,au] 299 λw0=>
 Aw w0 #[aj,aq,aw] 28 λw1=>
 Aw w1 #[aa,aa,aa] 28 λw2=>
 ∃(b3 b4 b5:Bool),af w2 w 0 [.bool b3,b4,b5]/\
 ∃I6:Nat->Int->Int->Int->Int->World->Prop,
 (∃n7,aO [aa,aa,aa]/\I6 n7 (0) aj aq aw w2)/\
 ∀(n7:Nat)(us8:Nat->Value)(x9 bj bu bV:Int)(bK:World),I6 n7 x9 bj bu bV bK->
 Br (x9<3)
 (((0:Int)<=x9/\x9<((3:Nat):Int))/\∃(Vu:Bool),([.bool b3,b4,b5]:LV)[(x9:Int).toNat*1]? =some (.bool Vu)/\
 Br Vu
 (ah 155 #[.agg #[bj,bu,bV],x9,(0:Int)] bK (iF λdh cA cu cF=>K2 w0 w1 bK cF (
 Sw cF w0 #[dh,cA,cu] λeW=>
 ∃HT,HT<n7/\aO [aa,aa,aa]/\I6 HT ((ao (x9+1))) dh cA cu eW)))
 (∃HT,HT<n7/\aO [aa,aa,aa]/\I6 HT ((ao (x9+1))) bj bu bV bK))
 (Sw bK w1 #[bj,bu,bV] λeZ=>
 R (Value.agg #[bj,bu,bV]) eZ)):ah 238 #[.agg #[aA,ar,au],.agg #[aj,aq,aw]] w R:=
 cq ⟨[(2,⟨[(8,.int .i64)],[(0,[.int .i64,.int .i64,.int .i64])],[]⟩)],[],[]⟩ Tryz.func238 h
def H5.vc{bD:Bool}(h:
 Aw w #[aA,ar,au,aU,aV,aZ,bG,bC,bD] 70 λw0=>
 Aw w0 #[aj,aq,aw] 28 λw1=>
 Aw w1 #[aa,aa,aa] 28 λw2=>
 ah 145 #[.agg #[aA,ar,au],.agg #[aj,aq,aw]] w2 (iF λx4 x5 x6 w3=>K3 w w0 w1 w2 w3 (
 Aw w3 #[aa,aa,aa] 28 λw7=>
 Sw w7 w3 #[x4,x5,x6] λw8=>
 ah 277 #[x4] w8.drew (Ri λbj w9=>K4 w w0 w1 w3 w8.drew w9 (
 af w9 w 0 [aA,ar,au]/\af w9 (dC w3 2) 0 [x6]/\af w9 (dC w3 1) 0 [x5]/\ah 277 #[x5] w9 (Ri λbV bg=>K4 w w0 w1 w3 w9 bg (
 af bg w 0 [aA,ar,au]/\af bg (dC w3 2) 0 [x6]/\ah 277 #[x6] bg (Ri λbI bK=>K4 w w0 w1 w3 bg bK (
 af bK w 0 [aA,ar,au]/\ah 154 #[.agg #[bj,bV,bI],.agg #[aA,ar,au]] bK (iF λcH dh cA dB=>K4 w w0 w1 w3 bK dB (
 Sw dB w1 #[cH,dh,cA] λgg=>
 R (Value.agg #[cH,dh,cA]) gg))))))))))):ah 237 #[.agg #[aA,ar,au,aU,aV,aZ,bG,bC,bD],.agg #[aj,aq,aw]] w R:=
 cq bU Tryz.func237 h
def Dy.vc(h:
 R (Value.int .i64 (if 70368744177664<(if (-70368744177664)>a0 then (-70368744177664) else a0) then 70368744177664 else (if (-70368744177664)>a0 then (-70368744177664) else a0))) w):ah 277 #[a0] w R:=
 cq bU Tryz.func277 h
def RO.vc(h:
 ah 214 #[a0] w (λe w0=>∃(x1:Int),e=x1/\
 Br (x1<0)
 (R (Value.tuple #[.int .u64 (dc (ao (0-x1))),true]) w0)
 (R (Value.tuple #[.int .u64 (dc x1),false]) w0))):ah 260 #[a0] w R:=
 cq bU Tryz.func260 h
def Nk.vc{a1:Bool}{a2:Bool}(h:
 Aw w #[a1] 4 λw0=>
 Aw w0 #[a2] 4 λw1=>
 Br (a0>=140737488355328)
 (Wr w1 w 1/\(∀w2,w2=aL w1 w [.bool false]->
 ∃(b3:Bool),ld w2 (aB w0)=some (.bool b3)/\
 Br b3
 (ah 285 #[.int .u64 140737488355328,.pointer (aB w0),w] w2 (λe w4=>∃(x5:Int),e=Value.int .u64 x5/\
 R ((ao (0-(ao x5)))) w4))
 (R ((ao 140737488355328)) w2)))
 (∃(b6:Bool),ld w1 (aB w0)=some (.bool b6)/\
 Br b6
 (ah 285 #[.int .u64 a0,.pointer (aB w0),w] w1 (λe w7=>∃(x8:Int),e=Value.int .u64 x8/\
 R ((ao (0-(ao x8)))) w7))
 (R ((ao a0)) w1))):ah 261 #[.int .u64 a0,a1,a2] w R:=
 cq bU Tryz.func261 h
def H6.vc{c0:Addr}{c1:Addr}(h:
 ∃(b0:Bool),ld w (some c0)=some (.bool b0)/\
 Br b0
 (∃(b1:Bool),ld w (some c1)=some (.bool b1)/\
 Br b1
 (R (Value.int .u64 (dc (a0+1))) w)
 (R (Value.int .u64 a0) w))
 (R (Value.int .u64 a0) w)):ah 285 #[.int .u64 a0,c0,c1] w R:=
 cq bU Tryz.func285 h
def Dz.vc(h:
 R (Value.tuple #[.int .u64 (dc ((dc ((dc (((a0:Int).fdiv (2 ^(min (32:Int).toNat 64)))*((a1:Int).fdiv (2 ^(min (32:Int).toNat 64)))))+(((dc ((dc (((a0:Int).fdiv (2 ^(min (32:Int).toNat 64)))*(oG .u64 a1 4294967295)))+(((dc ((oG .u64 a0 4294967295)*(oG .u64 a1 4294967295))):Int).fdiv (2 ^(min (32:Int).toNat 64))))):Int).fdiv (2 ^(min (32:Int).toNat 64)))))+(((dc ((oG .u64 (dc ((dc (((a0:Int).fdiv (2 ^(min (32:Int).toNat 64)))*(oG .u64 a1 4294967295)))+(((dc ((oG .u64 a0 4294967295)*(oG .u64 a1 4294967295))):Int).fdiv (2 ^(min (32:Int).toNat 64))))) 4294967295)+(dc ((oG .u64 a0 4294967295)*((a1:Int).fdiv (2 ^(min (32:Int).toNat 64))))))):Int).fdiv (2 ^(min (32:Int).toNat 64))))),.int .u64 (dc (a0*a1))]) w):ah 273 #[.int .u64 a0,.int .u64 a1] w R:=
 cq bU Tryz.func273 h
def Wg.vc(h:
 ah 260 #[a0] w (λe w0=>∃(x1:Int)(b2:Bool),e=Value.tuple #[.int .u64 x1,b2]/\
 ah 260 #[a1] w0 (λe w3=>∃(x4:Int)(b5:Bool),e=Value.tuple #[.int .u64 x4,b5]/\
 ah 273 #[.int .u64 x1,.int .u64 x4] w3 (λe w6=>∃(x7 x8:Int),e=Value.tuple #[.int .u64 x7,.int .u64 x8]/\
 Br (x7>0)
 (ah 261 #[.int .u64 140737488355328,.bool (((Int.tmod x8 65536):Int) !=0),.bool (!(b2==b5))] w6 (λe w9=>∃(bj:Int),e=bj/\
 R bj w9))
 (ah 261 #[.int .u64 ((x8:Int).fdiv (2 ^(min (16:Int).toNat 64))),.bool (((Int.tmod x8 65536):Int) !=0),.bool (!(b2==b5))] w6 (λe bg=>∃(bV:Int),e=bV/\
 R bV bg)))))):ah 232 #[a0,a1] w R:=
 cq bU Tryz.func232 h
def zE.vc(h:
 ah 232 #[.int .i64 (if 65536<(if (-65536)>a0 then (-65536) else a0) then 65536 else (if (-65536)>a0 then (-65536) else a0)),(16384:Int)] w (λe w0=>∃(x1:Int),e=x1/\
 R x1 w0)):ah 231 #[a0] w R:=
 cq bU Tryz.func231 h
def DA.vc{bD:Bool}{a1:Value}{bw:Bool}(h:
 Aw w #[aA,ar,au,aU,aV,aZ,bG,bC,bD] 70 λw0=>
 Aw w0 #[bA,bQ,bw] 109 λw1=>
 Aw w1 #[aa,aa,aa,aa,aa,aa,aa,aa,false] 70 λw2=>
 ah 231 #[bA] w2.drew (Ri λx4 w3=>K3 w w0 w1 w2.drew w3 (
 af w3 (dC w0 1) 0 [bQ]/\ah 231 #[bQ] w3 (Ri λx6 w5=>K3 w w0 w1 w3 w5 (
 Sw w5 w #[aA,ar,au,x4,aV,aZ,bG,bC,bD] λw7=>
 Sw w7 w #[aA,ar,au,x4,aV,x6,bG,bC,bD] λw8=>
 Sw w8 w1 #[aA,ar,au,x4,aV,x6,bG,bC,bD] λw9=>
 R (Value.agg #[aA,ar,au,x4,aV,x6,bG,bC,bD]) w9))))):ah 166 #[.agg #[aA,ar,au,aU,aV,aZ,bG,bC,bD],a1,.agg #[bA,bQ,bw]] w R:=
 cq bU Tryz.func166 h
def zF.vc{c0:Addr}{c1:Addr}(h:
 ∃(p0:Option Addr),ld w.drew (some c0)=some (.pointer p0)/\
 ∃(p1:Option Addr),ld w.drew (some c0)=some (.pointer p1)/\
 aP (dq p1) (∃(x2:Int),ld w.drew p1=some (.int .i64 x2)/\
 aP (dq p0) (((p0).isSome=true/\Wr w.drew p0 1)/\(∀w3,w3=aL w.drew p0 [.int .i64 (if (ao (0-a2))>(ao (x2-a1)) then (ao (0-a2)) else (ao (x2-a1)))]->
 ∃(b4:Bool),ld w3 (ae (some c1) 2)=some (.bool b4)/\
 Br b4
 (∃(p5:Option Addr),ld w3 (some c0)=some (.pointer p5)/\
 aP (dq p5) (((p5).isSome=true/\Wr w3 p5 1)/\(∀w6,w6=aL w3 p5 [a0]->
 R po w6)))
 (R po w3))))):ah 233 #[a0,a1,a2,c0,c1] w R:=
 cq bU Tryz.func233 h
def DB.vc{bD:Bool}{a1:Value}{bw:Bool}(h:
 Aw w #[aA,ar,au,aU,aV,aZ,bG,bC,bD] 70 λw0=>
 Aw w0 #[bA,bQ,bw] 109 λw1=>
 Aw w1 #[aa,aa,aa,aa,aa,aa,aa,aa,false] 70 λw2=>
 ah 48 #[.agg #[aA,ar,au,aU,aV,aZ,bG,bC,bD]] w2 (xF λx4 x5 x6 x7 x8 x9 w3=>K3 w w0 w1 w2 w3 (
 Aw w3 #[aa,aa,aa,aa,aa,aa] 107 λbP=>
 Aw bP #[.pointer none] 296 λbg=>
 Sw bg w3 #[x4,x5,x6,x7,x8,x9] λdj=>
 Sw dj bP #[.pointer (dC w 4)] λbK=>
 ah 234 #[a1,.agg #[x4,x5,x6,x7,x8,x9]] bK (Rb λVu bO=>K2 w1 w3 bK bO (
 Br Vu
 (ah 233 #[(8192:Int),(4096:Int),(8192:Int),.pointer (aB bP),.pointer (aB w0)] bO (Rt λcF=>K2 w1 w3 bO cF (
 ∃(dh cA cu di db ef dG eU:Int)(TS:Bool),af cF w 0 [dh,cA,cu,di,db,ef,dG,eU,TS]/\
 Sw cF w1 #[dh,cA,cu,di,db,ef,dG,eU,TS] λfx=>
 R (Value.agg #[dh,cA,cu,di,db,ef,dG,eU,TS]) fx)))
 (ah 235 #[a1,.agg #[x4,x5,x6,x7,x8,x9]] bO (Rb λQ7 dX=>K2 w1 w3 bO dX (
 Br Q7
 (ah 233 #[(6144:Int),(1024:Int),(8192:Int),.pointer (aB bP),.pointer (aB w0)] dX (Rt λdW=>K2 w1 w3 dX dW (
 ∃(jN iD ic eL ie kI nh gI:Int)(b38:Bool),af dW w 0 [jN,iD,ic,eL,ie,kI,nh,gI,b38]/\
 Sw dW w1 #[jN,iD,ic,eL,ie,kI,nh,gI,b38] λkx=>
 R (Value.agg #[jN,iD,ic,eL,ie,kI,nh,gI,b38]) kx)))
 (∃(b40:Bool),ld dX (dC w0 2)=some (.bool b40)/\
 Br b40
 (ah 49 #[a1,.agg #[x4,x5,x6,x7,x8,x9]] dX (Rb λb42 jw=>K2 w1 w3 dX jw (
 Wr jw (dC w0 2) 1/\Nq (dC w0 2) w1/\Nq (dC w0 2) w3/\(∀jg,jg=aL jw (dC w0 2) [.bool b42]->
 ah 233 #[(28672:Int),(4096:Int),(262144:Int),.pointer (aB bP),.pointer (aB w0)] jg (Rt λlg=>K2 w1 w3 jg lg (
 ∃(pI iz sW yL HV tc nk lh:Int)(b53:Bool),af lg w 0 [pI,iz,sW,yL,HV,tc,nk,lh,b53]/\
 Sw lg w1 #[pI,iz,sW,yL,HV,tc,nk,lh,b53] λHy=>
 R (Value.agg #[pI,iz,sW,yL,HV,tc,nk,lh,b53]) Hy))))))
 (Wr dX (dC w0 2) 1/\Nq (dC w0 2) w1/\Nq (dC w0 2) w3/\(∀xk,xk=aL dX (dC w0 2) [.bool false]->
 ah 233 #[(28672:Int),(4096:Int),(262144:Int),.pointer (aB bP),.pointer (aB w0)] xk (Rt λqH=>K2 w1 w3 xk qH (
 ∃(oo wy qq lX vI om uf wD:Int)(b65:Bool),af qH w 0 [oo,wy,qq,lX,vI,om,uf,wD,b65]/\
 Sw qH w1 #[oo,wy,qq,lX,vI,om,uf,wD,b65] λrT=>
 R (Value.agg #[oo,wy,qq,lX,vI,om,uf,wD,b65]) rT))))))))))))):ah 167 #[.agg #[aA,ar,au,aU,aV,aZ,bG,bC,bD],a1,.agg #[bA,bQ,bw]] w R:=
 cq bU Tryz.func167 h
def FK.vc{bD:Bool}{a1:Value}{bw:Bool}(h:
 Aw w #[aA,ar,au,aU,aV,aZ,bG,bC,bD] 70 λw0=>
 Aw w0 #[bA,bQ,bw] 109 λw1=>
 Aw w1 #[aa,aa,aa,aa,aa,aa,aa,aa,false] 70 λw2=>
 ah 48 #[.agg #[aA,ar,au,aU,aV,aZ,bG,bC,bD]] w2 (xF λx4 x5 x6 x7 x8 x9 w3=>K3 w w0 w1 w2 w3 (
 Aw w3 #[aa,aa,aa,aa,aa,aa] 107 λbP=>
 Sw bP w3 #[x4,x5,x6,x7,x8,x9] λbg=>
 ∃Cv:Option Addr->Option Addr->World->Prop,
 ((ah 237 #[.agg #[aA,ar,au,aU,aV,aZ,bG,bC,bD],.agg #[aU,aV,aZ]] bg.drew (iF λbI cw cH bK=>K4 w w0 w1 w3 bg.drew bK (
 af bK (aB w3) 0 [x4,x5,x6,x7,x8,x9]/\(ah 236 #[a1,.agg #[x4,x5,x6,x7,x8,x9],.agg #[bI,cw,cH],(32768:Int)] bK (λe cL=>∃(cA cu di db ef dG:Int)(b24 TS Hq:Bool),e=Value.tuple #[.agg #[cA,cu,di,db,ef,dG],.agg #[b24,TS,Hq]]/\K4 w w0 w1 w3 bK cL (
 (Aw cL #[aa,aa,aa,aa,aa,aa] 107 λdX=>
 Aw dX #[false,false,false] 299 λiw=>
 Sw iw cL #[cA,cu,di,db,ef,dG] λdW=>
 Wt dW ⟨dX,0,none⟩ 3/\Nb dX w/\Nb dX w0/\Nb dX w1/\Nb dX w3/\Nb dX cL/\(∀fE,fE=aL dW (aB dX) [.bool b24,TS,Hq]->
 aO [aA,ar,au,aU,aV,aZ,bG,bC,bD]/\aO [bA,bQ,bw]/\aO [aa,aa,aa,aa,aa,aa,aa,aa,false]/\aO [x4,x5,x6,x7,x8,x9]/\Cv (aB cL) (aB dX) fE))/\(Aw cL #[false,false,false] 299 λgf=>
 Aw gf #[aa,aa,aa,aa,aa,aa] 107 λni=>
 Sw ni gf #[cA,cu,di,db,ef,dG] λeT=>
 Wt eT ⟨cL,0,none⟩ 3/\Nb cL w/\Nb cL w0/\Nb cL w1/\Nb cL w3/\Nb cL gf/\(∀jf,jf=aL eT (aB cL) [.bool b24,TS,Hq]->
 aO [aA,ar,au,aU,aV,aZ,bG,bC,bD]/\aO [bA,bQ,bw]/\aO [aa,aa,aa,aa,aa,aa,aa,aa,false]/\aO [x4,x5,x6,x7,x8,x9]/\Cv (aB gf) (aB cL) jf)))))/\(Aw bK #[aa,aa,aa,aa,aa,aa] 107 λkh=>
 (ah 236 #[a1,.agg #[x4,x5,x6,x7,x8,x9],.agg #[bI,cw,cH],(32768:Int)] kh (λe kG=>∃(gI gk oh mP lC nj:Int)(Qp b44 Qo:Bool),e=Value.tuple #[.agg #[gI,gk,oh,mP,lC,nj],.agg #[Qp,b44,Qo]]/\K5 w w0 w1 w3 bK kh kG (
 Aw kG #[false,false,false] 299 λqo=>
 Sw qo bK #[gI,gk,oh,mP,lC,nj] λlW=>
 Wt lW ⟨kG,0,none⟩ 3/\Nb kG w/\Nb kG w0/\Nb kG w1/\Nb kG w3/\Nb kG bK/\(∀gj,gj=aL lW (aB kG) [.bool Qp,b44,Qo]->
 aO [aA,ar,au,aU,aV,aZ,bG,bC,bD]/\aO [bA,bQ,bw]/\aO [aa,aa,aa,aa,aa,aa,aa,aa,false]/\aO [x4,x5,x6,x7,x8,x9]/\Cv (aB bK) (aB kG) gj))))/\(Aw kh #[false,false,false] 299 λlq=>
 ah 236 #[a1,.agg #[x4,x5,x6,x7,x8,x9],.agg #[bI,cw,cH],(32768:Int)] lq (λe mT=>∃(nk lh jA qp lY sX:Int)(Y4 Q6 b59:Bool),e=Value.tuple #[.agg #[nk,lh,jA,qp,lY,sX],.agg #[Y4,Q6,b59]]/\K5 w w0 w1 w3 bK lq mT (
 Sw mT bK #[nk,lh,jA,qp,lY,sX] λmQ=>
 Wt mQ ⟨kh,0,none⟩ 3/\Nb kh w/\Nb kh w0/\Nb kh w1/\Nb kh w3/\Nb kh bK/\(∀px,px=aL mQ (aB kh) [.bool Y4,Q6,b59]->
 aO [aA,ar,au,aU,aV,aZ,bG,bC,bD]/\aO [bA,bQ,bw]/\aO [aa,aa,aa,aa,aa,aa,aa,aa,false]/\aO [x4,x5,x6,x7,x8,x9]/\Cv (aB bK) (aB kh) px)))))/\(Aw bK #[false,false,false] 299 λiH=>
 (ah 236 #[a1,.agg #[x4,x5,x6,x7,x8,x9],.agg #[bI,cw,cH],(32768:Int)] iH (λe Dq=>∃(wD rW mg pd mS qN:Int)(b70 b71 b72:Bool),e=Value.tuple #[.agg #[wD,rW,mg,pd,mS,qN],.agg #[b70,b71,b72]]/\K4 w w0 w1 w3 iH Dq (
 Aw Dq #[aa,aa,aa,aa,aa,aa] 107 λKy=>
 Sw Ky Dq #[wD,rW,mg,pd,mS,qN] λmU=>
 Wt mU ⟨bK,0,none⟩ 3/\Nb bK w/\Nb bK w0/\Nb bK w1/\Nb bK w3/\Nb bK Dq/\(∀sY,sY=aL mU (aB bK) [.bool b70,b71,b72]->
 aO [aA,ar,au,aU,aV,aZ,bG,bC,bD]/\aO [bA,bQ,bw]/\aO [aa,aa,aa,aa,aa,aa,aa,aa,false]/\aO [x4,x5,x6,x7,x8,x9]/\Cv (aB Dq) (aB bK) sY))))/\(Aw iH #[aa,aa,aa,aa,aa,aa] 107 λj6=>
 ah 236 #[a1,.agg #[x4,x5,x6,x7,x8,x9],.agg #[bI,cw,cH],(32768:Int)] j6 (λe vf=>∃(D8 AM tI rP qt rV:Int)(b84 b85 b86:Bool),e=Value.tuple #[.agg #[D8,AM,tI,rP,qt,rV],.agg #[b84,b85,b86]]/\K5 w w0 w1 w3 iH j6 vf (
 Sw vf iH #[D8,AM,tI,rP,qt,rV] λCs=>
 Wt Cs ⟨bK,0,none⟩ 3/\Nb bK w/\Nb bK w0/\Nb bK w1/\Nb bK w3/\Nb bK iH/\(∀MG,MG=aL Cs (aB bK) [.bool b84,b85,b86]->
 aO [aA,ar,au,aU,aV,aZ,bG,bC,bD]/\aO [bA,bQ,bw]/\aO [aa,aa,aa,aa,aa,aa,aa,aa,false]/\aO [x4,x5,x6,x7,x8,x9]/\Cv (aB iH) (aB bK) MG))))))))/\(Aw bg.drew #[aa,aa,aa,aa,aa,aa] 107 λpf=>
 (ah 237 #[.agg #[aA,ar,au,aU,aV,aZ,bG,bC,bD],.agg #[aU,aV,aZ]] pf (iF λyP xl tJ pg=>K4 w w0 w1 w3 pf pg (
 pg.heap[bg.drew.heap.size]? =pf.heap[bg.drew.heap.size]?/\
 af pg (aB w3) 0 [x4,x5,x6,x7,x8,x9]/\(ah 236 #[a1,.agg #[x4,x5,x6,x7,x8,x9],.agg #[yP,xl,tJ],(32768:Int)] pg (λe HW=>∃(yE EK EM MH Kv td:Int)(acP acQ Qt:Bool),e=Value.tuple #[.agg #[yE,EK,EM,MH,Kv,td],.agg #[acP,acQ,Qt]]/\K4 w w0 w1 w3 pg HW (
 HW.heap[bg.drew.heap.size]? =pg.heap[bg.drew.heap.size]?/\
 Aw HW #[false,false,false] 299 λakt=>
 Sw akt bg.drew.heap.size #[yE,EK,EM,MH,Kv,td] λIH=>
 Wt IH ⟨HW,0,none⟩ 3/\Nb HW w/\Nb HW w0/\Nb HW w1/\Nb HW w3/\bz (aB HW)≠some bg.drew.heap.size/\(∀acR,acR=aL IH (aB HW) [.bool acP,acQ,Qt]->
 aO [aA,ar,au,aU,aV,aZ,bG,bC,bD]/\aO [bA,bQ,bw]/\aO [aa,aa,aa,aa,aa,aa,aa,aa,false]/\aO [x4,x5,x6,x7,x8,x9]/\Cv (aB bg.drew.heap.size) (aB HW) acR))))/\(Aw pg #[false,false,false] 299 λHz=>
 ah 236 #[a1,.agg #[x4,x5,x6,x7,x8,x9],.agg #[yP,xl,tJ],(32768:Int)] Hz (λe Mf=>∃(pj jB nr ig ta vg:Int)(Md D9 acS:Bool),e=Value.tuple #[.agg #[pj,jB,nr,ig,ta,vg],.agg #[Md,D9,acS]]/\K4 w w0 w1 w3 Hz Mf (
 Mf.heap[bg.drew.heap.size]? =Hz.heap[bg.drew.heap.size]?/\
 Sw Mf bg.drew.heap.size #[pj,jB,nr,ig,ta,vg] λHw=>
 Wt Hw ⟨pg,0,none⟩ 3/\Nb pg w/\Nb pg w0/\Nb pg w1/\Nb pg w3/\bz (aB pg)≠some bg.drew.heap.size/\(∀pK,pK=aL Hw (aB pg) [.bool Md,D9,acS]->
 aO [aA,ar,au,aU,aV,aZ,bG,bC,bD]/\aO [bA,bQ,bw]/\aO [aa,aa,aa,aa,aa,aa,aa,aa,false]/\aO [x4,x5,x6,x7,x8,x9]/\Cv (aB bg.drew.heap.size) (aB pg) pK)))))))/\(Aw pf #[false,false,false] 299 λHA=>
 ah 237 #[.agg #[aA,ar,au,aU,aV,aZ,bG,bC,bD],.agg #[aU,aV,aZ]] HA (iF λY5 AP Ea yF=>K4 w w0 w1 w3 HA yF (
 yF.heap[bg.drew.heap.size]? =HA.heap[bg.drew.heap.size]?/\
 af yF (aB w3) 0 [x4,x5,x6,x7,x8,x9]/\ah 236 #[a1,.agg #[x4,x5,x6,x7,x8,x9],.agg #[Y5,AP,Ea],(32768:Int)] yF (λe Hx=>∃(AQ AR qI pL pM Eb:Int)(acT acU acV:Bool),e=Value.tuple #[.agg #[AQ,AR,qI,pL,pM,Eb],.agg #[acT,acU,acV]]/\K4 w w0 w1 w3 yF Hx (
 Hx.heap[bg.drew.heap.size]? =yF.heap[bg.drew.heap.size]?/\
 Sw Hx bg.drew.heap.size #[AQ,AR,qI,pL,pM,Eb] λacW=>
 Wt acW ⟨pf,0,none⟩ 3/\Nb pf w/\Nb pf w0/\Nb pf w1/\Nb pf w3/\bz (aB pf)≠some bg.drew.heap.size/\(∀acX,acX=aL acW (aB pf) [.bool acT,acU,acV]->
 aO [aA,ar,au,aU,aV,aZ,bG,bC,bD]/\aO [bA,bQ,bw]/\aO [aa,aa,aa,aa,aa,aa,aa,aa,false]/\aO [x4,x5,x6,x7,x8,x9]/\Cv (aB bg.drew.heap.size) (aB pf) acX)))))))/\(Aw bg.drew #[false,false,false] 299 λvh=>
 (ah 237 #[.agg #[aA,ar,au,aU,aV,aZ,bG,bC,bD],.agg #[aU,aV,aZ]] vh (iF λII Qu acY te=>K4 w w0 w1 w3 vh te (
 af te (aB w3) 0 [x4,x5,x6,x7,x8,x9]/\(ah 236 #[a1,.agg #[x4,x5,x6,x7,x8,x9],.agg #[II,Qu,acY],(32768:Int)] te (λe qJ=>∃(acZ TT TU TV TW TX:Int)(TY ac0 ac1:Bool),e=Value.tuple #[.agg #[acZ,TT,TU,TV,TW,TX],.agg #[TY,ac0,ac1]]/\K4 w w0 w1 w3 te qJ (
 Aw qJ #[aa,aa,aa,aa,aa,aa] 107 λIJ=>
 Sw IJ qJ #[acZ,TT,TU,TV,TW,TX] λac2=>
 Wt ac2 ⟨bg.drew.heap.size,0,none⟩ 3/\Nq (aB bg.drew.heap.size) w/\Nq (aB bg.drew.heap.size) w0/\Nq (aB bg.drew.heap.size) w1/\Nq (aB bg.drew.heap.size) w3/\Nq (aB bg.drew.heap.size) qJ/\(∀Ec,Ec=aL ac2 (aB bg.drew.heap.size) [.bool TY,ac0,ac1]->
 aO [aA,ar,au,aU,aV,aZ,bG,bC,bD]/\aO [bA,bQ,bw]/\aO [aa,aa,aa,aa,aa,aa,aa,aa,false]/\aO [x4,x5,x6,x7,x8,x9]/\Cv (aB qJ) (aB bg.drew.heap.size) Ec))))/\(Aw te #[aa,aa,aa,aa,aa,aa] 107 λac3=>
 ah 236 #[a1,.agg #[x4,x5,x6,x7,x8,x9],.agg #[II,Qu,acY],(32768:Int)] ac3 (λe Ed=>∃(TZ T0 T3 ac4 T4 ac5:Int)(ac6 ac7 ac8:Bool),e=Value.tuple #[.agg #[TZ,T0,T3,ac4,T4,ac5],.agg #[ac6,ac7,ac8]]/\K5 w w0 w1 w3 te ac3 Ed (
 Sw Ed te #[TZ,T0,T3,ac4,T4,ac5] λIK=>
 Wt IK ⟨bg.drew.heap.size,0,none⟩ 3/\Nq (aB bg.drew.heap.size) w/\Nq (aB bg.drew.heap.size) w0/\Nq (aB bg.drew.heap.size) w1/\Nq (aB bg.drew.heap.size) w3/\Nq (aB bg.drew.heap.size) te/\(∀ac9,ac9=aL IK (aB bg.drew.heap.size) [.bool ac6,ac7,ac8]->
 aO [aA,ar,au,aU,aV,aZ,bG,bC,bD]/\aO [bA,bQ,bw]/\aO [aa,aa,aa,aa,aa,aa,aa,aa,false]/\aO [x4,x5,x6,x7,x8,x9]/\Cv (aB te) (aB bg.drew.heap.size) ac9)))))))/\(Aw vh #[aa,aa,aa,aa,aa,aa] 107 λada=>
 ah 237 #[.agg #[aA,ar,au,aU,aV,aZ,bG,bC,bD],.agg #[aU,aV,aZ]] ada (iF λY6 Qv Y7 Mg=>K5 w w0 w1 w3 vh ada Mg (
 af Mg (aB w3) 0 [x4,x5,x6,x7,x8,x9]/\ah 236 #[a1,.agg #[x4,x5,x6,x7,x8,x9],.agg #[Y6,Qv,Y7],(32768:Int)] Mg (λe adb=>∃(Qw yG ade adf adg adh:Int)(adi adj adk:Bool),e=Value.tuple #[.agg #[Qw,yG,ade,adf,adg,adh],.agg #[adi,adj,adk]]/\K5 w w0 w1 w3 vh Mg adb (
 Sw adb vh #[Qw,yG,ade,adf,adg,adh] λadl=>
 Wt adl ⟨bg.drew.heap.size,0,none⟩ 3/\Nq (aB bg.drew.heap.size) w/\Nq (aB bg.drew.heap.size) w0/\Nq (aB bg.drew.heap.size) w1/\Nq (aB bg.drew.heap.size) w3/\Nq (aB bg.drew.heap.size) vh/\(∀adm,adm=aL adl (aB bg.drew.heap.size) [.bool adi,adj,adk]->
 aO [aA,ar,au,aU,aV,aZ,bG,bC,bD]/\aO [bA,bQ,bw]/\aO [aa,aa,aa,aa,aa,aa,aa,aa,false]/\aO [x4,x5,x6,x7,x8,x9]/\Cv (aB vh) (aB bg.drew.heap.size) adm))))))))/\
 ∀anG:Nat->Value,∀(IL aku:Option Addr)(Qx:World),Cv IL aku Qx->
 aP (dq IL) (∃(Qy adn Cw:Int),af Qx.drew (ae IL 0) 0 [Qy,adn,Cw]/\
 ah 154 #[.agg #[Qy,adn,Cw],.agg #[x4,x5,x6]] Qx.drew (iF λakv Ee IM IN=>K4 w w0 w1 w3 Qx.drew IN (
 af IN w 0 [aA,ar,au]/\ah 145 #[.agg #[aA,ar,au],.agg #[akv,Ee,IM]] IN (iF λHB Mh Mi Qz=>K4 w w0 w1 w3 IN Qz (
 Sw Qz w #[HB,Mh,Mi,aU,aV,aZ,bG,bC,bD] λyH=>
 ∃(anH anI anJ:Bool),af yH aku 0 [.bool anH,anI,anJ]/\
 ah 238 #[.agg #[anH,anI,anJ],.agg #[aU,aV,aZ]] yH (iF λHC T6 T7 akw=>K4 w w0 w1 w3 yH akw (
 Sw akw w #[HB,Mh,Mi,HC,T6,T7,bG,bC,bD] λY8=>
 ∃(anK anL anM anN anO anP:Int),af Y8 IL 0 [anK,anL,anM,anN,anO,anP]/\
 ah 49 #[a1,.agg #[anK,anL,anM,anN,anO,anP]] Y8 (Rb λakx aky=>K4 w w0 w1 w3 Y8 aky (
 Sw aky w #[HB,Mh,Mi,HC,T6,T7,bG,bC,akx] λanQ=>
 Sw anQ w1 #[HB,Mh,Mi,HC,T6,T7,bG,bC,akx] λanR=>
 R (Value.agg #[HB,Mh,Mi,HC,T6,T7,bG,bC,akx]) anR)))))))))))):ah 168 #[.agg #[aA,ar,au,aU,aV,aZ,bG,bC,bD],a1,.agg #[bA,bQ,bw]] w R:=
 cq ⟨[],[(3,⟨[(8,.ptr),(9,.ptr)],[],[]⟩)],[]⟩ Tryz.func168 h
def FL.vc{bD:Bool}{a1:Value}{bw:Bool}(h:
 Aw w #[aA,ar,au,aU,aV,aZ,bG,bC,bD] 70 λw0=>
 Aw w0 #[bA,bQ,bw] 109 λw1=>
 Aw w1 #[aa,aa,aa,aa,aa,aa,aa,aa,false] 70 λw2=>
 ∃I3:Nat->Int->Int->Int->Int->Int->Int->Int->Int->Int->Bool->World->Prop,
 (∃n4,aO [bA,bQ,bw]/\aO [aa,aa,aa,aa,aa,aa,aa,aa,false]/\I3 n4 (0) aA ar au aU aV aZ bG bC bD w2)/\
 ∀(n4:Nat)(us5:Nat->Value)(x6 x7 x8 x9 bj bu bV cn bI:Int)(Vu:Bool)(cF:World),I3 n4 x6 x7 x8 x9 bj bu bV cn bI Vu cF->
 Br (x6<3)
 (((0:Int)<=x6/\x6<((3:Nat):Int))/\∃(v18:Value),([.func (.func 166) #[] #[],.func (.func 167) #[] #[],.func (.func 168) #[] #[]]:LV)[(x6:Int).toNat*1]? =some (v18)/\
 cC Tryz.prog v18 [.agg #[x7,x8,x9,bj,bu,bV,cn,bI,Vu],a1,.agg #[bA,bQ,bw]] cF (λe gg=>∃(di db ef dG eU dY fg fO:Int)(Q7:Bool),e=Value.agg #[di,db,ef,dG,eU,dY,fg,fO,Q7]/\K3 w w0 w1 cF gg (
 Sw gg w #[di,db,ef,dG,eU,dY,fg,fO,Q7] λdW=>
 ∃IP,IP<n4/\aO [bA,bQ,bw]/\aO [aa,aa,aa,aa,aa,aa,aa,aa,false]/\I3 IP ((ao (x6+1))) di db ef dG eU dY fg fO Q7 dW)))
 (Sw cF w1 #[x7,x8,x9,bj,bu,bV,cn,bI,Vu] λfE=>
 R (Value.agg #[x7,x8,x9,bj,bu,bV,cn,bI,Vu]) fE)):ah 116 #[.agg #[aA,ar,au,aU,aV,aZ,bG,bC,bD],a1,.agg #[bA,bQ,bw]] w R:=
 cq ⟨[(2,⟨[(10,.int .i64)],[(0,[.int .i64,.int .i64,.int .i64,.int .i64,.int .i64,.int .i64,.int .i64,.int .i64,.bool])],[]⟩)],[],[]⟩ Tryz.func116 h
def DC.vc{bD:Bool}{a1:Value}(h:
 Aw w #[aA,ar,au,aU,aV,aZ,bG,bC,bD] 70 λw0=>
 Aw w0 #[bA,bQ,bw] 28 λw1=>
 Aw w1 #[aa,aa,aa,aa,aa,aa,aa,aa,false] 70 λw2=>
 ah 48 #[.agg #[aA,ar,au,aU,aV,aZ,bG,bC,bD]] w2 (xF λx4 x5 x6 x7 x8 x9 w3=>K3 w w0 w1 w2 w3 (
 Aw w3 #[aa,aa,aa,aa,aa,aa] 107 λbP=>
 Sw bP w3 #[x4,x5,x6,x7,x8,x9] λbg=>
 ∃Cv:Option Addr->World->Prop,
 ((ah 237 #[.agg #[aA,ar,au,aU,aV,aZ,bG,bC,bD],.agg #[bA,bQ,bw]] bg.drew (iF λbI cw cH bK=>K4 w w0 w1 w3 bg.drew bK (
 af bK (aB w3) 0 [x4,x5,x6,x7,x8,x9]/\(ah 240 #[a1,.agg #[x4,x5,x6,x7,x8,x9],.agg #[bI,cw,cH]] bK (λe cL=>∃(cA cu di db ef dG:Int)(b24 TS Hq:Bool),e=Value.tuple #[.agg #[cA,cu,di,db,ef,dG],.agg #[b24,TS,Hq]]/\K4 w w0 w1 w3 bK cL (
 (Aw cL #[aa,aa,aa,aa,aa,aa] 107 λdX=>
 Aw dX #[false,false,false] 299 λiw=>
 Sw iw cL #[cA,cu,di,db,ef,dG] λdW=>
 Wt dW ⟨dX,0,none⟩ 3/\Nb dX w/\Nb dX w0/\Nb dX w1/\Nb dX w3/\Nb dX cL/\(∀fE,fE=aL dW (aB dX) [.bool b24,TS,Hq]->
 aO [aA,ar,au,aU,aV,aZ,bG,bC,bD]/\aO [bA,bQ,bw]/\aO [aa,aa,aa,aa,aa,aa,aa,aa,false]/\aO [x4,x5,x6,x7,x8,x9]/\Cv (aB cL) fE))/\(Aw cL #[false,false,false] 299 λgf=>
 Aw gf #[aa,aa,aa,aa,aa,aa] 107 λni=>
 Sw ni gf #[cA,cu,di,db,ef,dG] λeT=>
 Wt eT ⟨cL,0,none⟩ 3/\Nb cL w/\Nb cL w0/\Nb cL w1/\Nb cL w3/\Nb cL gf/\(∀jf,jf=aL eT (aB cL) [.bool b24,TS,Hq]->
 aO [aA,ar,au,aU,aV,aZ,bG,bC,bD]/\aO [bA,bQ,bw]/\aO [aa,aa,aa,aa,aa,aa,aa,aa,false]/\aO [x4,x5,x6,x7,x8,x9]/\Cv (aB gf) jf)))))/\(Aw bK #[aa,aa,aa,aa,aa,aa] 107 λkh=>
 (ah 240 #[a1,.agg #[x4,x5,x6,x7,x8,x9],.agg #[bI,cw,cH]] kh (λe kG=>∃(gI gk oh mP lC nj:Int)(Qp b44 Qo:Bool),e=Value.tuple #[.agg #[gI,gk,oh,mP,lC,nj],.agg #[Qp,b44,Qo]]/\K5 w w0 w1 w3 bK kh kG (
 Aw kG #[false,false,false] 299 λqo=>
 Sw qo bK #[gI,gk,oh,mP,lC,nj] λlW=>
 Wt lW ⟨kG,0,none⟩ 3/\Nb kG w/\Nb kG w0/\Nb kG w1/\Nb kG w3/\Nb kG bK/\(∀gj,gj=aL lW (aB kG) [.bool Qp,b44,Qo]->
 aO [aA,ar,au,aU,aV,aZ,bG,bC,bD]/\aO [bA,bQ,bw]/\aO [aa,aa,aa,aa,aa,aa,aa,aa,false]/\aO [x4,x5,x6,x7,x8,x9]/\Cv (aB bK) gj))))/\(Aw kh #[false,false,false] 299 λlq=>
 ah 240 #[a1,.agg #[x4,x5,x6,x7,x8,x9],.agg #[bI,cw,cH]] lq (λe mT=>∃(nk lh jA qp lY sX:Int)(Y4 Q6 b59:Bool),e=Value.tuple #[.agg #[nk,lh,jA,qp,lY,sX],.agg #[Y4,Q6,b59]]/\K5 w w0 w1 w3 bK lq mT (
 Sw mT bK #[nk,lh,jA,qp,lY,sX] λmQ=>
 Wt mQ ⟨kh,0,none⟩ 3/\Nb kh w/\Nb kh w0/\Nb kh w1/\Nb kh w3/\Nb kh bK/\(∀px,px=aL mQ (aB kh) [.bool Y4,Q6,b59]->
 aO [aA,ar,au,aU,aV,aZ,bG,bC,bD]/\aO [bA,bQ,bw]/\aO [aa,aa,aa,aa,aa,aa,aa,aa,false]/\aO [x4,x5,x6,x7,x8,x9]/\Cv (aB bK) px)))))/\(Aw bK #[false,false,false] 299 λiH=>
 (ah 240 #[a1,.agg #[x4,x5,x6,x7,x8,x9],.agg #[bI,cw,cH]] iH (λe Dq=>∃(wD rW mg pd mS qN:Int)(b70 b71 b72:Bool),e=Value.tuple #[.agg #[wD,rW,mg,pd,mS,qN],.agg #[b70,b71,b72]]/\K4 w w0 w1 w3 iH Dq (
 Aw Dq #[aa,aa,aa,aa,aa,aa] 107 λKy=>
 Sw Ky Dq #[wD,rW,mg,pd,mS,qN] λmU=>
 Wt mU ⟨bK,0,none⟩ 3/\Nb bK w/\Nb bK w0/\Nb bK w1/\Nb bK w3/\Nb bK Dq/\(∀sY,sY=aL mU (aB bK) [.bool b70,b71,b72]->
 aO [aA,ar,au,aU,aV,aZ,bG,bC,bD]/\aO [bA,bQ,bw]/\aO [aa,aa,aa,aa,aa,aa,aa,aa,false]/\aO [x4,x5,x6,x7,x8,x9]/\Cv (aB Dq) sY))))/\(Aw iH #[aa,aa,aa,aa,aa,aa] 107 λj6=>
 ah 240 #[a1,.agg #[x4,x5,x6,x7,x8,x9],.agg #[bI,cw,cH]] j6 (λe vf=>∃(D8 AM tI rP qt rV:Int)(b84 b85 b86:Bool),e=Value.tuple #[.agg #[D8,AM,tI,rP,qt,rV],.agg #[b84,b85,b86]]/\K5 w w0 w1 w3 iH j6 vf (
 Sw vf iH #[D8,AM,tI,rP,qt,rV] λCs=>
 Wt Cs ⟨bK,0,none⟩ 3/\Nb bK w/\Nb bK w0/\Nb bK w1/\Nb bK w3/\Nb bK iH/\(∀MG,MG=aL Cs (aB bK) [.bool b84,b85,b86]->
 aO [aA,ar,au,aU,aV,aZ,bG,bC,bD]/\aO [bA,bQ,bw]/\aO [aa,aa,aa,aa,aa,aa,aa,aa,false]/\aO [x4,x5,x6,x7,x8,x9]/\Cv (aB iH) MG))))))))/\(Aw bg.drew #[aa,aa,aa,aa,aa,aa] 107 λpf=>
 (ah 237 #[.agg #[aA,ar,au,aU,aV,aZ,bG,bC,bD],.agg #[bA,bQ,bw]] pf (iF λyP xl tJ pg=>K4 w w0 w1 w3 pf pg (
 pg.heap[bg.drew.heap.size]? =pf.heap[bg.drew.heap.size]?/\
 af pg (aB w3) 0 [x4,x5,x6,x7,x8,x9]/\(ah 240 #[a1,.agg #[x4,x5,x6,x7,x8,x9],.agg #[yP,xl,tJ]] pg (λe HW=>∃(yE EK EM MH Kv td:Int)(acP acQ Qt:Bool),e=Value.tuple #[.agg #[yE,EK,EM,MH,Kv,td],.agg #[acP,acQ,Qt]]/\K4 w w0 w1 w3 pg HW (
 HW.heap[bg.drew.heap.size]? =pg.heap[bg.drew.heap.size]?/\
 Aw HW #[false,false,false] 299 λakt=>
 Sw akt bg.drew.heap.size #[yE,EK,EM,MH,Kv,td] λIH=>
 Wt IH ⟨HW,0,none⟩ 3/\Nb HW w/\Nb HW w0/\Nb HW w1/\Nb HW w3/\bz (aB HW)≠some bg.drew.heap.size/\(∀acR,acR=aL IH (aB HW) [.bool acP,acQ,Qt]->
 aO [aA,ar,au,aU,aV,aZ,bG,bC,bD]/\aO [bA,bQ,bw]/\aO [aa,aa,aa,aa,aa,aa,aa,aa,false]/\aO [x4,x5,x6,x7,x8,x9]/\Cv (aB bg.drew.heap.size) acR))))/\(Aw pg #[false,false,false] 299 λHz=>
 ah 240 #[a1,.agg #[x4,x5,x6,x7,x8,x9],.agg #[yP,xl,tJ]] Hz (λe Mf=>∃(pj jB nr ig ta vg:Int)(Md D9 acS:Bool),e=Value.tuple #[.agg #[pj,jB,nr,ig,ta,vg],.agg #[Md,D9,acS]]/\K4 w w0 w1 w3 Hz Mf (
 Mf.heap[bg.drew.heap.size]? =Hz.heap[bg.drew.heap.size]?/\
 Sw Mf bg.drew.heap.size #[pj,jB,nr,ig,ta,vg] λHw=>
 Wt Hw ⟨pg,0,none⟩ 3/\Nb pg w/\Nb pg w0/\Nb pg w1/\Nb pg w3/\bz (aB pg)≠some bg.drew.heap.size/\(∀pK,pK=aL Hw (aB pg) [.bool Md,D9,acS]->
 aO [aA,ar,au,aU,aV,aZ,bG,bC,bD]/\aO [bA,bQ,bw]/\aO [aa,aa,aa,aa,aa,aa,aa,aa,false]/\aO [x4,x5,x6,x7,x8,x9]/\Cv (aB bg.drew.heap.size) pK)))))))/\(Aw pf #[false,false,false] 299 λHA=>
 ah 237 #[.agg #[aA,ar,au,aU,aV,aZ,bG,bC,bD],.agg #[bA,bQ,bw]] HA (iF λY5 AP Ea yF=>K4 w w0 w1 w3 HA yF (
 yF.heap[bg.drew.heap.size]? =HA.heap[bg.drew.heap.size]?/\
 af yF (aB w3) 0 [x4,x5,x6,x7,x8,x9]/\ah 240 #[a1,.agg #[x4,x5,x6,x7,x8,x9],.agg #[Y5,AP,Ea]] yF (λe Hx=>∃(AQ AR qI pL pM Eb:Int)(acT acU acV:Bool),e=Value.tuple #[.agg #[AQ,AR,qI,pL,pM,Eb],.agg #[acT,acU,acV]]/\K4 w w0 w1 w3 yF Hx (
 Hx.heap[bg.drew.heap.size]? =yF.heap[bg.drew.heap.size]?/\
 Sw Hx bg.drew.heap.size #[AQ,AR,qI,pL,pM,Eb] λacW=>
 Wt acW ⟨pf,0,none⟩ 3/\Nb pf w/\Nb pf w0/\Nb pf w1/\Nb pf w3/\bz (aB pf)≠some bg.drew.heap.size/\(∀acX,acX=aL acW (aB pf) [.bool acT,acU,acV]->
 aO [aA,ar,au,aU,aV,aZ,bG,bC,bD]/\aO [bA,bQ,bw]/\aO [aa,aa,aa,aa,aa,aa,aa,aa,false]/\aO [x4,x5,x6,x7,x8,x9]/\Cv (aB bg.drew.heap.size) acX)))))))/\(Aw bg.drew #[false,false,false] 299 λvh=>
 (ah 237 #[.agg #[aA,ar,au,aU,aV,aZ,bG,bC,bD],.agg #[bA,bQ,bw]] vh (iF λII Qu acY te=>K4 w w0 w1 w3 vh te (
 af te (aB w3) 0 [x4,x5,x6,x7,x8,x9]/\(ah 240 #[a1,.agg #[x4,x5,x6,x7,x8,x9],.agg #[II,Qu,acY]] te (λe qJ=>∃(acZ TT TU TV TW TX:Int)(TY ac0 ac1:Bool),e=Value.tuple #[.agg #[acZ,TT,TU,TV,TW,TX],.agg #[TY,ac0,ac1]]/\K4 w w0 w1 w3 te qJ (
 Aw qJ #[aa,aa,aa,aa,aa,aa] 107 λIJ=>
 Sw IJ qJ #[acZ,TT,TU,TV,TW,TX] λac2=>
 Wt ac2 ⟨bg.drew.heap.size,0,none⟩ 3/\Nq (aB bg.drew.heap.size) w/\Nq (aB bg.drew.heap.size) w0/\Nq (aB bg.drew.heap.size) w1/\Nq (aB bg.drew.heap.size) w3/\Nq (aB bg.drew.heap.size) qJ/\(∀Ec,Ec=aL ac2 (aB bg.drew.heap.size) [.bool TY,ac0,ac1]->
 aO [aA,ar,au,aU,aV,aZ,bG,bC,bD]/\aO [bA,bQ,bw]/\aO [aa,aa,aa,aa,aa,aa,aa,aa,false]/\aO [x4,x5,x6,x7,x8,x9]/\Cv (aB qJ) Ec))))/\(Aw te #[aa,aa,aa,aa,aa,aa] 107 λac3=>
 ah 240 #[a1,.agg #[x4,x5,x6,x7,x8,x9],.agg #[II,Qu,acY]] ac3 (λe Ed=>∃(TZ T0 T3 ac4 T4 ac5:Int)(ac6 ac7 ac8:Bool),e=Value.tuple #[.agg #[TZ,T0,T3,ac4,T4,ac5],.agg #[ac6,ac7,ac8]]/\K5 w w0 w1 w3 te ac3 Ed (
 Sw Ed te #[TZ,T0,T3,ac4,T4,ac5] λIK=>
 Wt IK ⟨bg.drew.heap.size,0,none⟩ 3/\Nq (aB bg.drew.heap.size) w/\Nq (aB bg.drew.heap.size) w0/\Nq (aB bg.drew.heap.size) w1/\Nq (aB bg.drew.heap.size) w3/\Nq (aB bg.drew.heap.size) te/\(∀ac9,ac9=aL IK (aB bg.drew.heap.size) [.bool ac6,ac7,ac8]->
 aO [aA,ar,au,aU,aV,aZ,bG,bC,bD]/\aO [bA,bQ,bw]/\aO [aa,aa,aa,aa,aa,aa,aa,aa,false]/\aO [x4,x5,x6,x7,x8,x9]/\Cv (aB te) ac9)))))))/\(Aw vh #[aa,aa,aa,aa,aa,aa] 107 λada=>
 ah 237 #[.agg #[aA,ar,au,aU,aV,aZ,bG,bC,bD],.agg #[bA,bQ,bw]] ada (iF λY6 Qv Y7 Mg=>K5 w w0 w1 w3 vh ada Mg (
 af Mg (aB w3) 0 [x4,x5,x6,x7,x8,x9]/\ah 240 #[a1,.agg #[x4,x5,x6,x7,x8,x9],.agg #[Y6,Qv,Y7]] Mg (λe adb=>∃(Qw yG ade adf adg adh:Int)(adi adj adk:Bool),e=Value.tuple #[.agg #[Qw,yG,ade,adf,adg,adh],.agg #[adi,adj,adk]]/\K5 w w0 w1 w3 vh Mg adb (
 Sw adb vh #[Qw,yG,ade,adf,adg,adh] λadl=>
 Wt adl ⟨bg.drew.heap.size,0,none⟩ 3/\Nq (aB bg.drew.heap.size) w/\Nq (aB bg.drew.heap.size) w0/\Nq (aB bg.drew.heap.size) w1/\Nq (aB bg.drew.heap.size) w3/\Nq (aB bg.drew.heap.size) vh/\(∀adm,adm=aL adl (aB bg.drew.heap.size) [.bool adi,adj,adk]->
 aO [aA,ar,au,aU,aV,aZ,bG,bC,bD]/\aO [bA,bQ,bw]/\aO [aa,aa,aa,aa,aa,aa,aa,aa,false]/\aO [x4,x5,x6,x7,x8,x9]/\Cv (aB vh) adm))))))))/\
 ∀anG:Nat->Value,∀(IL:Option Addr)(agx:World),Cv IL agx->
 aP (dq IL) (∃(Mj Qy adn:Int),af agx.drew (ae IL 0) 0 [Mj,Qy,adn]/\
 ah 154 #[.agg #[Mj,Qy,adn],.agg #[x4,x5,x6]] agx.drew (iF λEf akv Ee Y9=>K4 w w0 w1 w3 agx.drew Y9 (
 af Y9 w 0 [aA,ar,au]/\ah 145 #[.agg #[aA,ar,au],.agg #[Ef,akv,Ee]] Y9 (iF λov HB Mh akz=>K4 w w0 w1 w3 Y9 akz (
 Sw akz w #[ov,HB,Mh,aU,aV,aZ,bG,bC,bD] λanS=>
 Sw anS w1 #[ov,HB,Mh,aU,aV,aZ,bG,bC,bD] λyH=>
 R (Value.agg #[ov,HB,Mh,aU,aV,aZ,bG,bC,bD]) yH)))))))):ah 171 #[.agg #[aA,ar,au,aU,aV,aZ,bG,bC,bD],a1,.agg #[bA,bQ,bw]] w R:=
 cq ⟨[],[(3,⟨[(8,.ptr)],[],[]⟩)],[]⟩ Tryz.func171 h
def ae3.vc{a0:Value}(h:
 ∃I0:Nat->Int->World->Prop,
 (∃n1,I0 n1 (0) w)/\
 ∀(n1:Nat)(yI:Nat->Value)(x3:Int)(w4:World),I0 n1 x3 w4->
 Br (x3<3)
 (cC Tryz.prog a0 [x3] w4 (λe w6=>∃(b7:Bool),e=b7/\
 Br (!b7)
 (R false w6)
 (∃n5,n5<n1/\I0 n5 ((ao (x3+1))) w6)))
 (R true w4)):ah 176 #[a0] w R:=
 cq ⟨[(2,⟨[(4,.int .i64)],[],[]⟩)],[],[]⟩ Tryz.func176 h
def H7.vc{c0:Addr}{c1:Addr}(h:
 ∃(x0 x1 x2:Int),af w.drew (ae (some c0) 0) 0 [x0,x1,x2]/\
 ∃(x3 x4 x5:Int),af w.drew (ae (some c1) 3) 0 [x3,x4,x5]/\
 ah 178 #[.agg #[x0,x1,x2],a0] w.drew (λe w6=>∃(x7:Int),e=x7/\
 af w6 (ae (some c1) 3) 0 [x3,x4,x5]/\ah 178 #[.agg #[x3,x4,x5],a0] w6 (λe w8=>∃(x9:Int),e=x9/\
 Br (x7<x9)
 (∃(bj bu bV:Int),af w8 (ae (some c1) 0) 0 [bj,bu,bV]/\
 ∃(cn bI cw:Int),af w8 (ae (some c0) 3) 0 [cn,bI,cw]/\
 ah 178 #[.agg #[bj,bu,bV],a0] w8 (λe cF=>∃(dh:Int),e=dh/\
 af cF (ae (some c0) 3) 0 [cn,bI,cw]/\ah 178 #[.agg #[cn,bI,cw],a0] cF (λe dH=>∃(cu:Int),e=cu/\
 R (Value.bool (decide (dh<cu))) dH)))
 (R false w8)))):ah 177 #[a0,c0,c1] w R:=
 cq bU Tryz.func177 h
def Nl.vc(h:
 Aw w #[aA,ar,au,aU,aV,aZ] 107 λw0=>
 Aw w0 #[aj,aq,aw,bt,bR,bH] 107 λw1=>
 ah 176 #[.func (.func 177) #[] #[w,.pointer (aB w0)]] w1 (λe w2=>∃(b3:Bool),e=b3/\
 R b3 w2)):ah 124 #[.agg #[aA,ar,au,aU,aV,aZ],.agg #[aj,aq,aw,bt,bR,bH]] w R:=
 cq bU Tryz.func124 h
def Nn.vc{c0:Addr}{c1:Addr}(h:
 ∃(x0 x1 x2:Int),af w.drew (ae (some c0) 3) 0 [x0,x1,x2]/\
 ∃(x3 x4 x5:Int),af w.drew (ae (some c1) 3) 0 [x3,x4,x5]/\
 ∃(x6 x7 x8:Int),af w.drew (ae (some c0) 0) 0 [x6,x7,x8]/\
 ∃(x9 bj bu:Int),af w.drew (ae (some c1) 0) 0 [x9,bj,bu]/\
 ah 178 #[.agg #[x0,x1,x2],a0] w.drew (λe dj=>∃(cn:Int),e=cn/\
 af dj (ae (some c1) 0) 0 [x9,bj,bu]/\af dj (ae (some c0) 0) 0 [x6,x7,x8]/\af dj (ae (some c1) 3) 0 [x3,x4,x5]/\ah 178 #[.agg #[x3,x4,x5],a0] dj (λe bO=>∃(cw:Int),e=cw/\
 af bO (ae (some c1) 0) 0 [x9,bj,bu]/\af bO (ae (some c0) 0) 0 [x6,x7,x8]/\ah 178 #[.agg #[x6,x7,x8],a0] bO (λe cF=>∃(dh:Int),e=dh/\
 af cF (ae (some c1) 0) 0 [x9,bj,bu]/\ah 178 #[.agg #[x9,bj,bu],a0] cF (λe dH=>∃(cu:Int),e=cu/\
 R ((ao ((if cw<cn then cw else cn)-(if cu>dh then cu else dh)))) dH))))):ah 239 #[a0,c0,c1] w R:=
 cq bU Tryz.func239 h
def Wh.vc{bD:Bool}{eC:Bool}(h:
 Aw w #[aA,ar,au,aU,aV,aZ,bG,bC,bD] 70 λw0=>
 Aw w0 #[aj,aq,aw,bt,bR,bH,eB,eO,eC] 70 λw1=>
 Aw w1 #[aa,aa,aa] 28 λw2=>
 Aw w2 #[aa,aa,aa] 28 λw3=>
 ∃J4:Option Addr->Option Addr->World->Prop,
 ((ah 48 #[.agg #[aA,ar,au,aU,aV,aZ,bG,bC,bD]] w3.drew (xF λx6 x7 x8 x9 bj bu w5=>K4 w w0 w1 w2 w3.drew w5 (
 af w5 (aB w0) 0 [aj,aq,aw,bt,bR,bH,eB,eO,eC]/\(ah 48 #[.agg #[aj,aq,aw,bt,bR,bH,eB,eO,eC]] w5 (xF λcn bI cw cH dh cA dj=>K4 w w0 w1 w2 w5 dj (
 (Aw dj #[aa,aa,aa,aa,aa,aa] 107 λgg=>
 Aw gg #[aa,aa,aa,aa,aa,aa] 107 λeW=>
 Sw eW dj #[x6,x7,x8,x9,bj,bu] λeZ=>
 Sw eZ gg #[cn,bI,cw,cH,dh,cA] λdP=>
 aO [aA,ar,au,aU,aV,aZ,bG,bC,bD]/\aO [aj,aq,aw,bt,bR,bH,eB,eO,eC]/\aO [aa,aa,aa]/\aO [aa,aa,aa]/\J4 (aB dj) (aB gg) dP)/\(Aw dj #[aa,aa,aa,aa,aa,aa] 107 λeP=>
 Aw eP #[aa,aa,aa,aa,aa,aa] 107 λgl=>
 Sw gl eP #[x6,x7,x8,x9,bj,bu] λcW=>
 Sw cW dj #[cn,bI,cw,cH,dh,cA] λfx=>
 aO [aA,ar,au,aU,aV,aZ,bG,bC,bD]/\aO [aj,aq,aw,bt,bR,bH,eB,eO,eC]/\aO [aa,aa,aa]/\aO [aa,aa,aa]/\J4 (aB eP) (aB dj) fx))))/\(Aw w5 #[aa,aa,aa,aa,aa,aa] 107 λdX=>
 (ah 48 #[.agg #[aj,aq,aw,bt,bR,bH,eB,eO,eC]] dX (xF λgn jN iD ic eL ie iw=>K5 w w0 w1 w2 w5 dX iw (
 Aw iw #[aa,aa,aa,aa,aa,aa] 107 λkh=>
 Sw kh w5 #[x6,x7,x8,x9,bj,bu] λkG=>
 Sw kG iw #[gn,jN,iD,ic,eL,ie] λgw=>
 aO [aA,ar,au,aU,aV,aZ,bG,bC,bD]/\aO [aj,aq,aw,bt,bR,bH,eB,eO,eC]/\aO [aa,aa,aa]/\aO [aa,aa,aa]/\J4 (aB w5) (aB iw) gw)))/\(Aw dX #[aa,aa,aa,aa,aa,aa] 107 λoD=>
 ah 48 #[.agg #[aj,aq,aw,bt,bR,bH,eB,eO,eC]] oD (xF λmP lC nj rU lD pI kx=>K6 w w0 w1 w2 w5 dX oD kx (
 Sw kx w5 #[x6,x7,x8,x9,bj,bu] λqo=>
 Sw qo dX #[mP,lC,nj,rU,lD,pI] λlW=>
 aO [aA,ar,au,aU,aV,aZ,bG,bC,bD]/\aO [aj,aq,aw,bt,bR,bH,eB,eO,eC]/\aO [aa,aa,aa]/\aO [aa,aa,aa]/\J4 (aB w5) (aB dX) lW))))/\(Aw w5 #[aa,aa,aa,aa,aa,aa] 107 λgj=>
 (ah 48 #[.agg #[aj,aq,aw,bt,bR,bH,eB,eO,eC]] gj (xF λtc nk lh jA qp lY lq=>K5 w w0 w1 w2 w5 gj lq (
 Aw lq #[aa,aa,aa,aa,aa,aa] 107 λqH=>
 Sw qH lq #[x6,x7,x8,x9,bj,bu] λmR=>
 Sw mR w5 #[tc,nk,lh,jA,qp,lY] λCx=>
 aO [aA,ar,au,aU,aV,aZ,bG,bC,bD]/\aO [aj,aq,aw,bt,bR,bH,eB,eO,eC]/\aO [aa,aa,aa]/\aO [aa,aa,aa]/\J4 (aB lq) (aB w5) Cx)))/\(Aw gj #[aa,aa,aa,aa,aa,aa] 107 λyO=>
 ah 48 #[.agg #[aj,aq,aw,bt,bR,bH,eB,eO,eC]] yO (xF λvI om uf wD rW mg mQ=>K6 w w0 w1 w2 w5 gj yO mQ (
 Sw mQ gj #[x6,x7,x8,x9,bj,bu] λjH=>
 Sw jH w5 #[vI,om,uf,wD,rW,mg] λuc=>
 aO [aA,ar,au,aU,aV,aZ,bG,bC,bD]/\aO [aj,aq,aw,bt,bR,bH,eB,eO,eC]/\aO [aa,aa,aa]/\aO [aa,aa,aa]/\J4 (aB gj) (aB w5) uc)))))))/\(Aw w3.drew #[aa,aa,aa,aa,aa,aa] 107 λIF=>
 (ah 48 #[.agg #[aA,ar,au,aU,aV,aZ,bG,bC,bD]] IF (xF λoq nL nM vi ve yB ou=>K4 w w0 w1 w2 IF ou (
 ou.heap[w3.drew.heap.size]? =IF.heap[w3.drew.heap.size]?/\
 af ou (aB w0) 0 [aj,aq,aw,bt,bR,bH,eB,eO,eC]/\(ah 48 #[.agg #[aj,aq,aw,bt,bR,bH,eB,eO,eC]] ou (xF λD8 AM tI rP qt rV vf=>K4 w w0 w1 w2 ou vf (
 vf.heap[w3.drew.heap.size]? =ou.heap[w3.drew.heap.size]?/\
 Aw vf #[aa,aa,aa,aa,aa,aa] 107 λMc=>
 Sw Mc w3.drew.heap.size #[oq,nL,nM,vi,ve,yB] λw85=>
 Sw w85 vf #[D8,AM,tI,rP,qt,rV] λw86=>
 aO [aA,ar,au,aU,aV,aZ,bG,bC,bD]/\aO [aj,aq,aw,bt,bR,bH,eB,eO,eC]/\aO [aa,aa,aa]/\aO [aa,aa,aa]/\J4 (aB w3.drew.heap.size) (aB vf) w86)))/\(Aw ou #[aa,aa,aa,aa,aa,aa] 107 λCs=>
 ah 48 #[.agg #[aj,aq,aw,bt,bR,bH,eB,eO,eC]] Cs (xF λIQ MI yP xl tJ Kx MG=>K4 w w0 w1 w2 Cs MG (
 MG.heap[w3.drew.heap.size]? =Cs.heap[w3.drew.heap.size]?/\Kp ou Cs MG/\
 Sw MG w3.drew.heap.size #[oq,nL,nM,vi,ve,yB] λw95=>
 Sw w95 ou #[IQ,MI,yP,xl,tJ,Kx] λw96=>
 aO [aA,ar,au,aU,aV,aZ,bG,bC,bD]/\aO [aj,aq,aw,bt,bR,bH,eB,eO,eC]/\aO [aa,aa,aa]/\aO [aa,aa,aa]/\J4 (aB w3.drew.heap.size) (aB ou) w96))))))/\(Aw IF #[aa,aa,aa,aa,aa,aa] 107 λw97=>
 ah 48 #[.agg #[aA,ar,au,aU,aV,aZ,bG,bC,bD]] w97 (xF λKv td qK qG sZ pJ Qq=>K4 w w0 w1 w2 w97 Qq (
 Qq.heap[w3.drew.heap.size]? =w97.heap[w3.drew.heap.size]?/\Kp IF w97 Qq/\
 af Qq (aB w0) 0 [aj,aq,aw,bt,bR,bH,eB,eO,eC]/\ah 48 #[.agg #[aj,aq,aw,bt,bR,bH,eB,eO,eC]] Qq (xF λnp nq yJ pj jB nr IH=>K4 w w0 w1 w2 Qq IH (
 IH.heap[w3.drew.heap.size]? =Qq.heap[w3.drew.heap.size]?/\Kp IF Qq IH/\
 Sw IH w3.drew.heap.size #[Kv,td,qK,qG,sZ,pJ] λAO=>
 Sw AO IF #[np,nq,yJ,pj,jB,nr] λT8=>
 aO [aA,ar,au,aU,aV,aZ,bG,bC,bD]/\aO [aj,aq,aw,bt,bR,bH,eB,eO,eC]/\aO [aa,aa,aa]/\aO [aa,aa,aa]/\J4 (aB w3.drew.heap.size) (aB IF) T8))))))/\(Aw w3.drew #[aa,aa,aa,aa,aa,aa] 107 λQA=>
 (ah 48 #[.agg #[aA,ar,au,aU,aV,aZ,bG,bC,bD]] QA (xF λHD IS anU ado adp T9 IT=>K4 w w0 w1 w2 QA IT (
 IT.heap[w3.drew.heap.size]? =QA.heap[w3.drew.heap.size]?/\
 af IT (aB w0) 0 [aj,aq,aw,bt,bR,bH,eB,eO,eC]/\(ah 48 #[.agg #[aj,aq,aw,bt,bR,bH,eB,eO,eC]] IT (xF λAP Ea QB AQ AR qI QC=>K4 w w0 w1 w2 IT QC (
 QC.heap[w3.drew.heap.size]? =IT.heap[w3.drew.heap.size]?/\
 Aw QC #[aa,aa,aa,aa,aa,aa] 107 λata=>
 Sw ata QC #[HD,IS,anU,ado,adp,T9] λatb=>
 Sw atb w3.drew.heap.size #[AP,Ea,QB,AQ,AR,qI] λatc=>
 aO [aA,ar,au,aU,aV,aZ,bG,bC,bD]/\aO [aj,aq,aw,bt,bR,bH,eB,eO,eC]/\aO [aa,aa,aa]/\aO [aa,aa,aa]/\J4 (aB QC) (aB w3.drew.heap.size) atc)))/\(Aw IT #[aa,aa,aa,aa,aa,aa] 107 λQD=>
 ah 48 #[.agg #[aj,aq,aw,bt,bR,bH,eB,eO,eC]] QD (xF λQE QF QG QH QI II agy=>K4 w w0 w1 w2 QD agy (
 agy.heap[w3.drew.heap.size]? =QD.heap[w3.drew.heap.size]?/\Kp IT QD agy/\
 Sw agy IT #[HD,IS,anU,ado,adp,T9] λUa=>
 Sw Ua w3.drew.heap.size #[QE,QF,QG,QH,QI,II] λUb=>
 aO [aA,ar,au,aU,aV,aZ,bG,bC,bD]/\aO [aj,aq,aw,bt,bR,bH,eB,eO,eC]/\aO [aa,aa,aa]/\aO [aa,aa,aa]/\J4 (aB IT) (aB w3.drew.heap.size) Ub))))))/\(Aw QA #[aa,aa,aa,aa,aa,aa] 107 λqJ=>
 ah 48 #[.agg #[aA,ar,au,aU,aV,aZ,bG,bC,bD]] qJ (xF λTT TU TV TW TX atd vj=>K4 w w0 w1 w2 qJ vj (
 vj.heap[w3.drew.heap.size]? =qJ.heap[w3.drew.heap.size]?/\Kp QA qJ vj/\
 af vj (aB w0) 0 [aj,aq,aw,bt,bR,bH,eB,eO,eC]/\ah 48 #[.agg #[aj,aq,aw,bt,bR,bH,eB,eO,eC]] vj (xF λate atf atg ath ati atj agz=>K4 w w0 w1 w2 vj agz (
 agz.heap[w3.drew.heap.size]? =vj.heap[w3.drew.heap.size]?/\Kp QA vj agz/\
 Sw agz QA #[TT,TU,TV,TW,TX,atd] λatl=>
 Sw atl w3.drew.heap.size #[ate,atf,atg,ath,ati,atj] λatm=>
 aO [aA,ar,au,aU,aV,aZ,bG,bC,bD]/\aO [aj,aq,aw,bt,bR,bH,eB,eO,eC]/\aO [aa,aa,aa]/\aO [aa,aa,aa]/\J4 (aB QA) (aB w3.drew.heap.size) atm)))))))/\
 ∀axW:Nat->Value,∀(adq adr:Option Addr)(IU:World),J4 adq adr IU->
 ∃(anV anW anX anY agA agB:Int),af IU adq 0 [anV,anW,anX,anY,agA,agB]/\
 ∃(agC Y6 Qv Y7 anZ Qw:Int),af IU adr 0 [agC,Y6,Qv,Y7,anZ,Qw]/\
 ah 124 #[.agg #[anV,anW,anX,anY,agA,agB],.agg #[agC,Y6,Qv,Y7,anZ,Qw]] IU (Rb λatn QJ=>K4 w w0 w1 w2 IU QJ (
 Br (!atn)
 (Sw QJ w1 #[aa,aa,aa] λan1=>
 Sw an1 w2 #[aa,aa,aa] λan2=>
 R (Value.tuple #[.agg #[aa,aa,aa],.agg #[aa,aa,aa]]) an2)
 (∃akA:Int->World->Prop,
 (ah 239 #[aa,adq,adr] QJ (Ri λato agD=>K4 w w0 w1 w2 QJ agD (
 ah 239 #[(2:Int),adq,adr] agD (Ri λatp agE=>K4 w w0 w1 w2 agD agE (
 Br (ato>atp)
 (aO [aA,ar,au,aU,aV,aZ,bG,bC,bD]/\aO [aj,aq,aw,bt,bR,bH,eB,eO,eC]/\aO [aa,aa,aa]/\aO [aa,aa,aa]/\akA (2) agE)
 (aO [aA,ar,au,aU,aV,aZ,bG,bC,bD]/\aO [aj,aq,aw,bt,bR,bH,eB,eO,eC]/\aO [aa,aa,aa]/\aO [aa,aa,aa]/\akA (0) agE))))))/\
 ∀axX:Nat->Value,∀(Za:Int)(akB:World),akA Za akB->
 ∃an3:Int->World->Prop,
 (ah 239 #[Za,adq,adr] akB (Ri λQy Qx=>K4 w w0 w1 w2 akB Qx (
 aO [aA,ar,au,aU,aV,aZ,bG,bC,bD]/\aO [aj,aq,aw,bt,bR,bH,eB,eO,eC]/\aO [aa,aa,aa]/\aO [aa,aa,aa]/\an3 ((if 4096<Qy then 4096 else Qy)) Qx)))/\
 ∀axY:Nat->Value,∀(Cw:Int)(IN:World),an3 Cw IN->
 ∃akC:Int->World->Prop,
 (ah 178 #[.agg #[aA,ar,au],Za] IN.drew (Ri λIM Zb=>K4 w w0 w1 w2 IN.drew Zb (
 af Zb (aB w0) 0 [aj,aq,aw]/\ah 178 #[.agg #[aj,aq,aw],Za] Zb (Ri λHB Qz=>K4 w w0 w1 w2 Zb Qz (
 Br (IM<=HB)
 (aO [aA,ar,au,aU,aV,aZ,bG,bC,bD]/\aO [aj,aq,aw,bt,bR,bH,eB,eO,eC]/\aO [aa,aa,aa]/\aO [aa,aa,aa]/\akC ((ao (0-Cw))) Qz)
 (aO [aA,ar,au,aU,aV,aZ,bG,bC,bD]/\aO [aj,aq,aw,bt,bR,bH,eB,eO,eC]/\aO [aa,aa,aa]/\aO [aa,aa,aa]/\akC Cw Qz))))))/\
 ∀axZ:Nat->Value,∀(Mi:Int)(yH:World),akC Mi yH->
 ah 155 #[.agg #[aa,aa,aa],Za,Mi] yH (iF λan4 an5 IV ads=>K4 w w0 w1 w2 yH ads (
 ah 155 #[.agg #[aa,aa,aa],Za,(ao (0-Mi))] ads (iF λT6 T7 adt akD=>K4 w w0 w1 w2 ads akD (
 Sw akD w1 #[an4,an5,IV] λan6=>
 Sw an6 w2 #[T6,T7,adt] λan7=>
 R (Value.tuple #[.agg #[an4,an5,IV],.agg #[T6,T7,adt]]) an7)))))))):ah 170 #[.agg #[aA,ar,au,aU,aV,aZ,bG,bC,bD],.agg #[aj,aq,aw,bt,bR,bH,eB,eO,eC]] w R:=
 cq ⟨[],[(11,⟨[(10,.int .i64)],[],[]⟩),(9,⟨[(10,.int .i64)],[],[]⟩),(8,⟨[(9,.int .i64)],[],[]⟩),(2,⟨[(6,.ptr),(7,.ptr)],[],[]⟩)],[]⟩ Tryz.func170 h
def zG.vc{a0:Sl}(h:
 Br (a0.a).isNone
 (R (Value.slice none 0 0) w)
 (Aw w #[] 70 λw0=>
 ∃l1:LV,Rd w0 a0.a l1/\ba 72 9 w0 ⟨(aB w),0,0⟩ a0.n l1/\∀(s2:Sl)(w3:World),aY 70 9 w0 ⟨(aB w),0,0⟩ a0.n l1 s2 w3->Kp w w0 w3/\
 R s2 w3)):ah 169 #[a0] w R:=
 cq bU Tryz.func169 h
def RP.vc{a0:Value}{a1:Sl}(h:
 ah 169 #[a1] w (λe w0=>∃(s1:Sl),e=s1/\
 ∃I2:Nat->Int->World->Prop,
 (∃n3,I2 n3 (0) w0)/\
 ∀(n3:Nat)(us4:Nat->Value)(x5:Int)(w6:World),I2 n3 x5 w6->
 Br (decide (x5<((s1.n:Nat):Int)))
 (∃I8:Nat->Int->World->Prop,
 (∃n9,I8 n9 ((ao (x5+1))) w6)/\
 ∀(n9:Nat)(Zc:Nat->Value)(bu:Int)(dj:World),I8 n9 bu dj->
 Br (decide (bu<((s1.n:Nat):Int)))
 (∃J14:Option Addr->Option Addr->World->Prop,
 (eA s1.a x5 s1.n/\∃(cw cH dh cA cu di db ef:Int)(Kw:Bool),af dj.drew (ae s1.a ((x5:Int).toNat*9)) 0 [cw,cH,dh,cA,cu,di,db,ef,Kw]/\
 eA s1.a bu s1.n/\∃(eU dY fg fO gm gn jN iD:Int)(Y3:Bool),af dj.drew (ae s1.a ((bu:Int).toNat*9)) 0 [eU,dY,fg,fO,gm,gn,jN,iD,Y3]/\
 (ah 170 #[.agg #[cw,cH,dh,cA,cu,di,db,ef,Kw],.agg #[eU,dY,fg,fO,gm,gn,jN,iD,Y3]] dj.drew (λe eT=>∃(ie kI nh gI gk oh:Int),e=Value.tuple #[.agg #[ie,kI,nh],.agg #[gI,gk,oh]]/\
 (Aw eT #[aa,aa,aa] 28 λjP=>
 Aw jP #[aa,aa,aa] 28 λjw=>
 Sw jw eT #[ie,kI,nh] λlj=>
 Sw lj jP #[gI,gk,oh] λjg=>
 J14 (aB eT) (aB jP) jg)/\(Aw eT #[aa,aa,aa] 28 λlg=>
 Aw lg #[aa,aa,aa] 28 λCy=>
 Sw Cy lg #[ie,kI,nh] λqo=>
 Sw qo eT #[gI,gk,oh] λlW=>
 J14 (aB lg) (aB eT) lW)))/\(Aw dj.drew #[aa,aa,aa] 28 λgj=>
 (ah 170 #[.agg #[cw,cH,dh,cA,cu,di,db,ef,Kw],.agg #[eU,dY,fg,fO,gm,gn,jN,iD,Y3]] gj (λe lq=>∃(tc nk lh jA qp lY:Int),e=Value.tuple #[.agg #[tc,nk,lh],.agg #[jA,qp,lY]]/\lq.heap[dj.drew.heap.size]? =gj.heap[dj.drew.heap.size]?/\
 Aw lq #[aa,aa,aa] 28 λqH=>
 Sw qH dj.drew.heap.size #[tc,nk,lh] λmR=>
 Sw mR lq #[jA,qp,lY] λCx=>
 J14 (aB dj.drew.heap.size) (aB lq) Cx))/\(Aw gj #[aa,aa,aa] 28 λyO=>
 ah 170 #[.agg #[cw,cH,dh,cA,cu,di,db,ef,Kw],.agg #[eU,dY,fg,fO,gm,gn,jN,iD,Y3]] yO (λe mQ=>∃(vI om uf wD rW mg:Int),e=Value.tuple #[.agg #[vI,om,uf],.agg #[wD,rW,mg]]/\mQ.heap[dj.drew.heap.size]? =yO.heap[dj.drew.heap.size]?/\Kp gj yO mQ/\
 Sw mQ dj.drew.heap.size #[vI,om,uf] λjH=>
 Sw jH gj #[wD,rW,mg] λuc=>
 J14 (aB dj.drew.heap.size) (aB gj) uc)))/\(Aw dj.drew #[aa,aa,aa] 28 λIF=>
 (ah 170 #[.agg #[cw,cH,dh,cA,cu,di,db,ef,Kw],.agg #[eU,dY,fg,fO,gm,gn,jN,iD,Y3]] IF (λe ou=>∃(oq nL nM vi ve yB:Int),e=Value.tuple #[.agg #[oq,nL,nM],.agg #[vi,ve,yB]]/\ou.heap[dj.drew.heap.size]? =IF.heap[dj.drew.heap.size]?/\
 Aw ou #[aa,aa,aa] 28 λvf=>
 Sw vf ou #[oq,nL,nM] λqu=>
 Sw qu dj.drew.heap.size #[vi,ve,yB] λl6=>
 J14 (aB ou) (aB dj.drew.heap.size) l6))/\(Aw IF #[aa,aa,aa] 28 λvL=>
 ah 170 #[.agg #[cw,cH,dh,cA,cu,di,db,ef,Kw],.agg #[eU,dY,fg,fO,gm,gn,jN,iD,Y3]] vL (λe wC=>∃(qt rV vJ vK Hs qO:Int),e=Value.tuple #[.agg #[qt,rV,vJ],.agg #[vK,Hs,qO]]/\wC.heap[dj.drew.heap.size]? =vL.heap[dj.drew.heap.size]?/\Kp IF vL wC/\
 Sw wC IF #[qt,rV,vJ] λMG=>
 Sw MG dj.drew.heap.size #[vK,Hs,qO] λpf=>
 J14 (aB IF) (aB dj.drew.heap.size) pf))))/\
 ∀aAK:Nat->Value,∀(p91 p92:Option Addr)(IW:World),J14 p91 p92 IW->
 ∃J94:World->Prop,
 (eA s1.a x5 s1.n/\∃(yE EK EM MH Kv td qK qG:Int)(Qt:Bool),af IW.drew (ae s1.a ((x5:Int).toNat*9)) 0 [yE,EK,EM,MH,Kv,td,qK,qG,Qt]/\
 ∃(pJ ph np:Int),af IW.drew p91 0 [pJ,ph,np]/\
 ah 171 #[.agg #[yE,EK,EM,MH,Kv,td,qK,qG,Qt],a0,.agg #[pJ,ph,np]] IW.drew (λe Hz=>∃(yJ pj jB nr ig ta vg HE:Int)(D9:Bool),e=Value.agg #[yJ,pj,jB,nr,ig,ta,vg,HE,D9]/\
 eA s1.a x5 s1.n/\(((ae s1.a ((x5:Int).toNat*9))).isSome=true/\Wr Hz (ae s1.a ((x5:Int).toNat*9)) 9)/\(∀Qs,Qs=aL Hz (ae s1.a ((x5:Int).toNat*9)) [yJ,pj,jB,nr,ig,ta,vg,HE,D9]->
 J94 Qs)))/\
 ∀ax2:Nat->Value,∀(pK:World),J94 pK->
 eA s1.a bu s1.n/\∃(adp T9 Y5 AP Ea QB AQ AR:Int)(acN:Bool),af pK.drew (ae s1.a ((bu:Int).toNat*9)) 0 [adp,T9,Y5,AP,Ea,QB,AQ,AR,acN]/\
 ∃(pL pM Eb:Int),af pK.drew p92 0 [pL,pM,Eb]/\
 ah 171 #[.agg #[adp,T9,Y5,AP,Ea,QB,AQ,AR,acN],a0,.agg #[pL,pM,Eb]] pK.drew (λe QD=>∃(Zd QE QF QG QH QI II Qu:Int)(an8:Bool),e=Value.agg #[Zd,QE,QF,QG,QH,QI,II,Qu,an8]/\
 eA s1.a bu s1.n/\(((ae s1.a ((bu:Int).toNat*9))).isSome=true/\Wr QD (ae s1.a ((bu:Int).toNat*9)) 9)/\(∀qJ,qJ=aL QD (ae s1.a ((bu:Int).toNat*9)) [Zd,QE,QF,QG,QH,QI,II,Qu,an8]->
 ∃n13,n13<n9/\I8 n13 ((ao (bu+1))) qJ)))
 (∃n7,n7<n3/\I2 n7 ((ao (x5+1))) dj))
 (R s1 w6))):ah 117 #[a0,a1] w R:=
 cq ⟨[(6,⟨[(7,.int .i64)],[],[]⟩),(3,⟨[(14,.int .i64)],[],[]⟩)],[(10,⟨[],[],[]⟩),(9,⟨[(8,.ptr),(9,.ptr)],[],[]⟩)],[]⟩ Tryz.func117 h
open Go.cZ Go.aT Go.Code Go.fh Go.eH Go.gr
def zA{w v:World}{o:Obj}(e:v=w.alloc o):v.heap.size=w.heap.size+1:=by rw [e];simp
def zR{w v:World}{g:Nat}{c:Array Value}(e:v=w.setRow g c):v.heap.size=w.heap.size:=by rw [e];simp
def N1{v:Value}{V:Ce->Int}{w:World}(hV:Tl v V w)(hv:kP v=[])(b:Bx):ah 234 #[v,su b] w λe w'=>e=Value.bool (g8 V b λx=>x==4)/\Ext w w':=by apply La.vc;intro w0 e0;have x0:=aQ e0;have z0:=zA e0;refine (FT (hV.ext x0) hv b (.func (.func 274) #[] #[]) rfl (λx=>x==4) λx w'=>cX (by kernel_rfl) rfl (Lb.vc ⟨rfl,Ext.cM _⟩)).mono ?_;rintro e w1 ⟨rfl,x1⟩;exact ⟨_,rfl,x1.heap ab,rfl,x0.tr x1⟩
def Wq{v:Value}{V:Ce->Int}{w:World}(hV:Tl v V w)(hv:kP v=[])(b:Bx):ah 235 #[v,su b] w λe w'=>e=Value.bool (g8 V b rq)/\Ext w w':=by
 apply Wf.vc;intro w0 e0;have x0:=aQ e0;have z0:=zA e0;refine (FT (hV.ext x0) hv b (.func (.func 202) #[] #[]) rfl rq λx w'=>cX (by kernel_rfl) rfl ((oQ x w').mono ?_)).mono ?_
 ·rintro e w'' ⟨rfl,rfl⟩;exact ⟨rfl,Ext.cM _⟩
 rintro e w1 ⟨rfl,x1⟩;exact ⟨_,rfl,x1.heap ab,rfl,x0.tr x1⟩
def vv(n:Int)(w:World):ah 260 #[n] w λe w'=>e=Value.tuple #[.int .u64 (max (cT n) (-(cT n))),.bool (decide (cT n<0))]/\w'=w:=by
 apply RO.vc;refine (gA n w).mono ?_;rintro e w0 ⟨rfl,rfl⟩;have hc:=ka n;refine ⟨_,rfl,Br.mk (λh=> ?_) (λh=> ?_)⟩
 ·have h':cT n<0:=by simpa using h
  rw [wI,xM ab,h];exact ⟨by rw [show max (cT n) (-(cT n))=0-cT n from by omega],rfl⟩
 ·have h':¬cT n<0:=by simpa using h
  rw [xM ab,h];exact ⟨by rw [show max (cT n) (-(cT n))=cT n from by omega],rfl⟩
def UQ{x:Int}(h:0<=x/\x<4294967296):oG .u64 x 4294967295=x:=by
 unfold oG;have e:(BitVec.ofInt IntKind.u64.bits x &&& BitVec.ofInt IntKind.u64.bits 4294967295).toNat=x.toNat:=by
  show (BitVec.ofInt 64 x &&& BitVec.ofInt 64 4294967295).toNat=_;rw [zK];have h1:(BitVec.ofInt 64 4294967295).toNat=2 ^ 32-1:=by decide
  rw [h1,Nat.and_two_pow_sub_one_eq_mod,y9];omega
 rw [e,Int.toNat_of_nonneg h.1];exact xM ab
def p32:(2 ^(min (32:Int).toNat 64):Int)=4294967296:=by decide
def RZ(x:Int)(h:0<=x/\x<=65536)(w:World):ah 273 #[.int .u64 x,.int .u64 16384] w λe w'=>e=Value.tuple #[.int .u64 0,.int .u64 (x*16384)]/\w'=w:=by
 apply Dz.vc;have f:∀y:Int,y.fdiv 4294967296=y / 4294967296:=λy=>tq _ aF
 have q1:x / 4294967296=0:=by omega
 have q3:x*16384 / 4294967296=0:=by omega
 rw [p32,UQ (x:=x) ab,UQ (x:=16384) ab];simp only [f];rw [q1,show (16384:Int) / 4294967296=0 from by decide,xM (n:=x*16384) ab,q3,Int.zero_mul,Int.zero_mul,Int.mul_zero];exact ⟨congrArg (λn=>Ending.returned (.tuple #[.int .u64 n,.int .u64 (x*16384)])) aF,trivial⟩
def afc(q:Int)(hq:0<=q/\q<=100000000000000)(below rest:Bool){c0 c1:Nat}{w:World}{τ τ':TypeId}(h0:Row w c0 [.bool below] τ)(h1:Row w c1 [.bool rest] τ'):
  ah 285 #[.int .u64 q,c0,c1] w λe w'=>e=Value.int .u64 (if below=true/\rest=true then q+1 else q)/\w'=w:=by
 apply H6.vc;refine ⟨below,h0.at 0 rfl,?_⟩
 cases below with
 |false=>exact ⟨rfl,rfl⟩
 |true=>
  refine ⟨rest,h1.at 0 rfl,?_⟩
  cases rest with
  |false=>exact ⟨rfl,rfl⟩
  |true=>exact ⟨by rw [xM ab];rfl,rfl⟩
def FU(q:Int)(hq:0<=q/\q<=100000000000000)(rest below:Bool)(w:World):ah 261 #[.int .u64 q,rest,below] w λe w'=>e=Value.int .i64 (if below=true then -(if rest=true then q+1 else q) else q)/\Ext w w':=by
 apply Nk.vc;intro w0 e0 w1 e1;have x0:=aQ e0;have z0:=zA e0;have r0:Row w0 w [.bool rest] 4:=Row.nw e0;have x1:=aQ e1;have r1:Row w1 w0 [.bool below] 4:=Row.nw e1;refine fP (by simp;omega) ⟨below,r1.at 0 rfl,?_⟩
 cases below with
 |false=>exact ⟨by rw [wI];rfl,x0.tr x1⟩
 |true=>
  refine (afc q hq true rest r1 (r0.ext x1)).mono ?_;rintro e w7 ⟨rfl,rfl⟩;refine ⟨_,rfl,?_⟩;have e:(if (true=true/\rest=true) then q+1 else q)=if rest=true then q+1 else q:=by simp
  rw [e];have hb:0<=(if rest=true then q+1 else q)/\(if rest=true then q+1 else q)<=100000000000001:=by split<;>omega
  generalize (if rest=true then q+1 else q)=y at*;rw [aK (n:=y) (by unfold bN;omega),wI];exact ⟨by rw [if_pos rfl,Int.zero_sub],x0.tr x1⟩
def aaw(n:Int)(h: -65536<=n/\n<=65536)(w:World):ah 232 #[n,(16384:Int)] w λe w'=>e=Value.int .i64 (n / 4)/\Ext w w':=by
 apply Wg.vc;refine (vv n w).mono ?_;rintro e w0 ⟨rfl,rfl⟩;have hc:cT n=n:=nZ ab;have hd:cT 16384=16384:=by decide
 rw [hc];refine ⟨_,_,rfl,(vv 16384 w0).mono ?_⟩;rintro e w3 ⟨rfl,rfl⟩;rw [hd];refine ⟨_,_,rfl,(RZ (max n (-n)) ab w3).mono ?_⟩;rintro e w6 ⟨rfl,rfl⟩;refine ⟨_,_,rfl,fP rfl ?_⟩;have hf:(max n (-n)*16384).fdiv (2 ^(min (16:Int).toNat 64))=max n (-n) / 4:=by rw [p16,tq _ aF];omega
 have hr:Int.tmod (max n (-n)*16384) 65536=max n (-n) % 4*16384:=by rw [CT ab];omega
 rw [hf,hr];refine (FU (max n (-n) / 4) ab _ _ w6).mono ?_;rintro e bg ⟨rfl,bu⟩;refine ⟨_,rfl,?_,bu⟩;have hs:(!(decide (n<0)==decide ((16384:Int)<0)))=decide (n<0):=by
  by_cases q:n<0
  ·rw [decide_eq_true q];rfl
  ·rw [decide_eq_false q];rfl
 rw [hs];congr 2;by_cases q:n<0
 ·rw [decide_eq_true q,if_pos rfl];by_cases q2:max n (-n) % 4=0
  ·rw [q2];show -(max n (-n) / 4)=n / 4;omega
  ·have:(max n (-n) % 4*16384 !=0)=true:=by simp;omega
   rw [this,if_pos rfl];omega
 ·rw [decide_eq_false q];show max n (-n) / 4=n / 4;omega
def CZ(n:Int)(w:World):ah 231 #[n] w λe w'=>e=Value.int .i64 (zL n)/\Ext w w':=by
 apply zE.vc;have e:(if 65536<(if (-65536)>n then (-65536) else n) then 65536 else (if (-65536)>n then (-65536) else n))=min (max n (-65536)) 65536:=by
  repeat' split
  all_goals omega
 rw [e];refine (aaw _ ab w).mono ?_;rintro e w1 ⟨rfl,x1⟩;exact ⟨_,rfl,rfl,x1⟩
def R0(b:Bx)(v:Ce)(w:World):ah 300 #[su b,eE v] w λe w'=>e=(su (aax b v))/\Ext w w':=by apply aam.vc;intro w0 e0 w1 e1 w2 e2;have x0:=aQ e0;have z0:=zA e0;have r0:Row w0 w (pC b) fJ:=Row.nw e0;have x1:=aQ e1;have z1:=zA e1;have r1:Row w1 w0 (eg v) gS:=Row.nw e1;have x2:Ext w1 w2.drew:=(aQ e2).drew;have z2:w2.drew.heap.size=w1.heap.size+1:=(zA e2:w2.heap.size=_);refine (jr b.1 v w2.drew).mono ?_;rintro e w3 ⟨rfl,x3⟩;have z3:=x3.size;refine ⟨_,_,_,rfl,x3.heap ab,x3.heap ab,x3.heap ab,Lo.wv (r1.ext (x2.tr x3)),sD (r0.ext (x1.tr (x2.tr x3))) rfl rfl rfl,(jr b.2 v w3).mono ?_⟩;rintro e w7 ⟨rfl,x7⟩;have z7:=x7.size;exact ⟨_,_,_,rfl,x7.heap ab,x7.heap ab,x7.heap ab,λbg HS=>⟨rfl,(x0.tr (x1.tr (x2.tr (x3.tr x7)))).ag HS ab⟩⟩
def R1(b:Bx)(ax k:Int)(hk:bN (k+1))(w:World):ah 312 #[su b,ax,k] w λe w'=>e=(su (gT b ax k))/\Ext w w':=by apply Nh.vc;rw [aK hk];intro w0 e0 w1 e1;have x0:=aQ e0;have z0:=zA e0;have r0:Row w0 w (pC b) fJ:=Row.nw e0;have x1:Ext w0 w1.drew:=(aQ e1).drew;have z1:w1.drew.heap.size=w0.heap.size+1:=(zA e1:w1.heap.size=_);have r1:=r0.ext x1;refine (sH k w1.drew).mono ?_;rintro e w2 ⟨rfl,rfl⟩;refine ⟨_,rfl,rfl,rfl,sD r1 rfl rfl rfl,sD r1 rfl rfl rfl,(iV b.1 ax (pD k) w1.drew).mono ?_⟩;rintro e w4 ⟨rfl,x4⟩;have z4:=x4.size;refine ⟨_,_,_,rfl,x4.heap ab,x4.heap ab,sD (r1.ext x4) rfl rfl rfl,(sH (k+1) w4).mono ?_⟩;rintro e w8 ⟨rfl,rfl⟩;refine ⟨_,rfl,rfl,rfl,sD (r1.ext x4) rfl rfl rfl,(iV b.2 ax (pD (k+1)) _).mono ?_⟩;rintro e bP ⟨rfl,bj⟩;have YS:=bj.size;exact ⟨_,_,_,rfl,bj.heap ab,bj.heap ab,λbO vH=>⟨rfl,(x0.tr (x1.tr (x4.tr bj))).ag vH ab⟩⟩
abbrev sK(b:Bx)(ax d:Int):List (LV):=(ez b ax d).map λx=> [.int .i64 x.1,.int .i64 x.2]
abbrev ahx(g:Nat):Value:=.func (.func 322) #[] #[g,.pointer (some ⟨g+1,0,none⟩),.pointer (some ⟨g+2,0,none⟩)]
def Oh(b:Bx)(ax d:Int)(w:World):ah 311 #[su b,ax,d] w λe w'=>e=(ahx w)/\Row w' w (pC b) fJ/\Row w' (w.heap.size+1) [ax] 3/\Row w' (w.heap.size+2) [d] 3/\Ext w w':=by apply Lc.vc;intro w0 e0 w1 e1 w2 e2;have z0:=zA e0;have z1:=zA e1;have r0:Row w0 w (pC b) fJ:=Row.nw e0;have r1:Row w1 w0 [ax] 3:=Row.nw e1;have r2:Row w2 w1 [d] 3:=Row.nw e2;have x1:=aQ e1;have x2:=aQ e2;rw [z0] at r1;rw [z1,z0] at r2;exact ⟨by rw [z1,z0],r0.ext (x1.tr x2),r1.ext x2,r2,(aQ e0).tr (x1.tr x2)⟩
def LC{k:Int}(h: -2147483648<=k/\k<=2147483648):pD k=k*65536:=by unfold pD;omega
def Oi(b:Bx)(ax d:Int)(hb:cP b 100000000000000)(hd: -4194304<=d/\d<=4194304)(g:Nat)(W0:World)(h0:Row W0 g (pC b) fJ)(h1:Row W0 (g+1) [ax] 3)(h2:Row W0 (g+2) [d] 3):
  Iter Tryz.prog (ahx g) W0 (λi=>i=g\/i=g+1\/i=g+2) (sK b ax d):=by
 refine ⟨⟨_,_,_,rfl,by kernel_rfl⟩,?_⟩;intro y B J Jx F0 W hB hsJ hsX AK hRd hround hJ0;refine cX (by kernel_rfl) (by rfl) ?_;apply FJ.vc;have rows:∀{wr:World},(∀i,(i=g\/i=g+1\/i=g+2)->wr.heap[i]? =W0.heap[i]?)->Row wr g (pC b) fJ/\Row wr (g+1) [ax] 3/\Row wr (g+2) [d] 3:=λh=>⟨h0.same (h _ (.inl rfl)),h1.same (h _ (.inr (.inl rfl))),h2.same (h _ (.inr (.inr rfl)))⟩
 obtain ⟨q0,q1,q2⟩:=rows λi hi=>(hRd i hi).2.2
 have xd:=Ext.dr W;have ZN:=hb.ax aF ax;refine ⟨_,_,_,sD (o:=0) (q0.ext xd) rfl rfl rfl,_,(q1.ext xd).at 0 rfl,_,_,_,sD (o:=3) (q0.ext xd) rfl rfl rfl,_,(q1.ext xd).at 0 rfl,(dp b.1 ax W.drew).mono ?_⟩;rintro e w8 ⟨rfl,x8⟩;refine ⟨_,rfl,Lo.wv (q1.ext (xd.tr x8)),sD (o:=3) (q0.ext (xd.tr x8)) rfl rfl rfl,(dp b.2 ax w8).mono ?_⟩;rintro e bP ⟨rfl,bj⟩;have xW:=xd.tr (x8.tr bj);refine ⟨_,rfl,_,(q2.ext xW).at 0 rfl,?_⟩;obtain ⟨Q,hQ⟩:∃Q:Nat->World->Prop,Q=λk wr=>∃F,J k F wr/\∀i,(i=g\/i=g+1\/i=g+2)->¬F i/\i<wr.heap.size/\wr.heap[i]? =W0.heap[i]? :=⟨_,rfl⟩
 have ext:∀{k:Nat} {wr wr':World},Q k wr->Ext wr wr'->W.heap.size<=wr->Q k wr':=λ{k wr wr'} h x hz=>by rw [hQ] at h ⊢;obtain ⟨F,hJ,hk⟩:=h;exact ⟨F,hsJ _ _ _ _ hJ (Below.mono x ab) λi hi=>x.heap (AK _ _ _ hJ i hi),λi hi=>⟨(hk i hi).1,kM (hk i hi).2.1 x.size,(x.heap (hk i hi).2.1).trans (hk i hi).2.2⟩⟩
 have init:Q 0 bP:=by refine ext (wr:=W) ?_ xW (aC _);rw [hQ];exact ⟨F0,hJ0,hRd⟩
 have qrow:∀{k:Nat} {wr:World},Q k wr->Row wr (g+2) [d] 3:=λh=>by rw [hQ] at h;obtain ⟨F,-,hk⟩:=h;exact h2.same (hk _ (.inr (.inr rfl))).2.2
 have round:∀{k:Nat} {wr:World} {x:LV},W.heap.size<=wr->(sK b ax d)[k]? =some x->Q k wr->cC Tryz.prog y x wr λe w'=>W.heap.size<=w'.heap.size/\((e=true/\Q (k+1) w')\/(e=false/\∃F',Jx () F' w')):=λ{k wr x} hz hx h=>by
  rw [hQ] at h ⊢;obtain ⟨F,hJ,hk⟩:=h;refine dw (hround _ _ _ _ hx hJ) ?_;rintro e w' (⟨rfl,F2,Ul,gM⟩|⟨rfl,F2,Ul,gM⟩)
  ·refine ⟨by have:=gM.size;omega,.inl ⟨rfl,F2,Ul,λi hi=> ?_⟩⟩;obtain ⟨p1,p2,p3⟩:=hk i hi;refine ⟨λhf=> ?_,kM p2 gM.size,(gM.same i p2 p1).trans p3⟩;rcases gM.sub i hf with hf|hf
   ·exact p1 hf
   ·omega
  ·exact ⟨by have:=gM.size;omega,.inr ⟨rfl,F2,Ul⟩⟩
 have fin:∀{wr:World},Q (sK b ax d).length wr->∃F',J (sK b ax d).length F' wr:=λh=>by rw [hQ] at h;obtain ⟨F,hJ,-⟩:=h;exact ⟨F,hJ⟩
 have zW:=xW.size;apply Br.mk<;>intro Cd
 ·have Cd:=cU Cd;have hL:ez b ax d=(List.range (ZB (dA b.2 ax) d (cc (dA b.2 ax+65535)))).map λi:Nat=>(cc (dA b.2 ax+65535)+i,(cc (dA b.2 ax+65535)+i)*65536-dA b.2 ax):=by unfold ez;rw [if_pos Cd]
  have HR:∀{k:Nat},k<ZB (dA b.2 ax) d (cc (dA b.2 ax+65535))->(sK b ax d)[k]? =some [.int .i64 (cc (dA b.2 ax+65535)+k),.int .i64 ((cc (dA b.2 ax+65535)+k)*65536-dA b.2 ax)]:=λ{k} hk=>by unfold sK;rw [hL,aR,aR,Jk hk];rfl
  have dN:(sK b ax d).length=ZB (dA b.2 ax) d (cc (dA b.2 ax+65535)):=by unfold sK;rw [hL];simp
  have Hm:cc (dA b.2 ax+65535)=(dA b.2 ax+65535) / 65536:=by unfold cc;rw [nZ ab]
  generalize sK b ax d=xs at*;generalize dA b.2 ax=top at*;generalize dA b.1 ax=low at*;rw [aK (n:=top+65536) (by unfold bN;omega),aK (n:=top+65536-1) (by unfold bN;omega),show top+65536-1=top+65535 from by omega];refine (oS (top+65535) bP).mono ?_;rintro e bK ⟨rfl,au2⟩;subst au2;rw [Hm] at HR dN ⊢;have adP:∀i:Nat,((top+65535) / 65536+(i:Int))*65536<top+d ↔ i<ZB top d ((top+65535) / 65536):=λi=>afJ ab
  have hn:ZB top d ((top+65535) / 65536)<=100:=by unfold ZB;omega
  generalize ZB top d ((top+65535) / 65536)=N at*;refine ⟨_,rfl,λn x wr=>∃k:Nat,x=(top+65535) / 65536+k/\k+n=N/\Q k wr/\W.heap.size<=wr,⟨N,0,by omega,by omega,init,zW⟩,?_⟩;rintro n us x wr ⟨k,rfl,hk,hq,zr⟩;have xr:=Ext.dr wr;have hqd:=ext hq xr zr;have zrd:W.heap.size<=wr.drew.heap.size:=zr;refine ⟨_,(qrow hqd).at 0 rfl,(sH _ wr.drew).mono ?_⟩;rw [LC ab];rintro e dP ⟨rfl,au3⟩;subst au3;refine ⟨_,rfl,Lo.wv (qrow hqd),?_⟩;rw [aK (n:=top+d) (by unfold bN;omega)];refine Br.mk (λhc=>(sH _ wr.drew).mono ?_) (λhc=> ?_)
  ·have hc:=(adP k).1 (by simpa using hc);rw [LC ab];rintro e gl ⟨rfl,au4⟩;subst au4;have wq:ao (((top+65535) / 65536+(k:Int))*65536-top)=((top+65535) / 65536+(k:Int))*65536-top:=wI;have wk:ao ((top+65535) / 65536+(k:Int)+1)=(top+65535) / 65536+((k+1:Nat):Int):=by rw [wI];omega
   refine ⟨_,rfl,?_⟩;rw [wq];refine dw (round zrd (HR hc) hqd) ?_;rintro e fx ⟨z26,⟨rfl,hq2⟩|⟨rfl,hx2⟩⟩
   ·exact ⟨true,rfl,Br.mk (λh=>by cases h) (λ_=>⟨n-1,by omega,k+1,wk,by omega,hq2,z26⟩)⟩
   ·exact ⟨false,rfl,Br.mk (λ_=>⟨⟨_,rfl⟩,.inr hx2⟩) (λh=>by cases h)⟩
  ·have hc:¬k<N:=λq=>absurd ((adP k).2 q) (by simpa using hc)
   have e:k=N:=by omega
   subst e;rw [<-dN] at hqd;exact ⟨⟨_,rfl⟩,.inl (fin hqd)⟩
 ·have Cd:=cU Cd;have hL:ez b ax d=(List.range (tC (dA b.1 ax) d (cc (dA b.1 ax)-1))).map λi:Nat=>(cc (dA b.1 ax)-1-i,(cc (dA b.1 ax)-1-i+1)*65536-dA b.1 ax):=by unfold ez;rw [if_neg Cd]
  have HR:∀{k:Nat},k<tC (dA b.1 ax) d (cc (dA b.1 ax)-1)->(sK b ax d)[k]? =some [.int .i64 (cc (dA b.1 ax)-1-k),.int .i64 ((cc (dA b.1 ax)-1-k+1)*65536-dA b.1 ax)]:=λ{k} hk=>by unfold sK;rw [hL,aR,aR,Jk hk];rfl
  have dN:(sK b ax d).length=tC (dA b.1 ax) d (cc (dA b.1 ax)-1):=by unfold sK;rw [hL];simp
  have Hm:cc (dA b.1 ax)=dA b.1 ax / 65536:=by unfold cc;rw [nZ ab]
  generalize sK b ax d=xs at*;generalize dA b.2 ax=top at*;generalize dA b.1 ax=low at*;refine (oS low bP).mono ?_;rintro e iw ⟨rfl,au5⟩;subst au5;rw [Hm] at HR dN ⊢;have adP:∀i:Nat,low+d<(low / 65536-1-(i:Int)+1)*65536 ↔ i<tC low d (low / 65536-1):=λi=>Xy
  have hn:tC low d (low / 65536-1)<=100:=by unfold tC;omega
  generalize tC low d (low / 65536-1)=N at*;have ws:ao (low / 65536-1)=low / 65536-1:=wI;refine ⟨_,rfl,?_⟩;rw [ws];refine ⟨λn x wr=>∃k:Nat,x=low / 65536-1-k/\k+n=N/\Q k wr/\W.heap.size<=wr,⟨N,0,by omega,by omega,init,zW⟩,?_⟩;rintro n us x wr ⟨k,rfl,hk,hq,zr⟩;have xr:=Ext.dr wr;have hqd:=ext hq xr zr;have zrd:W.heap.size<=wr.drew.heap.size:=zr;have w1:ao (low / 65536-1-(k:Int)+1)=low / 65536-1-(k:Int)+1:=wI;rw [w1];refine ⟨_,(qrow hqd).at 0 rfl,(sH _ wr.drew).mono ?_⟩;rw [LC ab];rintro e gw ⟨rfl,au6⟩;subst au6;refine ⟨_,rfl,Lo.wv (qrow hqd),?_⟩;rw [aK (n:=low+d) (by unfold bN;omega)];refine Br.mk (λhc=>(sH _ wr.drew).mono ?_) (λhc=> ?_)
  ·have hc:=(adP k).1 (by simpa using hc);rw [LC ab];rintro e kx ⟨rfl,ak8⟩;subst ak8;have wq:ao ((low / 65536-1-(k:Int)+1)*65536-low)=(low / 65536-1-(k:Int)+1)*65536-low:=wI;have wk:ao (low / 65536-1-(k:Int)-1)=low / 65536-1-((k+1:Nat):Int):=by rw [wI];omega
   refine ⟨_,rfl,?_⟩;rw [wq];refine dw (round zrd (HR hc) hqd) ?_;rintro e jw ⟨z41,⟨rfl,hq2⟩|⟨rfl,hx2⟩⟩
   ·exact ⟨true,rfl,Br.mk (λh=>by cases h) (λ_=>⟨n-1,by omega,k+1,wk,by omega,hq2,z41⟩)⟩
   ·exact ⟨false,rfl,Br.mk (λ_=>⟨⟨_,rfl⟩,.inr hx2⟩) (λh=>by cases h)⟩
  ·have hc:¬k<N:=λq=>absurd ((adP k).2 q) (by simpa using hc)
   have e:k=N:=by omega
   subst e;rw [<-dN] at hqd;exact ⟨⟨_,rfl⟩,.inl (fin hqd)⟩
def aaN{b:Bx}{ax d:Int}{n:Nat}{x y:Int}(h:(sK b ax d)[n]? =some [.int .i64 x,.int .i64 y]):(ez b ax d)[n]? =some (x,y):=by
 unfold sK at h;rw [aR] at h
 cases hc:(ez b ax d)[n]? with
 |none=>rw [hc] at h;cases h
 |some c=>
  rw [hc] at h;simp only [nB] at h;injection h with h;injection h with h1 h;injection h with h2 _;injection h1 with _ h1;injection h2 with _ h2;exact congrArg some (Prod.ext h1 h2)
def ar0(d:Int):(if 4194304<(if (-4194304)>d then (-4194304) else d) then 4194304 else (if (-4194304)>d then (-4194304) else d))=lP d:=by
 unfold lP
 repeat' split
 all_goals omega
def Se{v:Value}{V:Ce->Int}{w:World}(hV:Tl v V w)(hv:kP v=[])(b:Bx)(hb:cP b 100000000000000)(ax d:Int)(hax:0<=ax/\ax<3):
  ah 299 #[v,su b,ax,d] w λe w'=>e=Value.tuple #[.int .i64 (iX V aG b ax d).1,.bool (iX V aG b ax d).2]/\Ext w w':=by
 apply RL.vc;rw [hv,qS,ar0];have hd:=vx d;intro w0 e0 w1 e1 w2 e2 w3 e3 w4 e4;have x0:=aQ e0;have z0:=zA e0;have r0:∃τ,Row w0 w [v] τ:=⟨_,by rw [e0];exact Row.new w [_] _⟩;have x1:=aQ e1;have z1:=zA e1;have x2:=aQ e2;have z2:=zA e2;have x3:=aQ e3;have z3:=zA e3;have x4:=aQ e4;have z4:=zA e4;have Dp:=x0.tr (x1.tr (x2.tr (x3.tr x4)));obtain ⟨τ0,r0⟩:=r0;refine fP (by simp;omega) (fP (by simp;omega) ((Oh b ax (lP d) w4).mono ?_));rintro e w9 ⟨rfl,hb9,ha9,hd9,x9⟩;have z9:=x9.size;have l9:=hd9.lt;have QK:=Dp.tr x9;have r9:=r0.ext (x1.tr (x2.tr (x3.tr (x4.tr x9))));refine ⟨_,rfl,x9.heap ab,x9.heap ab,x9.heap ab,x9.heap ab,x9.heap ab,sK b ax (lP d),λi=>i=w4.heap.size\/i=w4.heap.size+1\/i=w4.heap.size+2,λ_=>False,
  λn F y bb w'=>(∀i,¬F i)/\(∀x ∈(ez b ax (lP d)).take n,g8 V (gT b ax x.1) aG=false)/\Mod (λi=>w9.heap.size<=i) w9 w',
  λo F y bb w'=>(∀i,¬F i)/\(y,bb)=iX V aG b ax d/\Mod (λi=>i=w2.heap.size\/i=w3.heap.size\/w9.heap.size<=i) w9 w',?_,?_,?_,λn F y bb w' h i hi=>(h.1 i hi).elim,λo F y bb w' h i hi=>(h.1 i hi).elim,λi hi=> ?_,λCy yD=> ?_,?_,?_,?_⟩
 ·intro x hx;obtain ⟨c,-,rfl⟩:=aW.1 hx;exact ⟨_,_,rfl⟩
 ·rintro n F y bb eZ dP ⟨h1,h2,h3⟩ lr -;exact ⟨h1,h2,h3.tr ⟨lr.os,lr.tape,lr.output,lr.size,λi hi hn=>lr.block i (JG hn)⟩ λi hi=> .inl hi⟩
 ·rintro o F y bb eZ dP ⟨h1,h2,h3⟩ lr -;exact ⟨h1,h2,h3.tr ⟨lr.os,lr.tape,lr.output,lr.size,λi hi hn=>lr.block i (JG hn)⟩ λi hi=> .inl (.inr (.inr hi))⟩
 ·rcases hi with rfl|rfl|rfl<;>exact ⟨by omega,id,by omega,by omega,by omega,by omega,by omega,trivial⟩
 ·exact ⟨Oi b ax (lP d) hb hd _ Cy (hb9.same (yD.ext.block _ ab)) (ha9.same (yD.ext.block _ ab)) (hd9.same (yD.ext.block _ ab)),rfl,rfl,rfl,λi h=>h,λc hc=>by simp at hc,Mod.aH yD.ext⟩
 ·rintro n F us y50 b51 lh jA qH hx hI;have z56:=hI.2.2.size;refine ⟨Below.refl _ _,λmR gJ adv=> ?_⟩;obtain ⟨hF,mO,hM⟩:=adv;have zr:=gJ.size;have hc:=aaN hx;have pk:=aX hc;have pc:=Ga hb hd _ pk;have z57:=hM.size;have ht:(ez b ax (lP d)).take (n+1)=(ez b ax (lP d)).take n++ [(lh,jA)]:=by rw [dR,hc];rfl
  have zd:=lE mR;have at2:Tl v V mR.drew:=by obtain ⟨D,hD1,hD2⟩:=hV;refine ⟨D,λi hi=>by have:=hD1 i hi;have:=QK.size;omega,λw' hk=>hD2 w' λi hi=>(hk i hi).trans ?_⟩;have:=hD1 i hi;have:=QK.size;exact (hM.same i ab ab).trans (QK.heap ab)
  refine (R1 b ax lh (by simp only at pc;unfold bN;omega) mR.drew).mono ?_;rintro e mQ ⟨rfl,lX⟩;have z60:=lX.size;have adw:=hM.trans (Mod.aH ((Ext.dr mR).tr lX));refine ⟨_,_,_,_,_,_,rfl,lX.heap ab,lX.heap ab,lX.heap ab,lX.heap ab,lX.heap ab,Lo.wv (adw.row r9 ab),(nU (at2.ext lX) hv (gT b ax lh)).mono ?_⟩;rintro e iH ⟨rfl,om⟩;have z62:=om.size;have QM:=adw.trans (Mod.aH om);refine ⟨_,rfl,om.heap ab,om.heap ab,om.heap ab,om.heap ab,om.heap ab,Br.mk (λhq=>λue Ze EJ Zf=> ?_) (λhq=> ?_)⟩
  ·have hax2:iX V aG b ax d=(jA,true):=by
    unfold iX;have hf:(ez b ax (lP d)).find? (λx=>g8 V (gT b ax x.1) aG)=some (lh,jA):=by
     have hsplit:ez b ax (lP d)=(ez b ax (lP d)).take n++(lh,jA)::(ez b ax (lP d)).drop (n+1):=by
      have h1:=qZ n (ez b ax (lP d));have h2:(ez b ax (lP d)).drop n=(lh,jA)::(ez b ax (lP d)).drop (n+1):=by have hl:=(cG.1 hc);rw [zU hl.1,hl.2]
      rw [h2] at h1;exact h1.symm
     rw [hsplit,List.find?_append,Oj.2 λx hx=>by rw [mO x hx];decide];simp [hq]
    rw [hf]
   have atM:EJ.heap.size=iH.heap.size:=by rw [Zf,setRow_size,Ze,setRow_size]
   have akL:∀i,i≠w2.heap.size->i≠w3.heap.size->EJ.heap[i]? =iH.heap[i]? :=λi h1 h2=>by rw [Zf,setRow_other _ _ _ _ h2,Ze,setRow_other _ _ _ _ h1]
   have adx:Mod (λi=>i=w2.heap.size\/i=w3.heap.size) iH EJ:=⟨by rw [Zf,Ze];rfl,by rw [Zf,Ze];rfl,by rw [Zf,Ze];rfl,by omega,λi _ hn=>akL i (λq=>hn (.inl q)) (λq=>hn (.inr q))⟩;refine ⟨rfl,λ_=>False,⟨rfl,rfl,rfl,λi h=>h,hax2.symm,(QM.mono λi _ h=> .inr (.inr h)).trans (adx.mono λi _ h=>h.elim .inl λh=> .inr (.inl h))⟩,?_⟩;have HF:=((Mod.aH (F:=λi=>i=w2.heap.size\/i=w3.heap.size) (((Ext.dr mR).tr lX).tr om))).trans adx;refine Step.late ⟨λi hi=> ?_,HF.size,λi hi hn=>HF.same i hi λq=>hn (.inr ?_)⟩
   ·rcases hi with h|h
    ·exact h.elim
    ·exact .inl (.inr h)
   ·rcases q with rfl|rfl<;>simp
  ·have QN:=((Ext.dr mR).tr lX).tr om;refine ⟨λ_=>False,⟨rfl,rfl,rfl,λi h=>h,λc hc=> ?_,QM⟩,Step.late ⟨λi hi=> ?_,QN.size,λi hi _=>QN.block i hi⟩⟩
   ·rw [ht,cV] at hc;rcases hc with hc|hc
    ·exact mO c hc
    ·rw [iN.1 hc];exact hq
   ·rcases hi with h|h
    ·exact h.elim
    ·exact .inl (.inr h)
 ·rintro F us y70 b73 mU ⟨hF,mO,hM⟩ Ue sY Zg j6 e76;have z74:=hM.size;have dN:(sK b ax (lP d)).length=(ez b ax (lP d)).length:=by unfold sK;simp
  rw [dN,iR] at mO;have hax2:iX V aG b ax d=(lP d,false):=by unfold iX;rw [Oj.2 λx hx=>by rw [mO x hx];decide]
  rw [hax2];refine ⟨by rw [e76,setRow_other _ _ _ _ ab,Zg,setRow_other _ _ _ _ ab];exact Ue,λvf gJ=>⟨rfl,?_⟩⟩;have vi:Ext w mU:=hM.ext QK λi hi=>by have:=QK.size;omega
  have yB:Ext w j6:=(vi.ag Zg ab).ag e76 ab;exact (Mod.sI gJ).ext yB λi hi=>by have:=QK.size;omega
 ·rintro F us y80 b83 Mc ⟨hF,hax2,hM⟩ Ue;rw [<-hax2];refine ⟨Ue,λw85 gJ=>⟨rfl,?_⟩⟩;have vJ:Ext w Mc:=hM.ext QK λi hi=>by have:=QK.size;omega
  exact (Mod.sI gJ).ext vJ λi hi=>by have:=QK.size;omega
def oO{v:Value}{V:Ce->Int}{w:World}(hV:Tl v V w)(hv:kP v=[])(b:Bx)(hb:cP b 100000000000000)(ax d:Int)(hax:0<=ax/\ax<3):
  ah 275 #[v,su b,ax,d] w λe w'=>e=Value.tuple #[su (bZ V aG b ax d).1,.bool (bZ V aG b ax d).2]/\Ext w w':=by
 apply Nj.vc;intro w0 e0 w1 e1;have x0:=aQ e0;have z0:=zA e0;have r0:Row w0 w (pC b) fJ:=Row.nw e0;have x1:=aQ e1;have z1:=zA e1;refine (Se (hV.ext (x0.tr x1)) hv b hb ax d hax).mono ?_;rintro e w2 ⟨rfl,x2⟩;have z2:=x2.size;have zd:=lE w2;refine ⟨_,_,rfl,x2.heap ab,x2.heap ab,(iV (0,0,0) ax (iX V aG b ax d).1 w2.drew).mono ?_⟩;rintro e w5 ⟨rfl,x5⟩;have z5:=x5.size;refine ⟨_,_,_,rfl,x5.heap ab,x5.heap ab,Lo.wv (r0.ext (x1.tr (x2.tr ((Ext.dr w2).tr x5)))),(R0 b (fB (0,0,0) ax (iX V aG b ax d).1) w5).mono ?_⟩;rintro e w9 ⟨rfl,x9⟩;have z9:=x9.size;exact ⟨_,_,_,_,_,_,rfl,x9.heap ab,x9.heap ab,λcF HU=>⟨rfl,(x0.tr (x1.tr (x2.tr ((Ext.dr w2).tr (x5.tr x9))))).ag HU ab⟩⟩
abbrev Ht:=Bool × Bool × Bool
abbrev hL(h:Ht):LV:=[.bool h.1,.bool h.2.1,.bool h.2.2]
abbrev ko:TypeId:=299
def M4(h:Ht):One (hL h):=by intro v hv;simp at hv;rcases hv with rfl|rfl|rfl<;>rfl
def pB{g h o:Nat}(hn:g≠h):bz (dC g o)≠some h:=λq=>hn (Option.some.inj q)
def qw{g h o n:Nat}(hn:g≠h):bz (ae (dC g o) n)≠some h:=by rw [c5];exact pB hn
def Em{wr:World}{gh go gb:Nat}{h:Ht}{cs:LV}(rh:Row wr gh (hL h) ko)(ro:Row wr go cs ko)(hc:cs.length=3)(jh:gh≠go)(h1:gb≠gh)(h2:gb≠go)(c:Array Value):
  af wr.drew (aB gh) 0 (hL h)/\∀gl:World,gl=wr.drew.setRow gb c->af gl (aB gh) 0 (hL h)/\Wr gl (aB go) 3/\∀cW:World,cW=Vc.aL gl (aB go) (hL h)->af cW (aB go) 0 (hL h)/\Mod (λi=>i=gb\/i=go) wr cW:=by
 have xd:=Ext.dr wr;refine ⟨Lo.wv (rh.ext xd),λgl IB=> ?_⟩;have rh2:Row gl gh (hL h) ko:=(rh.ext xd).same (by rw [IB];exact setRow_other _ _ _ _ h1.symm);have ro2:Row gl go cs ko:=(ro.ext xd).same (by rw [IB];exact setRow_other _ _ _ _ h2.symm);have m24:Mod (λi=>i=gb\/i=go) wr gl:=by refine (Mod.aH xd).trans ⟨by rw [IB];rfl,by rw [IB];rfl,by rw [IB];rfl,by rw [IB,setRow_size];exact aC _,λi _ hn=>by rw [IB];exact setRow_other _ _ _ _ λq=>hn (.inl q)⟩
 refine ⟨Lo.wv rh2,ro2.wr ab,λcW yA=> ?_⟩;rw [ro2.aL (vs:=hL h) (by rw [hc];exact aC _) (M4 h),ep (by rw [hc];rfl)] at yA;have r25:Row cW go (hL h) ko:=ro2.st yA;exact ⟨Lo.wv r25,m24.trans ⟨by rw [yA];rfl,by rw [yA];rfl,by rw [yA];rfl,by rw [yA,setRow_size];exact aC _,λi _ hn=>by rw [yA];exact setRow_other _ _ _ _ λq=>hn (.inr q)⟩⟩
def M5(V:Ce->Int)(p:Int->Bool)(b:Bx)(d:Ce):Nat->Bx × Ht
 |0=>(b,(false,false,false))
 |1=>((bZ V p b 1 d.2.1).1,(false,(bZ V p b 1 d.2.1).2,false))
 |2=>((bZ V p (bZ V p b 1 d.2.1).1 0 d.1).1,((bZ V p (bZ V p b 1 d.2.1).1 0 d.1).2,(bZ V p b 1 d.2.1).2,false))
 |_=>jE V p b d
def aeV{V:Ce->Int}{p:Int->Bool}{b:Bx}{d:Ce}{m:Int}(hb:cP b m)(hm:m<=99990000000000){k:Nat}(hk:k<3):cP (M5 V p b d k).1 100000000000000:=by
 have up:∀{c:Bx} {a:Int},cP c a->a<=100000000000000->cP c 100000000000000:=λh1 h2=>by unfold cP at h1 ⊢;omega
 have h1:=dI (V:=V) (p:=p) (ax:=1) (d:=d.2.1) hb ab;have h2:=dI (V:=V) (p:=p) (ax:=0) (d:=d.1) h1 ab;have:k=0\/k=1\/k=2:=by omega
 rcases this with rfl|rfl|rfl
 ·exact up hb ab
 ·exact up h1 ab
 ·exact up h2 ab
def Fj{v:Value}{V:Ce->Int}{w:World}(hV:Tl v V w)(hv:kP v=[])(b:Bx){m:Int}(hb:cP b m)(hm:m<=99990000000000)(d:Ce):
  ah 240 #[v,su b,eE d] w λe w'=>e=Value.tuple #[su (jE V aG b d).1,.agg (hL (jE V aG b d).2).toArray]/\Ext w w':=by
 apply Ry.vc;intro w0 e0 w1 e1 w2 e2 w3 e3 w4 e4;have x0:=aQ e0;have z0:=zA e0;have r0:Row w0 w (pC b) fJ:=Row.nw e0;have x1:=aQ e1;have z1:=zA e1;have x2:=aQ e2;have z2:=zA e2;have x3:=aQ e3;have z3:=zA e3;have r3:Row w3 w2 (hL (false,false,false)) ko:=Row.nw e3;have x4:=aQ e4;have z4:=zA e4;have r4:Row w4 w3 (hL (false,false,false)) ko:=Row.nw e4;have Dp:=x0.tr (x1.tr (x2.tr (x3.tr x4)));refine ⟨λn x a1 a2 a3 a4 a5 a6 wr=>∃k:Nat,x=k/\k+n=3/\a1=(M5 V aG b d k).1.1.1/\a2=(M5 V aG b d k).1.1.2.1/\a3=(M5 V aG b d k).1.1.2.2/\a4=(M5 V aG b d k).1.2.1/\a5=(M5 V aG b d k).1.2.2.1/\a6=(M5 V aG b d k).1.2.2.2/\Row wr w (pC (M5 V aG b d k).1) fJ/\Row wr w3 (hL (M5 V aG b d k).2) ko/\Row wr w2 (hL (false,false,false)) ko/\Ext w wr,
  ⟨3,rfl,rfl,0,rfl,rfl,rfl,rfl,rfl,rfl,rfl,rfl,r0.ext (x1.tr (x2.tr (x3.tr x4))),r4,r3.ext x4,Dp⟩,?_⟩
 rintro n us x a1 a2 a3 a4 a5 a6 wr ⟨k,rfl,hk,rfl,rfl,rfl,rfl,rfl,rfl,hb',hh,ho,xr⟩;have l3:=hh.lt;apply Br.mk<;>intro hc
 ·have hc:=cU hc;have AW:k=0\/k=1\/k=2:=by omega
  have AY:=aeV (V:=V) (p:=aG) (d:=d) hb hm (k:=k) ab;obtain ⟨a,ha,ha1,ha2,ha3⟩:∃a:Nat,a<3/\([(1:Int),aa,(2:Int)]:LV)[((k:Nat):Int).toNat*1]? =some (.int .i64 (a:Int))/\(M5 V aG b d (k+1)).1=(bZ V aG (M5 V aG b d k).1 a (dA d a)).1/\aS (hL (M5 V aG b d k).2) a [.bool (bZ V aG (M5 V aG b d k).1 a (dA d a)).2]=hL (M5 V aG b d (k+1)).2:=by
   rcases AW with rfl|rfl|rfl
   ·exact ⟨1,by decide,rfl,rfl,rfl⟩
   ·exact ⟨0,by decide,rfl,rfl,rfl⟩
   ·exact ⟨2,by decide,rfl,rfl,rfl⟩
  have zd:=lE wr;refine ⟨⟨by omega,by omega⟩,_,ha1,(dp d a wr.drew).mono ?_⟩;rintro e dH ⟨rfl,cA⟩;have z18:=cA.size;have anj:=xr.tr ((Ext.dr wr).tr cA);refine ⟨_,rfl,cA.heap ab,cA.heap ab,cA.heap ab,Lo.wv (hb'.ext ((Ext.dr wr).tr cA)),(oO (hV.ext anj) hv (M5 V aG b d k).1 AY a (dA d a) ab).mono ?_⟩;rintro e eW ⟨rfl,di⟩;have z20:=di.size;have acH:=(Ext.dr wr).tr (cA.tr di);refine ⟨_,_,_,_,_,_,_,rfl,di.heap ab,di.heap ab,di.heap ab,λiw e28=> ?_⟩;generalize hy:bZ V aG (M5 V aG b d k).1 a (dA d a)=y at*;have rb:Row iw w (pC y.1) fJ:=by rw [e28];exact Row.set (hb'.ext acH) [_,_,_,_,_,_]
  have rh:Row iw w3 (hL (M5 V aG b d k).2) ko:=(hh.ext acH).same (by rw [e28];exact setRow_other _ _ _ _ ab);have ro:Row iw w2 (hL (false,false,false)) ko:=(ho.ext acH).same (by rw [e28];exact setRow_other _ _ _ _ ab);have gm:Ext w iw:=(anj.tr di).ag e28 (aC _);have hpp:ae (aB w3.heap.size) (((a:Nat):Int).toNat*1)=ae (aB w3.heap.size) a:=by rw [dQ,zh]
  obtain ⟨p1,p2⟩:=rh.kl (j:=a) (v:=.bool y.2) ha rfl;have wk:=nS (j:=k);rw [hpp];refine ⟨by omega,by omega,⟨rfl,p1⟩,qw ab,qw ab,qw ab,λdW Qm=> ?_⟩;obtain ⟨q1,q2⟩:=p2 dW Qm;exact ⟨n-1,by omega,rfl,rfl,k+1,wk,by omega,by rw [ha2],by rw [ha2],by rw [ha2],by rw [ha2],by rw [ha2],by rw [ha2],by rw [ha2];exact rb.same (q2.same _ rb.lt ab),by rw [<-ha3];exact q1,ro.same (q2.same _ ro.lt ab),q2.ext gm λi hi=>by omega⟩
 ·have hc:=cU hc;have AW:k=3:=by omega
  subst AW;obtain ⟨q1,q2⟩:=Em (gb:=w1.heap.size) hh ho rfl ab ab ab _;refine ⟨_,_,_,q1,λeT YY=> ?_⟩;obtain ⟨q3,q4,q5⟩:=q2 eT YY;refine ⟨q3,⟨rfl,q4⟩,pB ab,pB ab,pB ab,λjf e34=> ?_⟩;obtain ⟨q6,q7⟩:=q5 jf e34;exact ⟨_,_,_,q6,rfl,q7.ext xr λi hi=>by omega⟩
def JY(a b:Bx)(ha:cP a 100000000000000)(hb:cP b 100000000000000)(w:World):ah 276 #[su a,su b] w λe w'=>e=Value.int .i64 (Pa a b)/\Ext w w':=by
 apply RM.vc;intro w0 e0 w1 e1;have x1:Ext w w1.drew:=((aQ e0).bF e1).drew;unfold cP at ha hb;rw [aK (n:=b.1.1-a.1.1) (by unfold bN;omega),aK (n:=b.1.2.2-a.1.2.2) (by unfold bN;omega),aK (n:=0-(b.1.1-a.1.1)) (by unfold bN;omega),aK (n:=0-(b.1.2.2-a.1.2.2)) (by unfold bN;omega)];have e1:∀y:Int,(if 0-y>y then 0-y else y)=max y (-y):=λy=>by split<;>omega
 rw [e1,e1,wI];exact ⟨rfl,x1⟩
def stK(h:Ht)(v:Ce):Nat->Ce
 |0=>v
 |1=>if h.1 then fB v 0 0 else v
 |2=>(λv=>if h.2.1 then fB v 1 0 else v) (if h.1 then fB v 0 0 else v)
 |_=>mE h v
def Xs(h:Ht)(v:Ce)(w:World):ah 238 #[.agg (hL h).toArray,eE v] w λe w'=>e=(eE (mE h v))/\Ext w w':=by
 apply Dx.vc;intro w0 e0 w1 e1 w2 e2;have x0:=aQ e0;have z0:=zA e0;have r0:Row w0 w (hL h) ko:=Row.nw e0;have x1:=aQ e1;have z1:=zA e1;have x2:=aQ e2;have z2:=zA e2;have AI:=x0.tr (x1.tr x2);refine ⟨_,_,_,Lo.wv (r0.ext (x1.tr x2)),λn x a1 a2 a3 wr=>∃k:Nat,x=k/\k+n=3/\(a1,a2,a3)=stK h v k/\Ext w wr/\w2.heap.size<=wr,⟨3,rfl,0,rfl,rfl,rfl,AI,aC _⟩,?_⟩;rintro n us x a1 a2 a3 wr ⟨k,rfl,hk,hs,xr,zr⟩;apply Br.mk<;>intro hc
 ·have hc:=cU hc;have AW:k=0\/k=1\/k=2:=by omega
  obtain ⟨r,hr1,qM⟩:∃r:Bool,([.bool h.1,.bool h.2.1,.bool h.2.2]:LV)[((k:Nat):Int).toNat*1]? =some (.bool r)/\stK h v (k+1)=if r then fB (stK h v k) k 0 else stK h v k:=by
   rcases AW with rfl|rfl|rfl
   ·exact ⟨h.1,rfl,rfl⟩
   ·exact ⟨h.2.1,rfl,rfl⟩
   ·exact ⟨h.2.2,rfl,rfl⟩
  have wk:=nS (j:=k);refine ⟨⟨by omega,by omega⟩,r,hr1,Br.mk (λhq=>(iV (a1,a2,a3) k 0 wr).mono ?_) (λhq=> ?_)⟩
  ·rintro e cF ⟨rfl,cH⟩;have z16:=cH.size;refine ⟨_,_,_,rfl,cH.heap ab,cH.heap ab,λeW e20=>⟨n-1,by omega,rfl,k+1,wk,by omega,?_,(xr.tr cH).ag e20 ab,by rw [zR e20];omega⟩⟩;rw [qM,hq,if_pos rfl,<-hs]
  ·exact ⟨n-1,by omega,rfl,k+1,wk,by omega,by rw [qM,hq,if_neg aF,<-hs],xr,zr⟩
 ·have hc:=cU hc;have AW:k=3:=by omega
  subst AW;intro eZ HL;have hs:(a1,a2,a3)=mE h v:=hs;refine ⟨by rw [<-hs],xr.ag HL ab⟩
def ql{b:Bx}{m n:Int}(h:cP b m)(hmn:m<=n):cP b n:=by unfold cP at h ⊢;omega
set_option maxHeartbeats 1000000 in
def SU{v:Value}{V:Ce->Int}{w:World}(hV:Tl v V w)(hv:kP v=[])(b:Bx){m:Int}(hb:cP b m)(hm:m<=99980000000000)(d:Ce)(up:Int):
  ah 236 #[v,su b,eE d,up] w λe w'=>e=Value.tuple #[su (iU V aG b d up).1,.agg (hL (iU V aG b d up).2).toArray]/\Ext w w':=by
 apply RN.vc;have hup:(if 65536<up then 65536 else up)=min up 65536:=by split<;>omega
 rw [hup];intro w0 e0 w1 e1 w2 e2 w3 e3;have x0:=aQ e0;have z0:=zA e0;have r0:Row w0 w (pC b) fJ:=Row.nw e0;have x1:=aQ e1;have z1:=zA e1;have r1:Row w1 w0 (eg d) gS:=Row.nw e1;have x2:=aQ e2;have z2:=zA e2;have x3:=aQ e3;have z3:=zA e3;have r3:Row w3 w2 (hL (false,false,false)) ko:=Row.nw e3;have Cc:=x0.tr (x1.tr (x2.tr x3));refine (Fj (hV.ext Cc) hv b hb ab d).mono ?_;rintro e w4 ⟨rfl,x4⟩;have z4:=x4.size;have hpn:=K9 (V:=V) (p:=aG) (d:=d) hb ab;have hstep:iU V aG b d up=(if ((!(jE V aG b d).2.1 && !(jE V aG b d).2.2.2)||decide (up<=0)|| !g8 V (gz b) aG)=true then jE V aG b d else if Pa b (bZ V aG (bZ V aG (bZ V aG (bZ V aG b 1 (min up 65536)).1 0 d.1).1 2 d.2.2).1 1 (-((bZ V aG b 1 (min up 65536)).1.1.2.1-b.1.2.1))).1<=Pa b (jE V aG b d).1 then jE V aG b d else ((bZ V aG (bZ V aG (bZ V aG (bZ V aG b 1 (min up 65536)).1 0 d.1).1 2 d.2.2).1 1 (-((bZ V aG b 1 (min up 65536)).1.1.2.1-b.1.2.1))).1,((bZ V aG (bZ V aG b 1 (min up 65536)).1 0 d.1).2,true,(bZ V aG (bZ V aG (bZ V aG b 1 (min up 65536)).1 0 d.1).1 2 d.2.2).2))):=rfl;generalize jE V aG b d=mv at*;refine ⟨_,_,_,_,_,_,_,_,_,rfl,x4.heap ab,x4.heap ab,x4.heap ab,λbO vH dB pN cF HU=> ?_⟩;have bI:=aQ vH;have ZD:=zA vH;have cw:=aQ pN;have z15:=zA pN;have r15:Row dB bO (hL (false,false,false)) ko:=Row.nw pN;have z16:=zR HU;have r16:Row cF bO (hL (false,false,false)) ko:=r15.same (by rw [HU];exact setRow_other _ _ _ _ ab);have auK:Row cF w4 (pC mv.1) fJ:=by rw [HU];exact Row.set ((by rw [vH];exact Row.new w4 [_,_,_,_,_,_] _:Row bO w4 _ fJ).ext cw) [_,_,_,_,_,_]
 have cH:Ext w4 cF:=(bI.tr cw).ag HU (aC _);refine ⟨⟨rfl,r16.wr cp⟩,pB ab,pB ab,pB ab,pB ab,λcL AZ=> ?_⟩;rw [r16.aL (vs:=hL mv.2) cp (M4 _),ep cp] at AZ;have rh:Row cL bO (hL mv.2) ko:=r16.st AZ;have z17:=zR AZ;have dh:Ext w4 cL:=cH.ag AZ ab;have rp:Row cL w4 (pC mv.1) fJ:=auK.same (by rw [AZ];exact setRow_other _ _ _ _ ab);have agY:=Cc.tr (x4.tr dh);have aoN:=x1.tr (x2.tr (x3.tr (x4.tr dh)));have ro:Row cL w2 (hL (false,false,false)) ko:=r3.ext (x4.tr dh);have rb:=r0.ext aoN;have rd:=r1.ext (x2.tr (x3.tr (x4.tr dh)));have plain:∀wr:World,Ext cL wr->iU V aG b d up=mv->∃(MC:Bool)(b22:Bool)(Kw:Bool),af wr.drew (aB bO.heap.size) 0 [.bool MC,b22,Kw]/\
   ∀gl:World,gl=wr.drew.setRow w1 #[mv.1.1.1,mv.1.1.2.1,mv.1.1.2.2,mv.1.2.1,mv.1.2.2.1,mv.1.2.2.2]->
   af gl (aB bO.heap.size) 0 [.bool MC,b22,Kw]/\(true=true/\Wr gl (aB w2.heap.size) 3)/\bz (aB w2.heap.size)≠some w.heap.size/\bz (aB w2.heap.size)≠some w0.heap.size/\bz (aB w2.heap.size)≠some w1.heap.size/\bz (aB w2.heap.size)≠some w4.heap.size/\(∀cW:World,cW=Vc.aL gl (aB w2.heap.size) [.bool MC,b22,Kw]->
   ∃(Hq:Bool)(EI:Bool)(Q7:Bool),af cW (aB w2.heap.size) 0 [.bool Hq,EI,Q7]/\
   (Ending.returned (.tuple #[.agg #[mv.1.1.1,mv.1.1.2.1,mv.1.1.2.2,mv.1.2.1,mv.1.2.2.1,mv.1.2.2.2],.agg #[Hq,EI,Q7]])=Value.tuple #[su (iU V aG b d up).1,.agg (hL (iU V aG b d up).2).toArray]/\Ext w cW)):=λwr x gM=>by
  have zx:=x.size;obtain ⟨q1,q2⟩:=Em (gb:=w1.heap.size) (rh.ext x) (ro.ext x) rfl ab ab ab #[mv.1.1.1,mv.1.1.2.1,mv.1.1.2.2,mv.1.2.1,mv.1.2.2.1,mv.1.2.2.2];refine ⟨_,_,_,q1,λgl IB=> ?_⟩;obtain ⟨q3,q4,q5⟩:=q2 gl IB;refine ⟨q3,⟨rfl,q4⟩,pB ab,pB ab,pB ab,pB ab,λcW yA=> ?_⟩;obtain ⟨q6,q7⟩:=q5 cW yA;exact ⟨_,_,_,q6,by rw [gM],q7.ext (agY.tr x) λi hi=>by omega⟩
 have gM:∀wr:World,Ext cL wr->Tl v V wr:=λwr x=>hV.ext (agY.tr x)
 refine ⟨λwj=>Ext cL wj/\¬((!mv.2.1 && !mv.2.2.2)||decide (up<=0)|| !g8 V (gz b) aG)=true,?_,?_⟩
 ·refine ⟨by decide,by decide,mv.2.1,rh.at 0 rfl,Br.mk (λq1=>⟨by decide,by decide,mv.2.2.2,rh.at 2 rfl,Br.mk (λq2=>plain cL (Ext.cM _) (by rw [hstep,if_pos (by rw [q1,q2];rfl)])) (λq2=> ?_)⟩) (λq1=> ?_)⟩
  all_goals
   have hcf:(!mv.2.1 && !mv.2.2.2)=false:=by first|rw [q2,Bool.and_false]|rw [q1,C5]
   refine Br.mk (λq3=>plain cL (Ext.cM _) (by rw [hstep,if_pos (by rw [hcf,q3];rfl)])) (λq3=>(my (gM cL (Ext.cM _)) hv b).mono ?_)
   rintro e gw ⟨rfl,gI⟩
   exact ⟨_,rfl,gI.heap ab,gI.heap ab,gI.heap ab,gI.heap ab,Br.mk (λq4=>plain gw gI (by rw [hstep,if_pos (by rw [hcf,q3,q4];rfl)])) (λq4=>⟨rfl,rfl,rfl,rfl,gI,by rw [hcf,q3,q4];decide⟩)⟩
 ·rintro us rT ⟨mg,hn⟩;rw [if_neg hn] at hstep;have z66:=mg.size;have n1:=dI (V:=V) (p:=aG) (ax:=1) (d:=min up 65536) hb ab;refine (oO (gM rT mg) hv b (ql hb ab) 1 (min up 65536) aF).mono ?_;rintro e jH ⟨rfl,pd⟩;have z67:=pd.size;have n2:=dI (V:=V) (p:=aG) (ax:=0) (d:=d.1) n1 ab;have n3:=dI (V:=V) (p:=aG) (ax:=2) (d:=d.2.2) n2 ab;have n4:=dI (V:=V) (p:=aG) (ax:=1) (d:= -((bZ V aG b 1 (min up 65536)).1.1.2.1-b.1.2.1)) n3 ab;refine ⟨_,_,_,_,_,_,_,rfl,pd.heap ab,pd.heap ab,pd.heap ab,pd.heap ab,λsY Zg j6 e76 vf e77=> ?_⟩;generalize bZ V aG b 1 (min up 65536)=hi at*;have z75:=zA Zg;have z76:=zR e76;have z77:=zA e77;have rhi:Row j6 jH (pC hi.1) fJ:=by rw [e76];exact Row.set (by rw [Zg];exact Row.new jH [_,_,_,_,_,_] _) [_,_,_,_,_,_]
  have ak5:Row vf j6 (hL (false,false,false)) ko:=Row.nw e77;have Ho:Ext jH vf:=((aQ Zg).ag e76 (aC _)).bF e77;have rhi:=rhi.ext (aQ e77);refine ⟨⟨rfl,ak5.wr cp⟩,pB ab,pB ab,pB ab,pB ab,pB ab,λqu e78 l6 e79 vL e80=> ?_⟩;rw [ak5.aL (vs:=hL (false,true,false)) cp (M4 (false,true,false)),ep cp] at e78;have z78:=zR e78;have auN:Row qu j6 (hL (false,true,false)) ko:=ak5.st e78;have rhi:=rhi.so e78;have D8:Ext jH qu:=Ho.ag e78 ab;have z79:=zA e79;have z80:=zR e80;have adN:Ext qu vL:=(aQ e79).ag e80 (aC _);have auO:Row vL qu (pC hi.1) fJ:=by rw [e80];exact Row.set (by rw [e79];exact Row.new qu [_,_,_,_,_,_] _) [_,_,_,_,_,_]
  have auP:=auN.ext adN;have aoP:=mg.tr (pd.tr (D8.tr adN));refine (oO (gM vL aoP) hv hi.1 (ql n1 ab) 0 d.1 aF).mono ?_;rintro e wC ⟨rfl,rP⟩;have z81:=rP.size;refine ⟨_,_,_,_,_,_,_,rfl,rP.heap ab,rP.heap ab,rP.heap ab,rP.heap ab,rP.heap ab,rP.heap ab,λpf e89=> ?_⟩;generalize bZ V aG hi.1 0 d.1=ax at*;have z89:=zR e89;have aoQ:Row pf qu (pC ax.1) fJ:=by rw [e89];exact Row.set (auO.ext rP) [_,_,_,_,_,_]
  have auQ:Row pf j6 (hL (false,true,false)) ko:=(auP.ext rP).same (by rw [e89];exact setRow_other _ _ _ _ ab);have IQ:Ext qu pf:=(adN.tr rP).ag e89 (aC _);obtain ⟨p1,p2⟩:=auQ.kl (j:=0) (v:=.bool ax.2) aF rfl;refine ⟨by decide,by decide,⟨rfl,p1⟩,qw ab,qw ab,qw ab,qw ab,qw ab,qw ab,λpg e90=> ?_⟩;obtain ⟨q1,q2⟩:=p2 pg e90;have auR:Row pg j6 (hL (ax.2,true,false)) ko:=q1;have auS:=aoQ.same (q2.same _ aoQ.lt ab);have z90:=q2.size;have MI:Ext jH pg:=q2.ext (D8.tr IQ) λi hi=>by omega
  refine (oO (gM pg (mg.tr (pd.tr MI))) hv ax.1 (ql n2 ab) 2 d.2.2 aF).mono ?_;rintro e w91 ⟨rfl,yP⟩;have z91:=yP.size;refine ⟨_,_,_,_,_,_,_,rfl,yP.heap ab,yP.heap ab,yP.heap ab,yP.heap ab,yP.heap ab,yP.heap ab,λQ8 e99=> ?_⟩;generalize bZ V aG ax.1 2 d.2.2=az at*;have z99:=zR e99;have aoS:Row Q8 qu (pC az.1) fJ:=by rw [e99];exact Row.set (auS.ext yP) [_,_,_,_,_,_]
  have auT:Row Q8 j6 (hL (ax.2,true,false)) ko:=(auR.ext yP).same (by rw [e99];exact setRow_other _ _ _ _ ab);have Kv:Ext jH Q8:=(MI.tr yP).ag e99 ab;obtain ⟨p1,p3⟩:=auT.kl (j:=2) (v:=.bool az.2) (show 2<3 by decide) rfl;refine ⟨by decide,by decide,⟨rfl,p1⟩,qw ab,qw ab,qw ab,qw ab,qw ab,qw ab,λqF agZ=> ?_⟩;obtain ⟨q1,q3⟩:=p3 qF agZ;have aoT:Row qF j6 (hL (ax.2,true,az.2)) ko:=q1;have ayP:=aoS.same (q3.same _ aoS.lt ab);have aBC:=q3.size;have td:Ext jH qF:=q3.ext Kv λi hi=>by omega
  have hhi:=n1;have hbb:=hb;unfold cP at hhi hbb;have wr1:ao (hi.1.1.2.1-b.1.2.1)=hi.1.1.2.1-b.1.2.1:=wI;have TM:ao (0-(hi.1.1.2.1-b.1.2.1))= -(hi.1.1.2.1-b.1.2.1):=by rw [wI];omega
  rw [wr1,TM];refine (oO (gM qF (mg.tr (pd.tr td))) hv az.1 (ql n3 ab) 1 (-(hi.1.1.2.1-b.1.2.1)) aF).mono ?_;rintro e IG ⟨rfl,qK⟩;have aBF:=qK.size;refine ⟨_,_,_,_,_,_,_,rfl,qK.heap ab,qK.heap ab,qK.heap ab,qK.heap ab,qK.heap ab,qK.heap ab,λHu ak7=> ?_⟩;generalize bZ V aG az.1 1 (-(hi.1.1.2.1-b.1.2.1))=ay at*;have aBG:=zR ak7;have aoU:Row Hu j6 (hL (ax.2,true,az.2)) ko:=(aoT.ext qK).same (by rw [ak7];exact setRow_other _ _ _ _ ab);have pj:Ext jH Hu:=(td.tr qK).ag ak7 ab;have xd:=Ext.dr Hu;have zd:=lE Hu;have x17d:=mg.tr (pd.tr (pj.tr xd));refine (JY b ay.1 (ql hb ab) (ql n4 ab) Hu.drew).mono ?_;rintro e Hv ⟨rfl,jB⟩;have aBH:=jB.size;refine ⟨_,rfl,jB.heap ab,jB.heap ab,jB.heap ab,jB.heap ab,jB.heap ab,jB.heap ab,Lo.wv (rp.ext (x17d.tr jB)),Lo.wv (rb.ext (x17d.tr jB)),(JY b mv.1 (ql hb ab) (ql hpn ab) Hv).mono ?_⟩;rintro e AO ⟨rfl,ig⟩;have aBI:=ig.size;have HM:=x17d.tr (jB.tr ig);refine ⟨_,rfl,ig.heap ab,ig.heap ab,ig.heap ab,ig.heap ab,ig.heap ab,ig.heap ab,Br.mk (λq=> ?_) (λq=> ?_)⟩
  ·have q:=cU q;rw [if_pos q] at hstep;rw [hstep];obtain ⟨q1,q2⟩:=Em (gb:=w1.heap.size) (rh.ext HM) (ro.ext HM) rfl ab ab ab #[mv.1.1.1,mv.1.1.2.1,mv.1.1.2.2,mv.1.2.1,mv.1.2.2.1,mv.1.2.2.2];refine ⟨_,_,_,q1,λgl IB=> ?_⟩;obtain ⟨q3,q4,q5⟩:=q2 gl IB;refine ⟨q3,⟨rfl,q4⟩,pB ab,pB ab,pB ab,pB ab,pB ab,pB ab,λcW yA=> ?_⟩;obtain ⟨q6,q7⟩:=q5 cW yA;exact ⟨_,_,_,q6,rfl,q7.ext (agY.tr HM) λi hi=>by omega⟩
  ·have q:=cU q;rw [if_neg q] at hstep;rw [hstep];obtain ⟨q1,q2⟩:=Em (gb:=w1.heap.size) (aoU.ext (xd.tr (jB.tr ig))) (ro.ext HM) rfl ab ab ab #[ay.1.1.1,ay.1.1.2.1,ay.1.1.2.2,ay.1.2.1,ay.1.2.2.1,ay.1.2.2.2];refine ⟨_,_,_,q1,λgl IB=> ?_⟩;obtain ⟨q3,q4,q5⟩:=q2 gl IB;refine ⟨q3,⟨rfl,q4⟩,pB ab,pB ab,pB ab,pB ab,pB ab,pB ab,λcW yA=> ?_⟩;obtain ⟨q6,q7⟩:=q5 cW yA;exact ⟨_,_,_,q6,rfl,q7.ext (agY.tr HM) λi hi=>by omega⟩
def ajD(n:Int):(if 70368744177664<(if (-70368744177664)>n then (-70368744177664) else n) then 70368744177664 else (if (-70368744177664)>n then (-70368744177664) else n))=uS n:=by
 unfold uS
 repeat' split
 all_goals omega
def B5(n:Int)(w:World):ah 277 #[n] w λe w'=>e=Value.int .i64 (uS n)/\w'=w:=by apply Dy.vc;exact ⟨by rw [ajD],rfl⟩
def Kb(b:ee)(d:Ce)(w:World):ah 237 #[Er b,eE d] w λe w'=>e=(eE (m8 b.aD d))/\Ext w w':=by
 apply H5.vc;intro w0 e0 w1 e1 w2 e2;have x0:=aQ e0;have z0:=zA e0;have r0:Row w0 w (jO b) AV:=Row.nw e0;have x1:=aQ e1;have z1:=zA e1;have x2:=aQ e2;have z2:=zA e2;refine (jr b.aD d w2).mono ?_;rintro e w3 ⟨rfl,x3⟩;have z3:=x3.size;refine ⟨_,_,_,rfl,x3.heap ab,x3.heap ab,x3.heap ab,λw7 e7 w8 e8=> ?_⟩;have x8:Ext w3 w8.drew:=((aQ e7).ag e8 (aC _)).drew;have z8:w8.drew.heap.size=w3.heap.size+1:=by show w8.heap.size=_;rw [zR e8,zA e7]
 have r8:Row w8.drew w3 (eg (jW b.aD d)) gS:=(by rw [e8];exact Row.set (by rw [e7];exact Row.new w3 [_,_,_] _) [_,_,_]:Row w8 w3 _ gS).ext (Ext.dr w8);have rb:=r0.ext (x1.tr (x2.tr (x3.tr x8)));refine (B5 (jW b.aD d).1 w8.drew).mono ?_;rintro e w9 ⟨rfl,rfl⟩;refine ⟨_,rfl,rfl,rfl,rfl,rfl,sD rb rfl rfl rfl,m7 r8 rfl,m7 r8 rfl,(B5 (jW b.aD d).2.1 w8.drew).mono ?_⟩;rintro e bg ⟨rfl,rfl⟩;refine ⟨_,rfl,rfl,rfl,rfl,rfl,sD rb rfl rfl rfl,m7 r8 rfl,(B5 (jW b.aD d).2.2 w8.drew).mono ?_⟩;rintro e bK ⟨rfl,rfl⟩;refine ⟨_,rfl,rfl,rfl,rfl,rfl,sD rb rfl rfl rfl,(vt (uS (jW b.aD d).1,uS (jW b.aD d).2.1,uS (jW b.aD d).2.2) b.aD w8.drew).mono ?_⟩;rintro e dB ⟨rfl,cw⟩;have z15:=cw.size;exact ⟨_,_,_,rfl,cw.heap ab,cw.heap ab,cw.heap ab,cw.heap ab,λgg e19=>⟨rfl,(x0.tr (x1.tr (x2.tr (x3.tr (x8.tr cw))))).ag e19 ab⟩⟩
abbrev El:=Int × Int × Bool
abbrev inV(i:El):Value:=.agg #[i.1,i.2.1,.bool i.2.2]
abbrev inL(i:El):LV:=[.int .i64 i.1,.int .i64 i.2.1,.bool i.2.2]
abbrev afQ:TypeId:=109
def mF(b:ee)(i:El):ee:={b with speed:=(zL i.1,b.speed.2.1,zL i.2.1)}
def Tg(b:ee)(v:Value)(i:El)(w:World):ah 166 #[Er b,v,inV i] w λe w'=>e=(Er (mF b i))/\Ext w w':=by apply DA.vc;intro w0 e0 w1 e1 w2 e2;have x0:=aQ e0;have z0:=zA e0;have x1:=aQ e1;have z1:=zA e1;have r1:Row w1 w0 (inL i) afQ:=Row.nw e1;have x2:Ext w1 w2.drew:=(aQ e2).drew;have z2:w2.drew.heap.size=w1.heap.size+1:=(zA e2:w2.heap.size=_);refine (CZ i.1 w2.drew).mono ?_;rintro e w3 ⟨rfl,x3⟩;have z3:=x3.size;refine ⟨_,rfl,x3.heap ab,x3.heap ab,x3.heap ab,m7 (r1.ext (x2.tr x3)) rfl,(CZ i.2.1 w3).mono ?_⟩;rintro e w5 ⟨rfl,x5⟩;have z5:=x5.size;exact ⟨_,rfl,x5.heap ab,x5.heap ab,x5.heap ab,λw7 e7 w8 e8 w9 e9=>⟨rfl,((((x0.tr (x1.tr (x2.tr (x3.tr x5)))).ag e7 ab).ag e8 ab).ag e9 ab)⟩⟩
def Gg(n jump less least:Int)(j:Bool):Int:=if j then jump else max (n-less) (-least)
def jF(V:Ce->Int)(b:ee)(i:El):ee:=
 if g8 V b.box (λx=>x==4)=true then {b with speed:=(b.speed.1,Gg b.speed.2.1 8192 4096 8192 i.2.2,b.speed.2.2)}
 else if g8 V b.box rq=true then {b with speed:=(b.speed.1,Gg b.speed.2.1 6144 1024 8192 i.2.2,b.speed.2.2)}
 else {b with speed:=(b.speed.1,Gg b.speed.2.1 28672 4096 262144 (i.2.2 && g8 V (gz b.box) aG),b.speed.2.2)}
def vA(b:ee)(jump less least:Int)(j:Bool){gb gp gi:Nat}{w:World}{τ:TypeId}{i:El}(hb:Row w gb (jO b) AV)(hp:Row w gp [.pointer (dC gb 4)] τ)(hi:Row w gi [i.1,i.2.1,j] afQ)(hs:bN (b.speed.2.1-less))(hl:0<=least/\least<=1000000)(hn:gb≠gp/\gb≠gi):
  ah 233 #[jump,less,least,gp,gi] w λe w'=>e=po/\Row w' gb (jO {b with speed:=(b.speed.1,Gg b.speed.2.1 jump less least j,b.speed.2.2)}) AV/\Mod (λk=>k=gb) w w':=by
 apply zF.vc;have xd:=Ext.dr w;have hb':=hb.ext xd;have hp':=hp.ext xd;have e1:ao (b.speed.2.1-less)=b.speed.2.1-less:=aK hs;have e2:ao (0-least)= -least:=by rw [wI];omega
 have e3:(if -least>b.speed.2.1-less then -least else b.speed.2.1-less)=max (b.speed.2.1-less) (-least):=by split<;>omega
 refine ⟨_,hp'.at 0 rfl,_,hp'.at 0 rfl,fT rfl ⟨_,hb'.at 4 rfl,fT rfl ?_⟩⟩;rw [e1,e2,e3];obtain ⟨p1,p2⟩:=hb'.kl (j:=4) (v:=.int .i64 (max (b.speed.2.1-less) (-least))) (show 4<9 by decide) rfl;refine ⟨⟨rfl,p1⟩,λw3 e3=> ?_⟩;obtain ⟨q1,q2⟩:=p2 w3 e3;have hm:=(Mod.aH (F:=λk=>k=gb) xd).trans q2;have hi3:=(hi.ext xd).same (q2.same _ (hi.ext xd).lt (Ne.symm hn.2));have hp3:=hp'.same (q2.same _ hp'.lt (Ne.symm hn.1));refine ⟨j,hi3.at 2 rfl,?_⟩
 cases j with
 |false=>exact ⟨rfl,q1,hm⟩
 |true=>
  obtain ⟨p3,p4⟩:=q1.kl (j:=4) (v:=.int .i64 jump) (show 4<9 by decide) rfl;refine ⟨_,hp3.at 0 rfl,fT rfl ⟨⟨rfl,p3⟩,λw6 e6=> ?_⟩⟩;obtain ⟨q3,q4⟩:=p4 w6 e6;exact ⟨rfl,q3,hm.trans q4⟩
set_option maxHeartbeats 1000000 in
def Th{v:Value}{V:Ce->Int}{w:World}(hV:Tl v V w)(hv:kP v=[])(b:ee)(hw:bN b.wd)(hs: -1000000<=b.speed.2.1/\b.speed.2.1<=1000000)(i:El):
  ah 167 #[Er b,v,inV i] w λe w'=>e=(Er (jF V b i))/\Ext w w':=by
 apply DB.vc;intro w0 e0 w1 e1 w2 e2;have x0:=aQ e0;have z0:=zA e0;have r0:Row w0 w (jO b) AV:=Row.nw e0;have x1:=aQ e1;have z1:=zA e1;have r1:Row w1 w0 (inL i) afQ:=Row.nw e1;have x2:=aQ e2;have z2:=zA e2;refine (kA b hw w2).mono ?_;rintro e w3 ⟨rfl,x3⟩;have z3:=x3.size;refine ⟨_,_,_,_,_,_,rfl,x3.heap ab,x3.heap ab,x3.heap ab,λbP EP bg HS dj Q9 bK Hl=> ?_⟩;have YS:=zA EP;have z11:=zA HS;have z12:=zR Q9;have z13:=zR Hl;have cn:Ext w3 bK:=(((aQ EP).bF HS).ag Q9 (aC _)).ag Hl ab;have rp:∃τ,Row bK bP [.pointer (dC w.heap.size 4)] τ:=⟨_,by
  rw [Hl];exact Row.set ((by rw [HS];exact Row.new bP [_] _:Row bg bP _ _).same (by rw [Q9];exact setRow_other _ _ _ _ ab)) [_]⟩
 obtain ⟨τ,rp⟩:=rp;have rb:=r0.ext (x1.tr (x2.tr (x3.tr cn)));have ri:=r1.ext (x2.tr (x3.tr cn));have xw:=x0.tr (x1.tr (x2.tr (x3.tr cn)));have fin:∀{cF:World} {b':ee},Row cF w (jO b') AV->Ext w cF->∃(dh:Int)(cA:Int)(cu:Int)(di:Int)(db:Int)(ef:Int)(dG:Int)(eU:Int)(TS:Bool),af cF (aB w.heap.size) 0 [dh,cA,cu,di,db,ef,dG,eU,TS]/\
   ∀fx:World,fx=cF.setRow w1 #[dh,cA,cu,di,db,ef,dG,eU,TS]->(Ending.returned (.agg #[dh,cA,cu,di,db,ef,dG,eU,TS])=(Er b')/\Ext w fx):=λhr x=>⟨_,_,_,_,_,_,_,_,_,Lo.wv hr,λfx A1=>⟨rfl,x.ag A1 ab⟩⟩
 unfold jF;refine (N1 (hV.ext xw) hv b.box).mono ?_;rintro e bO ⟨rfl,bI⟩;have ZD:=bI.size;refine ⟨_,rfl,bI.heap ab,bI.heap ab,Br.mk (λhc=> ?_) (λhc=> ?_)⟩
 ·rw [if_pos hc];refine (vA b 8192 4096 8192 i.2.2 (rb.ext bI) (rp.ext bI) (ri.ext bI) (by unfold bN;omega) aF ⟨by omega,by omega⟩).mono ?_;rintro e cF ⟨rfl,hr,hm⟩;exact ⟨rfl,hm.same _ ab ab,hm.same _ ab ab,fin hr (hm.ext (xw.tr bI) λk hk=>by omega)⟩
 rw [if_neg (by rw [hc];decide)];refine (Wq (hV.ext (xw.tr bI)) hv b.box).mono ?_;rintro e dX ⟨rfl,fO⟩;have z27:=fO.size;have ag8:=xw.tr (bI.tr fO);have alf:=rb.ext (bI.tr fO);have alg:=rp.ext (bI.tr fO);have alh:=ri.ext (bI.tr fO);refine ⟨_,rfl,fO.heap ab,fO.heap ab,Br.mk (λoC=> ?_) (λoC=>⟨_,alh.at 2 rfl,?_⟩)⟩
 ·rw [if_pos oC];refine (vA b 6144 1024 8192 i.2.2 alf alg alh (by unfold bN;omega) aF ⟨by omega,by omega⟩).mono ?_;rintro e cF ⟨rfl,hr,hm⟩;exact ⟨rfl,hm.same _ ab ab,hm.same _ ab ab,fin hr (hm.ext ag8 λk hk=>by omega)⟩
 rw [if_neg (by rw [oC];decide)];have last:∀(j:Bool)(jw:World),Ext dX jw->Wr jw (dC w0.heap.size 2) 1/\∀jg:World,jg=Vc.aL jw (dC w0.heap.size 2) [.bool j]->Row jg w0 [i.1,i.2.1,.bool j] afQ/\Mod (λk=>k=w0.heap.size) jw jg:=λj jw lC=>(alh.ext lC).kl (j:=2) (v:=.bool j) (show 2<3 by decide) rfl
 refine Br.mk (λhj=>(my (hV.ext ag8) hv b.box).mono ?_) (λhj=> ?_)
 ·rintro e jw ⟨rfl,lC⟩;have z41:=lC.size;rw [hj,pU];generalize g8 V (gz b.box) aG=st;obtain ⟨p1,p2⟩:=last st jw lC;refine ⟨_,rfl,lC.heap ab,lC.heap ab,p1,pB ab,pB ab,λjg e43=> ?_⟩;obtain ⟨q1,q2⟩:=p2 jg e43;have z43:=q2.size;refine (vA (i:=i) b 28672 4096 262144 st ((alf.ext lC).same (q2.same _ ab ab)) ((alg.ext lC).same (q2.same _ ab ab)) q1 (by unfold bN;omega) aF ⟨by omega,by omega⟩).mono ?_;rintro e cF ⟨rfl,hr,hm⟩;exact ⟨rfl,hm.same _ ab ab,hm.same _ ab ab,fin hr (hm.ext (q2.ext (ag8.tr lC) λk hk=>by omega) λk hk=>by omega)⟩
 ·rw [hj,C5];obtain ⟨p1,p2⟩:=last false dX (Ext.cM _);refine ⟨p1,pB ab,pB ab,λjg e43=> ?_⟩;obtain ⟨q1,q2⟩:=p2 jg e43;have z43:=q2.size;refine (vA (i:=i) b 28672 4096 262144 false (alf.same (q2.same _ ab ab)) (alg.same (q2.same _ ab ab)) q1 (by unfold bN;omega) aF ⟨by omega,by omega⟩).mono ?_;rintro e cF ⟨rfl,hr,hm⟩;exact ⟨rfl,hm.same _ ab ab,hm.same _ ab ab,fin hr (hm.ext (q2.ext ag8 λk hk=>by omega) λk hk=>by omega)⟩
def rN{w w':World}{l:LV}{t:TypeId}(e:w'=w.alloc (.cells l.toArray t)):Row w' w l t:=by rw [e];exact Row.new _ _ _
def rS{w w':World}{g:Nat}{l cs:LV}{t:TypeId}(h:Row w g cs t)(e:w'=w.setRow g l.toArray):Row w' g l t:=h.st e
def Ab(V:Ce->Int)(b:ee):ee:=
 let y:=iU V aG b.box (m8 b.aD b.speed) 32768
 {b with aD:=jW b.aD (xK y.1.1 b.box.1),speed:=mE y.2 b.speed,ir:=g8 V (gz y.1) aG}
def iZ(V:Ce->Int)(b:ee)(d:Ce):ee:={b with aD:=jW b.aD (xK (jE V aG b.box (m8 b.aD d)).1.1 b.box.1)}
set_option maxHeartbeats 4000000 in
def XR{v:Value}{V:Ce->Int}{w:World}(hV:Tl v V w)(hv:kP v=[])(b:ee)(hw:bN b.wd){m:Int}(hnb:cP b.box m)(hm:m<=99980000000000)(i:El):
  ah 168 #[Er b,v,inV i] w λe w'=>e=(Er (Ab V b))/\Ext w w':=by
 have hgo:Ab V b={b with aD:=jW b.aD (xK (iU V aG b.box (m8 b.aD b.speed) 32768).1.1 b.box.1),speed:=mE (iU V aG b.box (m8 b.aD b.speed) 32768).2 b.speed,ir:=g8 V (gz (iU V aG b.box (m8 b.aD b.speed) 32768).1) aG}:=rfl;apply FK.vc;intro w0 e0 w1 e1 w2 e2;have x0:=aQ e0;have z0:=zA e0;have r0:Row w0 w (jO b) AV:=Row.nw e0;have x1:=aQ e1;have z1:=zA e1;have x2:=aQ e2;have z2:=zA e2;refine (kA b hw w2).mono ?_;rintro e w3 ⟨rfl,x3⟩;have z3:=x3.size;refine ⟨_,_,_,_,_,_,rfl,x3.heap ab,x3.heap ab,x3.heap ab,λbP EP bg HS=> ?_⟩;have YS:=zA EP;have z11:=zR HS;have bu:Ext w3 bg:=(aQ EP).ag HS (aC _);have rwas:Row bg w3 (pC b.box) fJ:=by rw [HS];exact Row.set (by rw [EP];exact Row.new w3 [_,_,_,_,_,_] _) [_,_,_,_,_,_]
 have rb:=r0.ext (x1.tr (x2.tr (x3.tr bu)));have xw:=x0.tr (x1.tr (x2.tr (x3.tr bu)));have ald:=hV.ext xw;have rwas0:=rwas;refine ⟨λp q wj=>∃gB gH:Nat,p=aB gB/\q=aB gH/\Row wj gB (pC (iU V aG b.box (m8 b.aD b.speed) 32768).1) fJ/\Row wj gH (hL (iU V aG b.box (m8 b.aD b.speed) 32768).2) ko/\Ext bg wj/\bg.heap.size<=gB,?_,?_⟩
 ·have X:=Ext.dr bg;have rwas:=rwas.ext X;have zd:=lE bg;have hS:=λ(cur:World)(X:Ext bg cur)=>SU (w:=cur) (ald.ext X) hv b.box hnb hm (m8 b.aD b.speed) 32768
  generalize iU V aG b.box (m8 b.aD b.speed) 32768=y at*
  repeat' first
   |(refine (Kb b b.speed _).mono ?_;rintro e v ⟨rfl,xn⟩;have zn:=xn.size;refine ⟨_,_,_,rfl,?_⟩;(repeat (refine ⟨xn.heap ab,?_⟩));refine ⟨Lo.wv (rwas.ext xn),?_⟩;have X:=X.tr xn;have rwas:=rwas.ext xn;(try have rB:=rB.ext xn);(try have rH:=rH.ext xn);clear xn)
   |(refine (hS _ X).mono ?_;rintro e v ⟨rfl,xn⟩;have zn:=xn.size;refine ⟨_,_,_,_,_,_,_,_,_,rfl,?_⟩;(repeat (refine ⟨xn.heap ab,?_⟩));have X:=X.tr xn;have rwas:=rwas.ext xn;(try have rB:=rB.ext xn);(try have rH:=rH.ext xn);clear xn)
   |(intro v en;have rBn:Row v _ [aa,aa,aa,aa,aa,aa] fJ:=rN en;have xn:=(aQ en);have zn:=zA en;have X:=X.tr xn;have rwas:=rwas.ext xn;(try have rB:=rB.ext xn);(try have rH:=rH.ext xn);have rB:=rBn;clear xn en)
   |(intro v en;have rHn:Row v _ (hL (false,false,false)) ko:=rN en;have xn:=(aQ en);have zn:=zA en;have X:=X.tr xn;have rwas:=rwas.ext xn;(try have rB:=rB.ext xn);(try have rH:=rH.ext xn);have rH:=rHn;clear xn en)
   |(intro ws es;have zs:=zR es;have rB:Row ws _ (pC y.1) fJ:=rS rB es;have rH:=rH.so es;have X:=X.ag es ab;refine ⟨⟨rfl,rH.wr cp⟩,pB ab,pB ab,pB ab,pB ab,pB ab,λwt et=> ?_⟩;rw [rH.aL (vs:=hL y.2) cp (M4 _),ep cp] at et;have zt:=zR et;have rB:=rB.so et;have rH:Row wt _ (hL y.2) ko:=rS rH et;exact ⟨rfl,rfl,rfl,rfl,_,_,rfl,rfl,rB,rH,X.ag et ab,by omega⟩)
   |refine And.intro ?_ ?_
 ·rintro us IL aku wj ⟨gB,gH,rfl,rfl,rB,rH,xj,hgB⟩;have zj:=xj.size;have xd:=Ext.dr wj;have zd:=lE wj;have lB:=rB.lt;have lH:=rH.lt;rw [hgo];generalize iU V aG b.box (m8 b.aD b.speed) 32768=y at*;refine fT rfl ⟨_,_,_,sD (o:=0) (rB.ext xd) rfl rfl rfl,(vt y.1.1 b.box.1 wj.drew).mono ?_⟩;rintro e IN ⟨rfl,Ef⟩;have aB3:=Ef.size;have VF:=xj.tr (xd.tr Ef);refine ⟨_,_,_,rfl,Ef.heap ab,Ef.heap ab,Ef.heap ab,Ef.heap ab,sD (rb.ext VF) rfl rfl rfl,(jr b.aD (xK y.1.1 b.box.1) IN).mono ?_⟩;rintro e Qz ⟨rfl,ov⟩;have avr:=ov.size;refine ⟨_,_,_,rfl,ov.heap ab,ov.heap ab,ov.heap ab,ov.heap ab,λyH Zq=> ?_⟩;have aB4:=zR Zq;have avs:Ext w yH:=(xw.tr (VF.tr ov)).ag Zq (aC _);have rH2:Row yH gH (hL y.2) ko:=(rH.ext (xd.tr (Ef.tr ov))).same (by rw [Zq];exact setRow_other _ _ _ _ ((rH.ext (xd.tr (Ef.tr ov))).ne ((rb.ext (VF.tr ov))) aF));have rB2:Row yH gB (pC y.1) fJ:=(rB.ext (xd.tr (Ef.tr ov))).same (by rw [Zq];exact setRow_other _ _ _ _ ab);have n1:gH≠w:=(rH.ext (xd.tr (Ef.tr ov))).ne ((rb.ext (VF.tr ov))) aF;refine ⟨_,_,_,Lo.wv rH2,(Xs y.2 b.speed yH).mono ?_⟩;rintro e akw ⟨rfl,IV⟩;have aB7:=IV.size;refine ⟨_,_,_,rfl,IV.heap ab,IV.heap ab,IV.heap ab,IV.heap ab,λY8 ale=> ?_⟩;have aB8:=zR ale;have adt:Ext w Y8:=(avs.tr IV).ag ale (aC _);have rB3:Row Y8 gB (pC y.1) fJ:=(rB2.ext IV).same (by rw [ale];exact setRow_other _ _ _ _ ab);refine ⟨_,_,_,_,_,_,Lo.wv rB3,(my (hV.ext adt) hv y.1).mono ?_⟩;rintro e aky ⟨rfl,Zr⟩;have aCa:=Zr.size;refine ⟨_,rfl,Zr.heap ab,Zr.heap ab,Zr.heap ab,Zr.heap ab,λanQ avt anR avu=>⟨rfl,((adt.tr Zr).ag avt (aC _)).ag avu ab⟩⟩
set_option maxHeartbeats 4000000 in
def Gh{v:Value}{V:Ce->Int}{w:World}(hV:Tl v V w)(hv:kP v=[])(b:ee)(hw:bN b.wd){m:Int}(hnb:cP b.box m)(hm:m<=99990000000000)(d:Ce):
  ah 171 #[Er b,v,eE d] w λe w'=>e=(Er (iZ V b d))/\Ext w w':=by
 have hgo:iZ V b d={b with aD:=jW b.aD (xK (jE V aG b.box (m8 b.aD d)).1.1 b.box.1)}:=rfl;apply DC.vc;intro w0 e0 w1 e1 w2 e2;have x0:=aQ e0;have z0:=zA e0;have r0:Row w0 w (jO b) AV:=Row.nw e0;have x1:=aQ e1;have z1:=zA e1;have x2:=aQ e2;have z2:=zA e2;refine (kA b hw w2).mono ?_;rintro e w3 ⟨rfl,x3⟩;have z3:=x3.size;refine ⟨_,_,_,_,_,_,rfl,x3.heap ab,x3.heap ab,x3.heap ab,λbP EP bg HS=> ?_⟩;have YS:=zA EP;have z11:=zR HS;have bu:Ext w3 bg:=(aQ EP).ag HS (aC _);have rwas:Row bg w3 (pC b.box) fJ:=by rw [HS];exact Row.set (by rw [EP];exact Row.new w3 [_,_,_,_,_,_] _) [_,_,_,_,_,_]
 have rb:=r0.ext (x1.tr (x2.tr (x3.tr bu)));have xw:=x0.tr (x1.tr (x2.tr (x3.tr bu)));have ald:=hV.ext xw;refine ⟨λp wj=>∃gB gH:Nat,p=aB gB/\Row wj gB (pC (jE V aG b.box (m8 b.aD d)).1) fJ/\Row wj gH (hL (jE V aG b.box (m8 b.aD d)).2) ko/\Ext bg wj/\bg.heap.size<=gB,?_,?_⟩
 ·have X:=Ext.dr bg;have rwas:=rwas.ext X;have zd:=lE bg;have hS:=λ(cur:World)(X:Ext bg cur)=>Fj (w:=cur) (ald.ext X) hv b.box hnb hm (m8 b.aD d)
  generalize jE V aG b.box (m8 b.aD d)=y at*
  repeat' first
   |(refine (Kb b d _).mono ?_;rintro e v ⟨rfl,xn⟩;have zn:=xn.size;refine ⟨_,_,_,rfl,?_⟩;(repeat (refine ⟨xn.heap ab,?_⟩));refine ⟨Lo.wv (rwas.ext xn),?_⟩;have X:=X.tr xn;have rwas:=rwas.ext xn;(try have rB:=rB.ext xn);(try have rH:=rH.ext xn);clear xn)
   |(refine (hS _ X).mono ?_;rintro e v ⟨rfl,xn⟩;have zn:=xn.size;refine ⟨_,_,_,_,_,_,_,_,_,rfl,?_⟩;(repeat (refine ⟨xn.heap ab,?_⟩));have X:=X.tr xn;have rwas:=rwas.ext xn;(try have rB:=rB.ext xn);(try have rH:=rH.ext xn);clear xn)
   |(intro v en;have rBn:Row v _ [aa,aa,aa,aa,aa,aa] fJ:=rN en;have xn:=(aQ en);have zn:=zA en;have X:=X.tr xn;have rwas:=rwas.ext xn;(try have rB:=rB.ext xn);(try have rH:=rH.ext xn);have rB:=rBn;clear xn en)
   |(intro v en;have rHn:Row v _ (hL (false,false,false)) ko:=rN en;have xn:=(aQ en);have zn:=zA en;have X:=X.tr xn;have rwas:=rwas.ext xn;(try have rB:=rB.ext xn);(try have rH:=rH.ext xn);have rH:=rHn;clear xn en)
   |(intro ws es;have zs:=zR es;have rB:Row ws _ (pC y.1) fJ:=rS rB es;have rH:=rH.so es;have X:=X.ag es ab;refine ⟨⟨rfl,rH.wr cp⟩,pB ab,pB ab,pB ab,pB ab,pB ab,λwt et=> ?_⟩;rw [rH.aL (vs:=hL y.2) cp (M4 _),ep cp] at et;have zt:=zR et;have rB:=rB.so et;have rH:Row wt _ (hL y.2) ko:=rS rH et;exact ⟨rfl,rfl,rfl,rfl,_,_,rfl,rB,rH,X.ag et ab,by omega⟩)
   |refine And.intro ?_ ?_
 ·rintro us IL wj ⟨gB,gH,rfl,rB,rH,xj,hgB⟩;have zj:=xj.size;have xd:=Ext.dr wj;have zd:=lE wj;rw [hgo];generalize jE V aG b.box (m8 b.aD d)=y at*;refine fT rfl ⟨_,_,_,sD (o:=0) (rB.ext xd) rfl rfl rfl,(vt y.1.1 b.box.1 wj.drew).mono ?_⟩;rintro e Y9 ⟨rfl,Cw⟩;have aCb:=Cw.size;have aiw:=xj.tr (xd.tr Cw);refine ⟨_,_,_,rfl,Cw.heap ab,Cw.heap ab,Cw.heap ab,Cw.heap ab,sD (rb.ext aiw) rfl rfl rfl,(jr b.aD (xK y.1.1 b.box.1) Y9).mono ?_⟩;rintro e akz ⟨rfl,IM⟩;have aCc:=IM.size;refine ⟨_,_,_,rfl,IM.heap ab,IM.heap ab,IM.heap ab,IM.heap ab,λanS avv yH Zq=>⟨rfl,((xw.tr (aiw.tr IM)).ag avv (aC _)).ag Zq ab⟩⟩
def Ks(V:Ce->Int)(b:ee)(i:El):(jF V b i).box=b.box/\(jF V b i).wd=b.wd:=by
 unfold jF;split
 ·exact ⟨rfl,rfl⟩
 ·split<;>exact ⟨rfl,rfl⟩
def upB(V:Ce->Int)(b:ee)(i:El):Nat->ee
 |0=>b
 |1=>mF b i
 |2=>jF V (mF b i) i
 |_=>Ab V (jF V (mF b i) i)
def oU(V:Ce->Int)(b:ee)(i:El):ee:=Ab V (jF V (mF b i) i)
def F7{v:Value}{V:Ce->Int}{w:World}(hV:Tl v V w)(hv:kP v=[])(b:ee)(hw:bN b.wd)(hs: -1000000<=b.speed.2.1/\b.speed.2.1<=1000000){m:Int}(hnb:cP b.box m)(hm:m<=99980000000000)(i:El):
  ah 116 #[Er b,v,inV i] w λe w'=>e=(Er (oU V b i))/\Ext w w':=by
 apply FL.vc;intro w0 e0 w1 e1 w2 e2;have x0:=aQ e0;have z0:=zA e0;have x1:=aQ e1;have z1:=zA e1;have x2:=aQ e2;have z2:=zA e2;have AI:=x0.tr (x1.tr x2);refine ⟨λn x a0 a1 a2 a3 a4 a5 a6 a7 a8 wr=>∃k:Nat,x=k/\k+n=3/\upB V b i k=⟨(a0,a1,a2),(a3,a4,a5),a6,a7,a8⟩/\Ext w wr/\w2.heap.size<=wr,⟨3,rfl,rfl,0,rfl,rfl,rfl,AI,aC _⟩,?_⟩;rintro n us x a0 a1 a2 a3 a4 a5 a6 a7 a8 wr ⟨k,rfl,hk,hu,xr,zr⟩;apply Br.mk<;>intro hc
 ·have hc:=cU hc;have AW:k=0\/k=1\/k=2:=by omega
  have hVr:=hV.ext xr;obtain ⟨fv,h1,h2⟩:∃fv:Value,([.func (.func 166) #[] #[],.func (.func 167) #[] #[],.func (.func 168) #[] #[]]:LV)[((k:Nat):Int).toNat*1]? =some fv/\cC Tryz.prog fv [Er (upB V b i k),v,inV i] wr λe w'=>e=(Er (upB V b i (k+1)))/\Ext wr w':=by
   rcases AW with rfl|rfl|rfl
   ·exact ⟨_,rfl,cX (by kernel_rfl) rfl (Tg b v i wr)⟩
   ·exact ⟨_,rfl,cX (by kernel_rfl) rfl (Th hVr hv (mF b i) hw hs i)⟩
   ·refine ⟨_,rfl,cX (by kernel_rfl) rfl (XR hVr hv (jF V (mF b i) i) ?_ (m:=m) ?_ hm i)⟩
    ·rw [(Ks V (mF b i) i).2];exact hw
    ·rw [(Ks V (mF b i) i).1];exact hnb
  rw [hu] at h2;have wk:=nS (j:=k);refine ⟨⟨by omega,by omega⟩,fv,h1,dw h2 ?_⟩;rintro e gg ⟨rfl,cu⟩;have z19:=cu.size;refine ⟨_,_,_,_,_,_,_,_,_,rfl,cu.heap ab,cu.heap ab,cu.heap ab,λdW Qm=>⟨n-1,by omega,rfl,rfl,k+1,wk,by omega,rfl,(xr.tr cu).ag Qm ab,by rw [zR Qm];omega⟩⟩
 ·have hc:=cU hc;have AW:k=3:=by omega
  subst AW;intro eZ HL;have hu:oU V b i=_:=hu;exact ⟨by rw [hu],xr.ag HL ab⟩
def ovK(a b:Bx)(i:Int):Bool:=decide (dA a.1 i<dA b.2 i) && decide (dA b.1 i<dA a.2 i)
def jc(a b:Bx):Bool:=ovK a b 0 && ovK a b 1 && ovK a b 2
def Ix(a b:Bx)(i:Int){ga gb:Nat}{w:World}(ha:Row w ga (pC a) fJ)(hb:Row w gb (pC b) fJ):
  ah 177 #[i,ga,gb] w λe w'=>e=Value.bool (ovK a b i)/\Ext w w':=by
 apply H7.vc;have xd:=Ext.dr w;refine ⟨_,_,_,sD (o:=0) (ha.ext xd) rfl rfl rfl,_,_,_,sD (o:=3) (hb.ext xd) rfl rfl rfl,(dp a.1 i w.drew).mono ?_⟩;rintro e w6 ⟨rfl,x6⟩;have y6:=xd.tr x6;refine ⟨_,rfl,sD (o:=3) (hb.ext y6) rfl rfl rfl,(dp b.2 i w6).mono ?_⟩;rintro e w8 ⟨rfl,x8⟩;have y8:=y6.tr x8;unfold ovK;refine ⟨_,rfl,Br.mk (λhc=>⟨_,_,_,sD (o:=0) (hb.ext y8) rfl rfl rfl,_,_,_,sD (o:=3) (ha.ext y8) rfl rfl rfl,(dp b.1 i w8).mono ?_⟩) (λhc=>⟨by rw [hc,C5],y8⟩)⟩;rintro e cF ⟨rfl,cH⟩;have y16:=y8.tr cH;refine ⟨_,rfl,sD (o:=3) (ha.ext y16) rfl rfl rfl,(dp a.2 i cF).mono ?_⟩;rintro e dH ⟨rfl,cA⟩;exact ⟨_,rfl,by rw [hc,pU],y16.tr cA⟩
def acr(f:Int->Bool)(fv:Value)(w:World)(hf:∀w',Ext w w'->∀i:Int,cC Tryz.prog fv [i] w' λe w''=>e=Value.bool (f i)/\Ext w' w''):
  ah 176 #[fv] w λe w'=>e=Value.bool (f 0 && f 1 && f 2)/\Ext w w':=by
 apply ae3.vc;refine ⟨λn x wr=>∃k:Nat,x=k/\k+n=3/\(∀j:Nat,j<k->f j=true)/\Ext w wr,⟨3,0,rfl,rfl,λj hj=>absurd hj ab,Ext.cM _⟩,?_⟩;rintro n us x wr ⟨k,rfl,hk,hj,xr⟩;apply Br.mk<;>intro hc
 ·have hc:(k:Int)<3:=by simpa using hc
  refine dw (hf wr xr k) ?_;rintro e w6 ⟨rfl,x6⟩;have wk:=nS (j:=k);refine ⟨_,rfl,Br.mk (λhq=>⟨?_,xr.tr x6⟩) (λhq=>⟨n-1,by omega,k+1,wk,by omega,λj hjk=> ?_,xr.tr x6⟩)⟩
  ·have hq:f k=false:=by simpa using hq
   have AW:k=0\/k=1\/k=2:=by omega
   have:(f 0 && f 1 && f 2)=false:=by
    rcases AW with rfl|rfl|rfl
    ·rw [show f 0=false from hq];rfl
    ·rw [show f 1=false from hq,Bool.and_false];rfl
    ·rw [show f 2=false from hq,Bool.and_false]
   rw [this]
  ·have hq:f k=true:=by simpa using hq
   by_cases he:j=k
   ·rw [he];exact hq
   ·exact hj j ab
 ·have hc:¬(k:Int)<3:=by simpa using hc
  refine ⟨?_,xr⟩;rw [show f 0=true from hj 0 ab,show f 1=true from hj 1 ab,show f 2=true from hj 2 ab];rfl
def Az(a b:Bx)(w:World):ah 124 #[su a,su b] w λe w'=>e=Value.bool (jc a b)/\Ext w w':=by
 apply Nl.vc;intro w0 e0 w1 e1;have x0:=aQ e0;have r0:Row w0 w (pC a) fJ:=Row.nw e0;have x1:=aQ e1;have r1:Row w1 w0 (pC b) fJ:=Row.nw e1;have z0:=zA e0;have z1:=zA e1;refine (acr (ovK a b) (.func (.func 177) #[] #[w,w0]) w1 λw' x' i=>cX (by kernel_rfl) rfl (Ix a b i (r0.ext (x1.tr x')) (r1.ext x'))).mono ?_;rintro e w2 ⟨rfl,x2⟩;have z2:=x2.size
 first
  |exact ⟨_,rfl,rfl,x0.tr (x1.tr x2)⟩
  |exact ⟨_,rfl,x2.heap ab,x2.heap ab,rfl,x0.tr (x1.tr x2)⟩
def GP(x y:Bx)(i:Int):Int:=ao ((if dA y.2 i<dA x.2 i then dA y.2 i else dA x.2 i)-(if dA y.1 i>dA x.1 i then dA y.1 i else dA x.1 i))
def yn(a b:Bx)(i:Int){ga gb:Nat}{w:World}(ha:Row w ga (pC a) fJ)(hb:Row w gb (pC b) fJ):
  ah 239 #[i,ga,gb] w λe w'=>e=Value.int .i64 (GP a b i)/\Ext w w':=by
 apply Nn.vc;have xd:=Ext.dr w;refine ⟨_,_,_,sD (o:=3) (ha.ext xd) rfl rfl rfl,_,_,_,sD (o:=3) (hb.ext xd) rfl rfl rfl,_,_,_,sD (o:=0) (ha.ext xd) rfl rfl rfl,_,_,_,sD (o:=0) (hb.ext xd) rfl rfl rfl,(dp a.2 i w.drew).mono ?_⟩;rintro e w6 ⟨rfl,x6⟩;have y6:=xd.tr x6;refine ⟨_,rfl,sD (o:=0) (hb.ext y6) rfl rfl rfl,sD (o:=0) (ha.ext y6) rfl rfl rfl,sD (o:=3) (hb.ext y6) rfl rfl rfl,(dp b.2 i w6).mono ?_⟩;rintro e w8 ⟨rfl,x8⟩;have y8:=y6.tr x8;refine ⟨_,rfl,sD (o:=0) (hb.ext y8) rfl rfl rfl,sD (o:=0) (ha.ext y8) rfl rfl rfl,(dp a.1 i w8).mono ?_⟩;rintro e cF ⟨rfl,cH⟩;have y16:=y8.tr cH;refine ⟨_,rfl,sD (o:=0) (hb.ext y16) rfl rfl rfl,(dp b.1 i cF).mono ?_⟩;rintro e dH ⟨rfl,cA⟩;exact ⟨_,rfl,rfl,y16.tr cA⟩
def Df(a b:ee):Int:=if GP a.box b.box 0>GP a.box b.box 2 then 2 else 0
def nP(a b:ee):Int:=if 4096<GP a.box b.box (Df a b) then 4096 else GP a.box b.box (Df a b)
def sP(a b:ee):Int:=if dA a.aD (Df a b)<=dA b.aD (Df a b) then ao (0-nP a b) else nP a b
def ia(a b:ee):Ce × Ce:=if jc a.box b.box=true then (fB (0,0,0) (Df a b) (sP a b),fB (0,0,0) (Df a b) (ao (0-sP a b))) else ((0,0,0),(0,0,0))
set_option maxHeartbeats 1000000 in
def Xb(a b:ee)(hwa:bN a.wd)(hwb:bN b.wd)(w:World):
  ah 170 #[Er a,Er b] w λe w'=>e=Value.tuple #[eE (ia a b).1,eE (ia a b).2]/\Ext w w':=by
 apply Wh.vc;intro w0 e0 w1 e1 w2 e2 w3 e3;have x0:=aQ e0;have z0:=zA e0;have r0:Row w0 w (jO a) AV:=Row.nw e0;have x1:=aQ e1;have z1:=zA e1;have r1:Row w1 w0 (jO b) AV:=Row.nw e1;have x2:=aQ e2;have z2:=zA e2;have x3:=aQ e3;have z3:=zA e3;have Cc:=x0.tr (x1.tr (x2.tr x3));have ra:=r0.ext (x1.tr (x2.tr x3));have rb:=r1.ext (x2.tr x3);refine ⟨λp q wj=>∃gX gY:Nat,p=some ⟨gX,0,none⟩/\q=some ⟨gY,0,none⟩/\Row wj gX (pC a.box) fJ/\Row wj gY (pC b.box) fJ/\Ext w3 wj,?_,?_⟩
 ·have X:=Ext.dr w3;have zd:=lE w3;have hA:=λw=>kA a hwa w
  have hB:=λw=>kA b hwb w
  generalize a.box=A at hA ⊢;generalize b.box=B at hB ⊢
  repeat' first
   |(with_reducible refine (hA _).mono ?_;rintro e v ⟨rfl,xn⟩;have zn:=xn.size;refine ⟨_,_,_,_,_,_,rfl,?_⟩;(repeat (refine ⟨xn.heap ab,?_⟩));refine ⟨Lo.wv (r1.ext (x2.tr (x3.tr (X.tr xn)))),?_⟩;have X:=X.tr xn;(try have rX:=rX.ext xn);(try have rY:=rY.ext xn);clear xn)
   |(with_reducible refine (hB _).mono ?_;rintro e v ⟨rfl,xn⟩;have zn:=xn.size;refine ⟨_,_,_,_,_,_,rfl,?_⟩;(repeat (refine ⟨xn.heap ab,?_⟩));have X:=X.tr xn;(try have rX:=rX.ext xn);(try have rY:=rY.ext xn);clear xn)
   |(intro v en;have rn:Row v _ [aa,aa,aa,aa,aa,aa] fJ:=rN en;have xn:=(aQ en);have zn:=zA en;have X:=X.tr xn;(try have rY:=rX.ext xn);have rX:=rn;clear xn en rn)
   |(intro ws es wt et;have zs:=zR es;have zt:=zR et;have q1:Row ws _ (pC A) fJ:=rS rX es;have q2:=rY.so es;have q3:Row wt _ (pC B) fJ:=rS q2 et;have q1:=q1.so et;exact ⟨rfl,rfl,rfl,rfl,_,_,rfl,rfl,q1,q3,(X.ag es ab).ag et ab⟩)
   |(intro ws es wt et;have zs:=zR es;have zt:=zR et;have q1:Row ws _ (pC A) fJ:=rS rY es;have q2:=rX.so es;have q3:Row wt _ (pC B) fJ:=rS q2 et;have q1:=q1.so et;exact ⟨rfl,rfl,rfl,rfl,_,_,rfl,rfl,q1,q3,(X.ag es ab).ag et ab⟩)
   |refine And.intro ?_ ?_
 ·rintro us p q wj ⟨gX,gY,rfl,rfl,rX,rY,xj⟩;have zj:=xj.size;refine ⟨_,_,_,_,_,_,Lo.wv rX,_,_,_,_,_,_,Lo.wv rY,(Az a.box b.box wj).mono ?_⟩;rintro e QJ ⟨rfl,yG⟩;have aCe:=yG.size;have rX5:=rX.ext yG;have rY5:=rY.ext yG;have xw:=Cc.tr (xj.tr yG);unfold ia;refine ⟨_,rfl,yG.heap ab,yG.heap ab,yG.heap ab,yG.heap ab,Br.mk (λhc an1 avA an2 avB=>⟨?_,(xw.ag avA ab).ag avB ab⟩) (λhc=> ?_)⟩
  ·have hc:jc a.box b.box=false:=by simpa using hc
   rw [hc];rfl
  ·have hc:jc a.box b.box=true:=by simpa using hc
   rw [if_pos hc];refine ⟨λx wr=>x=Df a b/\Ext QJ wr,?_,?_⟩
   ·refine (yn a.box b.box 0 rX5 rY5).mono ?_;rintro e agD ⟨rfl,Ms⟩;have aCf:=Ms.size;refine ⟨_,rfl,Ms.heap ab,Ms.heap ab,Ms.heap ab,Ms.heap ab,(yn a.box b.box 2 (rX5.ext Ms) (rY5.ext Ms)).mono ?_⟩;rintro e agE ⟨rfl,Un⟩;have aCg:=Un.size;unfold Df;refine ⟨_,rfl,Un.heap ab,Un.heap ab,Un.heap ab,Un.heap ab,Br.mk (λq=>⟨rfl,rfl,rfl,rfl,?_,Ms.tr Un⟩) (λq=>⟨rfl,rfl,rfl,rfl,?_,Ms.tr Un⟩)⟩
    ·rw [if_pos (by simpa using q)]
    ·rw [if_neg (by simpa using q)]
   ·rintro us x wr ⟨rfl,xr⟩;have zr:=xr.size;refine ⟨λx wr=>x=nP a b/\Ext QJ wr,?_,?_⟩
    ·refine (yn a.box b.box (Df a b) (rX5.ext xr) (rY5.ext xr)).mono ?_;rintro e Qx ⟨rfl,Mj⟩;have aCh:=Mj.size;exact ⟨_,rfl,Mj.heap ab,Mj.heap ab,Mj.heap ab,Mj.heap ab,rfl,rfl,rfl,rfl,rfl,xr.tr Mj⟩
    ·rintro us x wr ⟨rfl,xr⟩;have zr:=xr.size;have xd:=Ext.dr wr;have zd:=lE wr;have yd:=xj.tr (yG.tr (xr.tr xd));refine ⟨λx wr=>x=sP a b/\Ext QJ wr,?_,?_⟩
     ·refine (dp a.aD (Df a b) wr.drew).mono ?_;rintro e Zb ⟨rfl,Ee⟩;have aCi:=Ee.size;refine ⟨_,rfl,Ee.heap ab,Ee.heap ab,Ee.heap ab,Ee.heap ab,sD (o:=0) (rb.ext (yd.tr Ee)) rfl rfl rfl,(dp b.aD (Df a b) Zb).mono ?_⟩;rintro e Qz ⟨rfl,ov⟩;have avr:=ov.size;unfold sP;refine ⟨_,rfl,ov.heap ab,ov.heap ab,ov.heap ab,ov.heap ab,Br.mk (λq=>⟨rfl,rfl,rfl,rfl,?_,xr.tr (xd.tr (Ee.tr ov))⟩) (λq=>⟨rfl,rfl,rfl,rfl,?_,xr.tr (xd.tr (Ee.tr ov))⟩)⟩
      ·rw [if_pos (by simpa using q)]
      ·rw [if_neg (by simpa using q)]
     ·rintro us x ws ⟨rfl,xs⟩;have zs:=xs.size;refine (iV (0,0,0) (Df a b) (sP a b) ws).mono ?_;rintro e ads ⟨rfl,Zs⟩;have aCj:=Zs.size;refine ⟨_,_,_,rfl,Zs.heap ab,Zs.heap ab,Zs.heap ab,Zs.heap ab,(iV (0,0,0) (Df a b) (ao (0-sP a b)) ads).mono ?_⟩;rintro e akD ⟨rfl,HC⟩;have aCk:=HC.size;exact ⟨_,_,_,rfl,HC.heap ab,HC.heap ab,HC.heap ab,HC.heap ab,λan6 avC an7 avD=>⟨rfl,((xw.tr (xs.tr (Zs.tr HC))).ag avC ab).ag avD ab⟩⟩
def okB(m:Int)(b:ee):Prop:=hZ b.aD m/\(0<=b.wd/\b.wd<=1000000)/\(0<=b.ht/\b.ht<=1000000)/\-1000000<=b.speed.2.1/\b.speed.2.1<=1000000
def okB.up{b:ee}{m n:Int}(h:okB m b)(hn:m<=n):okB n b:=⟨h.1.up hn,h.2⟩
def okB.wdi{b:ee}{m:Int}(h:okB m b):bN b.wd:=by unfold bN;have:=h.2.1;omega
def okB.nV{b:ee}{m:Int}(h:okB m b)(hm:m<=99970000000000):cP b.box (m+1000000):=RK h.1 h.2.1 h.2.2.1 ab
def rE{V:Ce->Int}{b:ee}{d:Ce}{m:Int}(h:okB m b)(hm:m<=99970000000000):okB (m+12582912) (iZ V b d):=by
 have hn:=h.nV hm;have h1:=K9 (V:=V) (p:=aG) (d:=m8 b.aD d) hn ab;have h2:=Nf (V:=V) (p:=aG) (d:=m8 b.aD d) hn ab;have hm0:0<=m:=by have:=h.1;unfold hZ at this;omega
 exact ⟨Ng h.1 (hZ.up hn.lo ab) h1.lo h2 ab ab ab,h.2⟩
def afs(h:Ht)(v:Ce)(hv: -1000000<=v.2.1/\v.2.1<=1000000): -1000000<=(mE h v).2.1/\(mE h v).2.1<=1000000:=by
 have e:(mE h v).2.1=if h.2.1=true then cT 0 else v.2.1:=by
  unfold mE
  cases h.1<;>cases h.2.1<;>cases h.2.2<;>rfl
 rw [e];have c0:cT 0=0:=by decide
 rw [c0];split<;>omega
def aft{V:Ce->Int}{b:ee}{m:Int}(h:okB m b)(hm:m<=99970000000000):okB (m+16777216) (Ab V b):=by
 have hn:=h.nV hm;have h1:=aal (V:=V) (p:=aG) (d:=m8 b.aD b.speed) (up:=32768) hn ab;have hm0:0<=m:=by have:=h.1;unfold hZ at this;omega
 exact ⟨Ng h.1 (hZ.up hn.lo ab) h1.2.lo h1.1 ab ab ab,h.2.1,h.2.2.1,afs _ _ h.2.2.2⟩
def Lv{n jump less least:Int}{j:Bool}(hn: -1000000<=n/\n<=1000000)(hj: -1000000<=jump/\jump<=1000000)(hl:0<=less)(ht:0<=least/\least<=1000000): -1000000<=Gg n jump less least j/\Gg n jump less least j<=1000000:=by unfold Gg;split<;>omega
def UX{V:Ce->Int}{b:ee}{i:El}{m:Int}(h:okB m b):okB m (jF V b i):=by
 unfold jF;split
 ·exact ⟨h.1,h.2.1,h.2.2.1,Lv h.2.2.2 aF aF aF⟩
 ·split
  ·exact ⟨h.1,h.2.1,h.2.2.1,Lv h.2.2.2 aF aF aF⟩
  ·exact ⟨h.1,h.2.1,h.2.2.1,Lv h.2.2.2 aF aF aF⟩
def afu{V:Ce->Int}{b:ee}{i:El}{m:Int}(h:okB m b)(hm:m<=99970000000000):okB (m+16777216) (oU V b i):=aft (UX (b:=mF b i) h) hm
def qh(V:Ce->Int)(i k:Nat)(l:List ee):List ee:=
 match l[i]?,l[k]? with
 |some a,some b=>(l.set i (iZ V a (ia a b).1)).set k (iZ V b (ia a b).2)
 |_,_=>l
def vW(V:Ce->Int)(i:Nat):Nat->Nat->List ee->List ee
 |_,0,l=>l
 |k,n+1,l=>vW V i (k+1) n (qh V i k l)
def W7(V:Ce->Int):Nat->Nat->List ee->List ee
 |_,0,l=>l
 |i,n+1,l=>W7 V (i+1) n (vW V i (i+1) (l.length-(i+1)) l)
def lJ(V:Ce->Int)(l:List ee):List ee:=W7 V 0 l.length l
def xN(b:ee):One (jO b):=by intro u hu;simp at hu;rcases hu with rfl|rfl|rfl|rfl|rfl|rfl|rfl|rfl|rfl<;>rfl
def aa1(l:List ee):∀r ∈ l.map jO,r.length=9:=by intro r hr;obtain ⟨b,-,rfl⟩:=aW.1 hr;rfl
def afv(l:List ee):∀r ∈ l.map jO,One r:=by intro r hr;obtain ⟨b,-,rfl⟩:=aW.1 hr;exact xN b
def Ow{B:Nat}{w:World}{s:Sl}{l:List ee}(ho:aE B AV 9 w s (l.map jO))(hl:l.length<=5000):
  ah 169 #[s] w λe w'=>∃s':Sl,e=s'/\aE w AV 9 w' s' (l.map jO)/\Ext w w':=by
 apply zG.vc;have hn:s.n=l.length:=by rw [(ho.rd aF).n,aN]
 apply Br.mk<;>intro h
 ·rcases ho.form aF with ⟨hs,D6⟩|⟨g0,cs,ha,-⟩
  ·exact ⟨⟨none,0,0⟩,rfl,by rw [D6];exact aE.nil,Ext.cM _⟩
  ·rw [ha] at h;cases h
 ·intro w0 e0;have x0:=aQ e0;have QY:=eR e0;have hr0:Row w0 w [] AV:=by rw [e0];exact Row.new _ _ _
  have AJ:aE w AV 9 w0 ⟨aB w.heap.size,0,0⟩ []:=aE.jI (aC _) hr0 cp (aC _) rfl cp;obtain ⟨hp,hr⟩:=AJ.H2 (bytes:=72) (more:=l.map jO) x0.size (aa1 _) (afv _) (by simp;omega) (by simp;omega);rw [aN,<-hn] at hp hr;refine ⟨(l.map jO).flatten,((ho.ext x0).rd aF).flat aF,hp,λs2 w3 bk=> ?_⟩;obtain ⟨h1,h2,h3,h4,h5⟩:=hr s2 w3 bk;refine ⟨pZ bk (by rw [bJ (aa1 _),aN,hn]) ab,s2,rfl,h1,x0.trans h3⟩
def aa2{B:Nat}{w:World}{s:Sl}{l:List ee}(ho:aE B AV 9 w s (l.map jO)){i:Nat}(hi:i<l.length)(x:ee):
  (ae s.a (i*9)).isSome=true/\Wr w (ae s.a (i*9)) 9/\∀w',w'=aL w (ae s.a (i*9)) (jO x)->aE B AV 9 w' s ((l.set i x).map jO)/\Below B w w'/\Mod (λb=>s.bf=some b) w w':=by
 obtain ⟨h1,h2,h3,h4,h5⟩:=ho.put (i:=i) (r:=jO x) (by simpa using hi) aF rfl (xN x);refine ⟨h1,h2,λw' e=> ?_⟩;subst e;exact ⟨by rw [jC];exact h3,h4,h4.os,h4.tape,h4.output,h4.size,λj _ hn=>h5 j hn⟩
set_option maxHeartbeats 1000000 in
def F8{v:Value}{V:Ce->Int}{w:World}(hV:Tl v V w)(hv:kP v=[]){B:Nat}{s:Sl}{l:List ee}(ho:aE B AV 9 w s (l.map jO))(hl:l.length<=16){m:Int}(bn:∀b ∈ l,okB m b)(hm0:0<=m)(hm:m<=99960000000000):
  ah 117 #[v,s] w λe w'=>∃s':Sl,e=s'/\aE w AV 9 w' s' ((lJ V l).map jO)/\Ext w w'/\(∀b ∈ lJ V l,okB (m+16*16*12582912) b)/\(lJ V l).length=l.length:=by
 apply RP.vc;refine (Ow ho ab).mono ?_;rintro e w0 ⟨s1,rfl,h1,x1⟩;have Ml:s1.n=l.length:=by rw [(h1.rd aF).n,aN]
 refine ⟨s1,rfl,λn x wr=>∃(i:Nat)(cur:List ee),x=i/\i+n=l.length/\cur.length=l.length/\aE w AV 9 wr s1 (cur.map jO)/\Ext w wr/\(∀b ∈ cur,okB (m+16*i*12582912) b)/\lJ V l=W7 V i n cur,⟨l.length,0,l,rfl,by omega,rfl,h1,x1,λb hb=>(bn b hb).up ab,rfl⟩,?_⟩;rintro n us x w6 ⟨i,cur,rfl,pc,dN,hO,xr,hb,hcr⟩;apply Br.mk<;>intro hc
 ·have hc:i<l.length:=by
   have:(i:Int)<s1.n:=by simpa using hc
   omega
  obtain ⟨n,rfl⟩:∃n',n=n'+1:=⟨n-1,by omega⟩;have wk:=nS (j:=i);rw [wk];refine ⟨λn8 x dj=>∃(k:Nat)(cur:List ee),x=k/\k+n8=l.length/\i<k/\cur.length=l.length/\aE w AV 9 dj s1 (cur.map jO)/\Ext w dj/\(∀b ∈ cur,okB (m+(16*i+k)*12582912) b)/\lJ V l=W7 V (i+1) n (vW V i k n8 cur),⟨n,i+1,cur,rfl,by omega,by omega,dN,hO,xr,λb hb'=>(hb b hb').up ab,?_⟩,?_⟩
  ·rw [hcr];show W7 V (i+1) n (vW V i (i+1) (cur.length-(i+1)) cur)=_;rw [show cur.length-(i+1)=n from by omega]
  rintro n8 us x dj ⟨k,cur,rfl,YP,hik,dN,hO,xr,hb,hcr⟩;apply Br.mk<;>intro oC
  ·have oC:k<l.length:=by
    have:(k:Int)<s1.n:=by simpa using oC
    omega
   obtain ⟨n8,rfl⟩:∃n',n8=n'+1:=⟨n8-1,by omega⟩;have ha:cur[i]? =some (cur[i]'ab):=dm ab;have Ma:cur[k]? =some (cur[k]'ab):=dm ab;have oka:=hb _ (List.getElem_mem (l:=cur) (n:=i) ab);have okb:=hb _ (List.getElem_mem (l:=cur) (n:=k) ab);generalize cur[i]'ab=a at ha oka;generalize cur[k]'ab=b at Ma okb;have hcr:lJ V l=W7 V (i+1) n (vW V i (k+1) n8 ((cur.set i (iZ V a (ia a b).1)).set k (iZ V b (ia a b).2))):=by rw [hcr];show W7 V (i+1) n (vW V i (k+1) n8 (qh V i k cur))=_;rw [show qh V i k cur=(cur.set i (iZ V a (ia a b).1)).set k (iZ V b (ia a b).2) from by unfold qh;rw [ha,Ma]]
   have hwa:=oka.wdi;have hwb:=okb.wdi;have kF:=(hO.ext (Ext.dr dj)).rd aF;have v8:(cur.map jO)[i]? =some (jO a):=by rw [aR,ha];rfl
   have MA:(cur.map jO)[k]? =some (jO b):=by rw [aR,Ma];rfl
   have ib:∀j:Nat,j<l.length->eA s1.a (j:Int) s1.n:=λj hj=>kF.im aF ab ab
   have jh:cur.map jO≠ []:=λh=>by rw [h] at v8;cases v8
   have iG:∀g,s1.bf=some g->g<dj.heap.size:=λg hg=>kF.Sr aF jh hg
   have hX0:16*(i:Int)+k<=256:=by omega
   refine ⟨λp q wj=>∃gX gY:Nat,p=aB gX/\q=aB gY/\Row wj gX (eg (ia a b).1) gS/\Row wj gY (eg (ia a b).2) gS/\Ext dj wj/\dj.heap.size<=gY,⟨ib i hc,_,_,_,_,_,_,_,_,_,kF.bY v8,ib k oC,_,_,_,_,_,_,_,_,_,kF.bY MA,?_⟩,?_⟩
   ·have X:=Ext.dr dj;have zd:=lE dj
    repeat' first
     |(refine (Xb a b hwa hwb _).mono ?_;rintro e v ⟨rfl,xn⟩;have zn:=xn.size;refine ⟨_,_,_,_,_,_,rfl,?_⟩;(repeat (refine ⟨xn.heap ab,?_⟩));have X:=X.tr xn;(try have rX:=rX.ext xn);(try have rY:=rY.ext xn);clear xn)
     |(intro v en;have rn:Row v _ [aa,aa,aa] gS:=rN en;have xn:=(aQ en);have zn:=zA en;have X:=X.tr xn;(try have rY:=rX.ext xn);have rX:=rn;clear xn en rn)
     |(intro ws es wt et;have zs:=zR es;have zt:=zR et;have q1:Row ws _ (eg (ia a b).1) gS:=rS rX es;have q2:=rY.so es;have q3:Row wt _ (eg (ia a b).2) gS:=rS q2 et;have q1:=q1.so et;exact ⟨_,_,rfl,rfl,q1,q3,(X.ag es ab).ag et ab,by omega⟩)
     |(intro ws es wt et;have zs:=zR es;have zt:=zR et;have q1:Row ws _ (eg (ia a b).1) gS:=rS rY es;have q2:=rX.so es;have q3:Row wt _ (eg (ia a b).2) gS:=rS q2 et;have q1:=q1.so et;exact ⟨_,_,rfl,rfl,q1,q3,(X.ag es ab).ag et ab,by omega⟩)
     |refine And.intro ?_ ?_
   ·rintro us p q wj ⟨gX,gY,rfl,rfl,rX,rY,xj,hgY⟩;have xd:=Ext.dr wj;have hOj:=hO.ext (xj.tr xd);refine ⟨λw'=>aE w AV 9 w' s1 ((cur.set i (iZ V a (ia a b).1)).map jO)/\Row w' gY (eg (ia a b).2) gS/\Ext w w',⟨ib i hc,_,_,_,_,_,_,_,_,_,(hOj.rd aF).bY v8,_,_,_,Lo.wv (rX.ext xd),(Gh (hV.ext (xr.tr (xj.tr xd))) hv a hwa (oka.nV ab) ab (ia a b).1).mono ?_⟩,?_⟩
    ·rintro e Hz ⟨rfl,nq⟩;have hO7:=hOj.ext nq;obtain ⟨q1,q2,q3⟩:=aa2 hO7 (i:=i) ab (iZ V a (ia a b).1);refine ⟨_,_,_,_,_,_,_,_,_,rfl,ib i hc,⟨q1,q2⟩,λQs aug=> ?_⟩;obtain ⟨p1,p2,p3⟩:=q3 Qs aug;have rY7:=rY.ext (xd.tr nq);exact ⟨p1,rY7.same (p3.same _ rY7.lt (λh=>by have:=iG _ h;omega)),(xr.tr (xj.tr (xd.tr nq))).trans p2⟩
    ·rintro us pK ⟨aoy,rY9,ado⟩;have xd9:=Ext.dr pK;have hrd9:=(aoy.ext xd9).rd aF;have hrk9:((cur.set i (iZ V a (ia a b).1)).map jO)[k]? =some (jO b):=by rw [aR,Aa ab,Ma];rfl
     refine ⟨ib k oC,_,_,_,_,_,_,_,_,_,hrd9.bY hrk9,_,_,_,Lo.wv (rY9.ext xd9),(Gh (hV.ext (ado.tr xd9)) hv b hwb (okb.nV ab) ab (ia a b).2).mono ?_⟩;rintro e QD ⟨rfl,Zl⟩;obtain ⟨q1,q2,q3⟩:=aa2 ((aoy.ext xd9).ext Zl) (i:=k) (by rw [gW];omega) (iZ V b (ia a b).2);refine ⟨_,_,_,_,_,_,_,_,_,rfl,ib k oC,⟨q1,q2⟩,λqJ auh=> ?_⟩;obtain ⟨p1,p2,p3⟩:=q3 qJ auh;refine ⟨n8,by omega,k+1,_,?_,by omega,by omega,by rw [gW,gW];exact dN,p1,(ado.tr (xd9.tr Zl)).trans p2,λy hy=> ?_,hcr⟩
     ·rw [wI];omega
     ·rcases hX hy with hy|rfl
      ·rcases hX hy with hy|rfl
       ·exact (hb y hy).up ab
       ·exact (rE oka ab).up ab
      ·exact (rE okb ab).up ab
  ·have oC:¬k<l.length:=λh=>by
    have:¬(k:Int)<s1.n:=by simpa using oC
    omega
   have:n8=0:=by omega
   subst this;exact ⟨n,by omega,i+1,cur,rfl,by omega,dN,hO,xr,λb hb'=>(hb b hb').up ab,hcr⟩
 ·have hc:¬i<l.length:=λh=>by
   have:¬(i:Int)<s1.n:=by simpa using hc
   omega
  have:n=0:=by omega
  subst this;have hcr:lJ V l=cur:=hcr;refine ⟨s1,rfl,by rw [hcr];exact hO,xr,λb hb'=> ?_,by rw [hcr];exact dN⟩;rw [hcr] at hb';exact (hb b hb').up ab
variable {R:Ending->World->Prop} {w:World} {a0 a1 a2 a3 a4 a5 a6 a7 a8 a9 aA ar au aU aV aZ bG bC bD Cf aj aq aw bt bR bH eB eO eC wh bA bQ bw wi wm vb vd wo wu wx Ch Ci Cj Ck Cm Cn Co Cp Cq Cr:Int}
def afk.vc(h:
 Aw w #[aA,ar,au] 28 λw0=>
 Aw w0 #[aa,aa,aa] 28 λw1=>
 ah 203 #[.agg #[aA,ar,au],.func (.func 256) #[] #[]] w1 (iF λx3 x4 x5 w2=>K2 w w0 w1 w2 (
 Sw w2 w0 #[x3,x4,x5] λw6=>
 R (Value.agg #[x3,x4,x5]) w6))):ah 195 #[.agg #[aA,ar,au]] w R:=
 cq bU Tryz.func195 h
def WV.vc(h:
 ah 214 #[a1] w (λe w0=>∃(x1:Int),e=x1/\
 R x1 w0)):ah 256 #[a0,a1] w R:=
 cq bU Tryz.func256 h
def afl.vc(h:
 Aw w #[aA,ar,au] 28 λw0=>
 Aw w0 #[aa,aa,aa] 28 λw1=>
 ah 257 #[aA] w1.drew (Ri λx3 w2=>K2 w w0 w1.drew w2 (
 af w2 (dC w 2) 0 [au]/\af w2 (dC w 1) 0 [ar]/\ah 257 #[ar] w2 (Ri λx5 w4=>K2 w w0 w2 w4 (
 af w4 (dC w 2) 0 [au]/\ah 257 #[au] w4 (Ri λx7 w6=>K2 w w0 w4 w6 (
 Sw w6 w0 #[x3,x5,x7] λw8=>
 R (Value.agg #[x3,x5,x7]) w8))))))):ah 196 #[.agg #[aA,ar,au]] w R:=
 cq bU Tryz.func196 h
def WW.vc(h:
 R (Value.int .i64 (if 1048576<(if (-1048576)>a0 then (-1048576) else a0) then 1048576 else (if (-1048576)>a0 then (-1048576) else a0))) w):ah 257 #[a0] w R:=
 cq bU Tryz.func257 h
def Sg.vc(h:
 Aw w #[aA,ar] 267 λw0=>
 Aw w0 #[aj,aq] 267 λw1=>
 Br (ar==0)
 (R (Value.bool (decide (ar>0))) w1)
 (Br (aq==0)
 (R (Value.bool (decide (ar>0))) w1)
 (R (Value.bool (decide (((ao (aA*aq)):Int)<(ao (aj*ar))))) w1))):ah 200 #[.agg #[aA,ar],.agg #[aj,aq]] w R:=
 cq bU Tryz.func200 h
def WX.vc(h:
 Aw w #[aA,ar,au] 28 λw0=>
 Aw w0 #[aj,aq,aw] 28 λw1=>
 Aw w1 #[aa,aa,aa,aa,aa,aa] 268 λw2=>
 Aw w2 #[aa,aa,aa,aa,aa,aa] 268 λw3=>
 ∃I4:Nat->Int->World->Prop,
 (∃n5,aO [aA,ar,au]/\aO [aj,aq,aw]/\I4 n5 (0) w3)/\
 ∀(n5:Nat)(us6:Nat->Value)(x7:Int)(w8:World),I4 n5 x7 w8->
 Br (x7<3)
 (ah 178 #[.agg #[aA,ar,au],x7] w8.drew (Ri λbu bP=>K2 w w0 w8.drew bP (
 af bP (aB w0) 0 [aj,aq,aw]/\ah 178 #[.agg #[aj,aq,aw],x7] bP (Ri λcn dj=>K2 w w0 bP dj (
 ah 258 #[bu] dj (Ri λcw bO=>K2 w w0 dj bO (
 (0:Int)<=x7/\x7<((3:Nat):Int)/\(true=true/\Wr bO (ae (aB w2) ((x7:Int).toNat*2)) 2)/\bz (ae (aB w2) ((x7:Int).toNat*2))≠some w.heap.size/\bz (ae (aB w2) ((x7:Int).toNat*2))≠some w0.heap.size/\(∀cF,cF=aL bO (ae (aB w2) ((x7:Int).toNat*2)) [cw,(ao (0-cn))]->
 Br (cn>0)
 (ah 258 #[bu] cF (Ri λcA cL=>K2 w w0 cF cL (
 (0:Int)<=x7/\x7<((3:Nat):Int)/\(true=true/\Wr cL (ae (aB w2) ((x7:Int).toNat*2)) 2)/\bz (ae (aB w2) ((x7:Int).toNat*2))≠some w.heap.size/\bz (ae (aB w2) ((x7:Int).toNat*2))≠some w0.heap.size/\(∀gg,gg=aL cL (ae (aB w2) ((x7:Int).toNat*2)) [(ao (65536-cA)),cn]->
 ∃n9,n9<n5/\aO [aA,ar,au]/\aO [aj,aq,aw]/\I4 n9 ((ao (x7+1))) gg))))
 (∃n9,n9<n5/\aO [aA,ar,au]/\aO [aj,aq,aw]/\I4 n9 ((ao (x7+1))) cF)))))))))
 (∃(di db ef dG eU dY:Int),af w8 (aB w2) 0 [di,db,ef,dG,eU,dY]/\
 Wt w8 ⟨w1,0,none⟩ 6/\Nb w1 w/\Nb w1 w0/\(∀fx,fx=aL w8 (aB w1) [di,db,ef,dG,eU,dY]->
 ∃(fO gm gn jN iD ic:Int),af fx (aB w1) 0 [fO,gm,gn,jN,iD,ic]/\
 R (Value.agg #[fO,gm,gn,jN,iD,ic]) fx))):ah 198 #[.agg #[aA,ar,au],.agg #[aj,aq,aw]] w R:=
 cq ⟨[(3,⟨[(9,.int .i64)],[],[]⟩)],[],[]⟩ Tryz.func198 h
def Sh.vc(h:
 Aw w #[aA,ar,au] 41 λw0=>
 Aw w0 #[aj,aq,aw] 41 λw1=>
 Aw w1 #[a2] 3 λw2=>
 ah 259 #[aA,aj,.pointer (aB w1)] w2 (Rb λb4 w3=>K2 w w0 w2 w3 (
 Br b4
 (ah 259 #[ar,aq,.pointer (aB w1)] w3 (Rb λb6 w5=>K2 w w0 w3 w5 (
 Br b6
 (ah 259 #[au,aw,.pointer (aB w1)] w5 (Rb λb8 w7=>K2 w w0 w5 w7 (
 R b8 w7)))
 (R false w5))))
 (R false w3)))):ah 199 #[.agg #[aA,ar,au],.agg #[aj,aq,aw],a2] w R:=
 cq bU Tryz.func199 h
def Ls.vc{c0:Addr}(h:
 ∃(x0:Int),ld w (some c0)=some (.int .i64 x0)/\
 Br (decide (((ao (a0-a1)):Int)<=x0))
 (∃(x1:Int),ld w (some c0)=some (.int .i64 x1)/\
 R (Value.bool (decide (((ao (a1-a0)):Int)<=x1))) w)
 (R false w)):ah 259 #[a0,a1,c0] w R:=
 cq bU Tryz.func259 h
def WY.vc(h:
 ah 260 #[a0] w (λe w0=>∃(x1:Int)(b2:Bool),e=Value.tuple #[.int .u64 x1,b2]/\
 ah 260 #[a1] w0 (λe w3=>∃(x4:Int)(b5:Bool),e=Value.tuple #[.int .u64 x4,b5]/\
 Br (x4==0)
 (R (Value.tuple #[aa,(1:Int)]) w3)
 (aP (Mt x4) (aP (Mt x4) (ah 261 #[.int .u64 (dc (Int.tdiv (dc (x1*2 ^(min (16:Int).toNat 64))) x4)),.bool (((Int.tmod (dc (x1*2 ^(min (16:Int).toNat 64))) x4):Int) !=0),.bool (!(b2==b5))] w3.drew (λe w6=>∃(x7:Int),e=x7/\
 R (Value.tuple #[x7,aa]) w6))))))):ah 201 #[a0,a1] w R:=
 cq bU Tryz.func201 h
def Oo.vc{a0:Value}{c0:Addr}{c1:Addr}{c2:Addr}(h:
 ∃(x0 x1 x2:Int),af w (some c0) 0 [x0,x1,x2]/\
 ∃(x3 x4 x5:Int),af w (some c1) 0 [x3,x4,x5]/\
 ah 198 #[.agg #[x0,x1,x2],.agg #[x3,x4,x5]] w (λe w6=>∃(x7 x8 x9 bj bu bV:Int),e=Value.agg #[x7,x8,x9,bj,bu,bV]/\
 Aw w6 #[aa,aa,aa,aa,aa,aa] 268 λbK=>
 Wt bK ⟨w6,0,none⟩ 6/\(∀bO,bO=aL bK (aB w6) [x7,x8,x9,bj,bu,bV]->
 ∃(cw cH dh:Int),af bO (some c0) 0 [cw,cH,dh]/\
 ah 101 #[.agg #[cw,cH,dh]] bO (λe dH=>∃(cu di db:Int),e=Value.agg #[cu,di,db]/\
 Aw dH #[aa,aa,aa,aa,aa,aa] 77 λdP=>
 Sw dP dH #[cu,di,db,aa,(-1:Int),aa] λeP=>
 Aw eP #[aa,aa,aa] 41 λgl=>
 Sw gl eP #[cu,di,db] λcW=>
 ∃I26:Nat->Int->Int->Int->Int->Int->Int->World->Prop,
 (∃n27,aO [cu,di,db]/\I26 n27 cu di db (0) ((-1)) (0) cW)/\
 ∀(n27:Nat)(atv:Nat->Value)(gn jN iD ic eL ie:Int)(kh:World),I26 n27 gn jN iD ic eL ie kh->
 ∃(gI:Int),ld kh (some c2)=some (.int .i64 gI)/\
 ah 199 #[.agg #[cu,di,db],.agg #[gn,jN,iD],gI] kh (Rb λb39 oD=>K2 dH eP kh oD (
 Br b39
 (cC Tryz.prog a0 [.agg #[gn,jN,iD,ic,eL,ie]] oD (Rb λb41 jP=>K2 dH eP oD jP (
 Br (!b41)
 (R po jP)
 (∃I42:Nat->Int->Int->World->Prop,
 (∃n43,aO [gn,jN,iD,ic,eL,ie]/\aO [cu,di,db]/\I42 n43 (0) (0) jP)/\
 ∀(n43:Nat)(aBe:Nat->Value)(pI iz:Int)(lW:World),I42 n43 pI iz lW->
 Br (pI<3)
 ((0:Int)<=pI/\pI<((3:Nat):Int)/\∃(HV tc:Int),af lW.drew (ae (aB w6) ((pI:Int).toNat*2)) 0 [HV,tc]/\
 (0:Int)<=iz/\iz<((3:Nat):Int)/\∃(nk lh:Int),af lW.drew (ae (aB w6) ((iz:Int).toNat*2)) 0 [nk,lh]/\
 ah 200 #[.agg #[HV,tc],.agg #[nk,lh]] lW.drew (Rb λb54 Uh=>K2 dH eP lW.drew Uh (
 Br b54
 (∃n48,n48<n43/\aO [gn,jN,iD,ic,eL,ie]/\aO [cu,di,db]/\I42 n48 ((ao (pI+1))) pI Uh)
 (∃n48,n48<n43/\aO [gn,jN,iD,ic,eL,ie]/\aO [cu,di,db]/\I42 n48 ((ao (pI+1))) iz Uh))))
 ((0:Int)<=iz/\iz<((3:Nat):Int)/\∃(lY:Int),ld lW (ae (ae (aB w6) ((iz:Int).toNat*2)) 1)=some (.int .i64 lY)/\
 Br (lY==0)
 (R po lW)
 ((0:Int)<=iz/\iz<((3:Nat):Int)/\∃(sX:Int),ld lW.drew (ae (ae (aB w6) ((iz:Int).toNat*2)) 0)=some (.int .i64 sX)/\
 (0:Int)<=iz/\iz<((3:Nat):Int)/\∃(oo:Int),ld lW.drew (ae (ae (aB w6) ((iz:Int).toNat*2)) 1)=some (.int .i64 oo)/\
 ah 201 #[sX,oo] lW.drew (λe Cx=>∃(qq lX:Int),e=Value.tuple #[qq,lX]/\K2 dH eP lW.drew Cx (
 (0:Int)<=iz/\iz<((3:Nat):Int)/\∃(vI:Int),ld Cx (ae (ae (aB w6) ((iz:Int).toNat*2)) 0)=some (.int .i64 vI)/\
 (0:Int)<=iz/\iz<((3:Nat):Int)/\(true=true/\Wr Cx (ae (ae (aB w6) ((iz:Int).toNat*2)) 0) 1)/\bz (ae (ae (aB w6) ((iz:Int).toNat*2)) 0)≠some dH.heap.size/\bz (ae (ae (aB w6) ((iz:Int).toNat*2)) 0)≠some eP.heap.size/\(∀iH,iH=aL Cx (ae (ae (aB w6) ((iz:Int).toNat*2)) 0) [(ao (vI+65536))]->
 ∃(uf wD rW:Int),af iH (some c1) 0 [uf,wD,rW]/\
 ah 178 #[.agg #[uf,wD,rW],iz] iH (Ri λpd rT=>K2 dH eP iH rT (
 Br (pd>0)
 (ah 159 #[.agg #[gn,jN,iD]] rT (λe uc=>∃(qN py oq nL nM vi ve yB Ho D8 AM tI rP qt rV vJ vK Hs:Int),e=Value.agg #[qN,py,oq,nL,nM,vi,ve,yB,Ho,D8,AM,tI,rP,qt,rV,vJ,vK,Hs]/\K2 dH eP rT uc (
 ((0:Int)<=(ao ((ao (2*iz))+1))/\((ao ((ao (2*iz))+1)):Int)<((6:Nat):Int))/\∃(qO QR IQ:Int),(([qN,py,oq,nL,nM,vi,ve,yB,Ho,D8,AM,tI,rP,qt,rV,vJ,vK,Hs]:LV).drop (((ao ((ao (2*iz))+1)):Int).toNat*3)).take 3=[.int .i64 qO,.int .i64 QR,.int .i64 IQ]/\
 Sw uc dH #[qO,QR,IQ,aa,(ao ((ao ((ao (2*iz))+1))-1)),qq] λpg=>
 ∃n36,n36<n27/\aO [cu,di,db]/\I26 n36 qO QR IQ (0) ((ao ((ao ((ao (2*iz))+1))-1))) qq pg)))
 (ah 159 #[.agg #[gn,jN,iD]] rT (λe w91=>∃(xl tJ Kx yE EK EM MH Kv td qK qG sZ pJ ph np nq yJ pj:Int),e=Value.agg #[xl,tJ,Kx,yE,EK,EM,MH,Kv,td,qK,qG,sZ,pJ,ph,np,nq,yJ,pj]/\K2 dH eP rT w91 (
 ((0:Int)<=(ao ((ao (2*iz))+0))/\((ao ((ao (2*iz))+0)):Int)<((6:Nat):Int))/\∃(jB nr ig:Int),(([xl,tJ,Kx,yE,EK,EM,MH,Kv,td,qK,qG,sZ,pJ,ph,np,nq,yJ,pj]:LV).drop (((ao ((ao (2*iz))+0)):Int).toNat*3)).take 3=[.int .i64 jB,.int .i64 nr,.int .i64 ig]/\
 Sw w91 dH #[jB,nr,ig,aa,(ao ((ao ((ao (2*iz))+1))-0)),qq] λT8=>
 ∃n36,n36<n27/\aO [cu,di,db]/\I26 n36 jB nr ig (0) ((ao ((ao ((ao (2*iz))+1))-0))) qq T8))))))))))))))
 (R po oD))))))):ah 197 #[a0,c0,c1,c2] w R:=
 cq ⟨[(7,⟨[(30,.int .i64),(8,.int .i64)],[],[]⟩),(3,⟨[],[(0,[.int .i64,.int .i64,.int .i64,.int .i64,.int .i64,.int .i64])],[]⟩)],[],[]⟩ Tryz.func197 h
def WZ.vc(h:
 Aw w #[aA,ar,au] 28 λw0=>
 Aw w0 #[aj,aq,aw] 28 λw1=>
 Aw w1 #[a2] 3 λw2=>
 ah 195 #[.agg #[aA,ar,au]] w2.drew (iF λx4 x5 x6 w3=>K3 w w0 w1 w2.drew w3 (
 af w3 (aB w1) 0 [a2]/\af w3 (aB w0) 0 [aj,aq,aw]/\ah 196 #[.agg #[aj,aq,aw]] w3 (iF λx8 x9 bj w7=>K3 w w0 w1 w3 w7 (
 af w7 (aB w1) 0 [a2]/\Sw w7 w #[x4,x5,x6] λbg=>
 af bg (aB w1) 0 [a2]/\Sw bg w0 #[x8,x9,bj] λdj=>
 af dj (aB w1) 0 [a2]/\Sw dj w1 #[.int .i64 (if 64<(if 0>a2 then 0 else a2) then 64 else (if 0>a2 then 0 else a2))] λbK=>
 R (Value.func (.func 197) #[] #[w,.pointer (aB w0),.pointer (aB w1)]) bK))))):ah 143 #[.agg #[aA,ar,au],.agg #[aj,aq,aw],a2] w R:=
 cq bU Tryz.func143 h
def aaQ.vc{a0:Value}(h:
 aP (kP a0) (
 Aw w #[a0] 65 λw0=>
 Aw w0 #[aj,aq,aw] 28 λw1=>
 Aw w1 #[bA,bQ,bw] 28 λw2=>
 Aw w2 #[aa,aa,aa,aa,aa,aa] 77 λw3=>
 Aw w3 #[false] 4 λw4=>
 ah 143 #[.agg #[aj,aq,aw],.agg #[bA,bQ,bw],a3] w4 (Rv λv6 w5=>K5 w w0 w1 w2 w3 w4 w5 (
 ∃(xs7:List (LV))(Rd8 F9:Nat->Prop)(Eg:Nat->(Nat->Prop)->Int->Int->Int->Int->Int->Int->Bool->World->Prop)(X11:Option Nat->(Nat->Prop)->Int->Int->Int->Int->Int->Int->Bool->World->Prop),
 (∀x ∈ xs7,∃(bV cn bI cw cH dh:Int),x=[.agg #[.int .i64 bV,.int .i64 cn,.int .i64 bI,.int .i64 cw,.int .i64 cH,.int .i64 dh]])/\
 (∀(n18:Nat)(F19:Nat->Prop)(di db ef dG eU dY:Int)(Hq:Bool)(dX iw:World),Eg n18 F19 di db ef dG eU dY Hq dX->Below w5 dX iw->(∀i,F19 i->iw.heap[i]? =dX.heap[i]?)->Eg n18 F19 di db ef dG eU dY Hq iw)/\
 (∀(ZK:Option Nat)(F30:Nat->Prop)(iD ic eL ie kI nh:Int)(b37:Bool)(oD kx:World),X11 ZK F30 iD ic eL ie kI nh b37 oD->Below w5 oD kx->(∀i,F30 i->kx.heap[i]? =oD.heap[i]?)->X11 ZK F30 iD ic eL ie kI nh b37 kx)/\
 (∀(n40:Nat)(F41:Nat->Prop)(nj rU lD pI iz sW:Int)(b48:Bool)(lq:World),Eg n40 F41 nj rU lD pI iz sW b48 lq->∀i,F41 i->i<lq.heap.size/\i≠w5.heap.size/\i≠w5.heap.size+1)/\
 (∀(n50:Option Nat)(F51:Nat->Prop)(lh jA qp lY sX oo:Int)(Q6:Bool)(yO:World),X11 n50 F51 lh jA qp lY sX oo Q6 yO->∀i,F51 i->i<yO.heap.size/\i≠w5.heap.size/\i≠w5.heap.size+1)/\
 (∀i,Rd8 i->i<w5.heap.size/\¬F9 i/\i≠w.heap.size/\i≠w0.heap.size/\i≠w1.heap.size/\i≠w2.heap.size/\i≠w3.heap.size/\True)/\
 (∀mQ:World,Ni w5 w5 mQ->Iter Tryz.prog (v6) mQ Rd8 xs7/\aO [a0]/\aO [aj,aq,aw]/\aO [bA,bQ,bw]/\Eg 0 F9 (0) (0) (0) (0) (0) (0) false mQ)/\
 (∀(n61:Nat)(F62:Nat->Prop)(aBg:Nat->Value)(wD rW mg pd mS qN:Int)(b70:Bool)(oq nL nM vi ve yB:Int)(vf:World),xs7[n61]? =some [.agg #[.int .i64 oq,.int .i64 nL,.int .i64 nM,.int .i64 vi,.int .i64 ve,.int .i64 yB]]->Eg n61 F62 wD rW mg pd mS qN b70 vf->
 Aw vf #[aa,aa,aa,aa,aa,aa] 77 λl6=>
 Sw l6 vf #[oq,nL,nM,vi,ve,yB] λvL=>
 Below vf vf vL/\∀qu:World,Rec (w5.heap.size+1) vL qu->Eg n61 F62 wD rW mg pd mS qN b70 qu->
 cC Tryz.prog a0 [.agg #[oq,nL,nM]] qu (Ri λqt wC=>K6 w w0 w1 w2 w3 vf qu wC (
 ah 144 #[qt] wC (Rb λb84 w83=>K6 w w0 w1 w2 w3 vf wC w83 (
 Br (!b84)
 (Sw w83 vf #[oq,nL,nM,qt,ve,yB] λw85=>
 Sw w85 w2 #[oq,nL,nM,qt,ve,yB] λw86=>
 Sw w86 w3 #[true] λCs=>
 true=true/\∃F88:Nat->Prop,(aO [a0]/\aO [aj,aq,aw]/\aO [bA,bQ,bw]/\X11 none F88 oq nL nM qt ve yB true Cs)/\Step (λi=>(F62 i\/i ∈([w.heap.size,w0.heap.size,w1.heap.size,w2.heap.size,w3.heap.size]:List Nat))\/vf.heap.size<=i) (λi=>F88 i\/i ∈([w.heap.size,w0.heap.size,w1.heap.size,w2.heap.size,w3.heap.size]:List Nat)) qu Cs)
 (∃F89:Nat->Prop,(aO [a0]/\aO [aj,aq,aw]/\aO [bA,bQ,bw]/\Eg (n61+1) F89 wD rW mg pd mS qN b70 w83)/\Step (λi=>(F62 i\/i ∈([w.heap.size,w0.heap.size,w1.heap.size,w2.heap.size,w3.heap.size]:List Nat))\/vf.heap.size<=i) (λi=>F89 i\/i ∈([w.heap.size,w0.heap.size,w1.heap.size,w2.heap.size,w3.heap.size]:List Nat)) qu w83))))))/\
 (∀(F90:Nat->Prop)(atD:Nat->Value)(xl tJ Kx yE EK EM:Int)(b98:Bool)(Q8:World),Eg xs7.length F90 xl tJ Kx yE EK EM b98 Q8->Q8.heap[w5.heap.size]? =some (.deferred (some []))->
 Sw Q8 w2 #[aa,aa,aa,aa,aa,aa] λqF=>
 Sw qF w3 #[false] λIG=>
 IG.heap[w5.heap.size]? =some (.deferred (some []))/\∀akV:World,Rec w5 IG akV->
 R (Value.tuple #[.agg #[aa,aa,aa,aa,aa,aa],false]) akV)/\
 (∀(at7:Nat->Prop)(ayv:Nat->Value)(ph np nq yJ pj jB:Int)(aov:Bool)(AO:World),X11 none at7 ph np nq yJ pj jB aov AO->AO.heap[w5.heap.size]? =some (.deferred (some []))->
 AO.heap[w5.heap.size]? =some (.deferred (some []))/\∀T8:World,Rec w5 AO T8->
 R (Value.tuple #[.agg #[ph,np,nq,yJ,pj,jB],aov]) T8))))):ah 87 #[a0,.agg #[aj,aq,aw],.agg #[bA,bQ,bw],a3] w R:=
 cq ⟨[],[],[(3,⟨[],[(3,[.int .i64,.int .i64,.int .i64,.int .i64,.int .i64,.int .i64]),(4,[.bool])],[]⟩,[.agg [.int .i64,.int .i64,.int .i64,.int .i64,.int .i64,.int .i64]])]⟩ Tryz.func87 h
def Si.vc(h:
 Aw w #[aA,ar,au,aU,aV,aZ] 77 λw0=>
 Aw w0 #[aa,aa,aa] 41 λw1=>
 Br (aV<0)
 (Sw w1 w0 #[aa,aa,aa] λw2=>
 R (Value.tuple #[.agg #[aa,aa,aa],false]) w2)
 (Br (aV>=6)
 (Sw w1 w0 #[aa,aa,aa] λw3=>
 R (Value.tuple #[.agg #[aa,aa,aa],false]) w3)
 (ah 159 #[.agg #[aA,ar,au]] w1.drew (λe w4=>∃(x5 x6 x7 x8 x9 bj bu bV cn bI cw cH dh cA cu di db ef:Int),e=Value.agg #[x5,x6,x7,x8,x9,bj,bu,bV,cn,bI,cw,cH,dh,cA,cu,di,db,ef]/\K2 w w0 w1.drew w4 (
 af w4 (dC w 4) 0 [aV]/\((0:Int)<=aV/\aV<((6:Nat):Int))/\∃(dG eU dY:Int),(([x5,x6,x7,x8,x9,bj,bu,bV,cn,bI,cw,cH,dh,cA,cu,di,db,ef]:LV).drop ((aV:Int).toNat*3)).take 3=[.int .i64 dG,.int .i64 eU,.int .i64 dY]/\
 Sw w4 w0 #[dG,eU,dY] λfx=>
 R (Value.tuple #[.agg #[dG,eU,dY],true]) fx))))):ah 109 #[.agg #[aA,ar,au,aU,aV,aZ]] w R:=
 cq bU Tryz.func109 h
def Ii.vc{bD:Bool}(h:
 Aw w #[aA,ar,au,aU,aV,aZ,bG,bC,bD] 70 λw0=>
 Aw w0 #[aa,aa,aa] 28 λw1=>
 ah 145 #[.agg #[aA,ar,au],.agg #[aa,(ao (Int.tdiv (ao (bC*4)) 5)),aa]] w1 (iF λx3 x4 x5 w2=>K2 w w0 w1 w2 (
 Sw w2 w0 #[x3,x4,x5] λw6=>
 R (Value.agg #[x3,x4,x5]) w6))):ah 88 #[.agg #[aA,ar,au,aU,aV,aZ,bG,bC,bD]] w R:=
 cq bU Tryz.func88 h
def aaR.vc(h:
 Aw w #[aA,ar,au] 41 λw0=>
 Aw w0 #[aa,aa,aa,aa,aa,aa] 107 λw1=>
 (ah 174 #[aA] w1.drew (Ri λx3 w2=>K2 w w0 w1.drew w2 (
 af w2 (dC w 2) 0 [au]/\af w2 (dC w 1) 0 [ar]/\(ah 174 #[ar] w2 (Ri λx5 w4=>K2 w w0 w2 w4 (
 af w4 (dC w 2) 0 [au]/\(ah 174 #[au] w4 (Ri λx7 w6=>K2 w w0 w4 w6 (
 (Aw w6 #[aa,aa,aa] 28 λw8=>
 Sw w8 w6 #[x3,x5,x7] λw9=>
 ah 145 #[.agg #[x3,x5,x7],.agg #[(65536:Int),(65536:Int),(65536:Int)]] w9.drew (iF λbu bV cn bP=>K3 w w0 w6 w9.drew bP (
 af bP (aB w6) 0 [x3,x5,x7]/\Sw bP w0 #[x3,x5,x7,bu,bV,cn] λbO=>
 R (Value.agg #[x3,x5,x7,bu,bV,cn]) bO)))/\(Aw w6 #[aa,aa,aa] 28 λdB=>
 Sw dB w6 #[x3,x5,x7] λcF=>
 ah 145 #[.agg #[x3,x5,x7],.agg #[(65536:Int),(65536:Int),(65536:Int)]] cF.drew (iF λcA cu di cL=>K3 w w0 w6 cF.drew cL (
 af cL (aB w6) 0 [x3,x5,x7]/\Sw cL w0 #[x3,x5,x7,cA,cu,di] λeZ=>
 R (Value.agg #[x3,x5,x7,cA,cu,di]) eZ))))))/\(Aw w4 #[aa,aa,aa] 28 λdP=>
 ah 174 #[au] dP (Ri λeU eP=>K3 w w0 w4 dP eP (
 Sw eP w4 #[x3,x5,eU] λcW=>
 ah 145 #[.agg #[x3,x5,eU],.agg #[(65536:Int),(65536:Int),(65536:Int)]] cW.drew (iF λfO gm gn fx=>K3 w w0 w4 cW.drew fx (
 af fx (aB w4) 0 [x3,x5,eU]/\Sw fx w0 #[x3,x5,eU,fO,gm,gn] λfE=>
 R (Value.agg #[x3,x5,eU,fO,gm,gn]) fE))))))))/\(Aw w2 #[aa,aa,aa] 28 λgf=>
 ah 174 #[ar] gf (Ri λeL ni=>K3 w w0 w2 gf ni (
 af ni (dC w 2) 0 [au]/\ah 174 #[au] ni (Ri λkI jf=>K3 w w0 w2 ni jf (
 Sw jf w2 #[x3,eL,kI] λkG=>
 ah 145 #[.agg #[x3,eL,kI],.agg #[(65536:Int),(65536:Int),(65536:Int)]] kG.drew (iF λgk oh mP gw=>K3 w w0 w2 kG.drew gw (
 af gw (aB w2) 0 [x3,eL,kI]/\Sw gw w0 #[x3,eL,kI,gk,oh,mP] λjw=>
 R (Value.agg #[x3,eL,kI,gk,oh,mP]) jw))))))))))/\(Aw w1.drew #[aa,aa,aa] 28 λlj=>
 ah 174 #[aA] lj (Ri λlD jg=>K2 w w0 lj jg (
 jg.heap[w1.drew.heap.size]? =lj.heap[w1.drew.heap.size]?/\
 af jg (dC w 2) 0 [au]/\af jg (dC w 1) 0 [ar]/\ah 174 #[ar] jg (Ri λiz Cy=>K2 w w0 jg Cy (
 Cy.heap[w1.drew.heap.size]? =jg.heap[w1.drew.heap.size]?/\
 af Cy (dC w 2) 0 [au]/\ah 174 #[au] Cy (Ri λyL lW=>K2 w w0 Cy lW (
 lW.heap[w1.drew.heap.size]? =Cy.heap[w1.drew.heap.size]?/\
 Sw lW w1.drew.heap.size #[lD,iz,yL] λlq=>
 ah 145 #[.agg #[lD,iz,yL],.agg #[(65536:Int),(65536:Int),(65536:Int)]] lq.drew (iF λnk lh jA mT=>K2 w w0 lq.drew mT (
 mT.heap[w1.drew.heap.size]? =lq.drew.heap[w1.drew.heap.size]?/\
 af mT (aB w1.drew.heap.size) 0 [lD,iz,yL]/\Sw mT w0 #[lD,iz,yL,nk,lh,jA] λHy=>
 R (Value.agg #[lD,iz,yL,nk,lh,jA]) Hy)))))))))):ah 121 #[.agg #[aA,ar,au]] w R:=
 cq bU Tryz.func121 h
def uG.vc{a0:Addr}{c0:Addr}(h:
 ∃(x0 x1 x2 x3 x4 x5 x6 x7:Int)(b8:Bool),af w.drew (ae (some a0) 0) 0 [x0,x1,x2,x3,x4,x5,x6,x7,b8]/\
 ∃(x9 bj bu bV cn bI:Int),af w.drew (some c0) 0 [x9,bj,bu,bV,cn,bI]/\
 ah 48 #[.agg #[x0,x1,x2,x3,x4,x5,x6,x7,b8]] w.drew (λe dB=>∃(cH dh cA cu di db:Int),e=Value.agg #[cH,dh,cA,cu,di,db]/\
 af dB (some c0) 0 [x9,bj,bu,bV,cn,bI]/\ah 124 #[.agg #[cH,dh,cA,cu,di,db],.agg #[x9,bj,bu,bV,cn,bI]] dB (λe dP=>∃(Kw:Bool),e=Kw/\
 R Kw dP))):ah 123 #[a0,c0] w R:=
 cq bU Tryz.func123 h
def qB.vc{a0:Sl}{a1:Value}(h:
 ah 175 #[a0,a1] w (λe w0=>∃(x1:Int),e=x1/\
 R (Value.bool (decide (x1>=0))) w0)):ah 122 #[a0,a1] w R:=
 cq bU Tryz.func122 h
def xL.vc{a0:Addr}(h:
 Aw w #[aj,aq,aw] 41 λw0=>
 ah 121 #[.agg #[aj,aq,aw]] w0 (xF λx2 x3 x4 x5 x6 x7 w1=>Kp w w0 w1/\
 Aw w1 #[aa,aa,aa,aa,aa,aa] 107 λw8=>
 Sw w8 w1 #[x2,x3,x4,x5,x6,x7] λw9=>
 ah 122 #[.slice (aJ (ae (some a0) 1) (0) (16) 1) (16-0) (16-0),.func (.func 123) #[] #[.pointer (aB w1)]] w9 (Rb λZH bP=>Kp w w9 bP/\
 R ZH bP))):ah 66 #[a0,.agg #[aj,aq,aw]] w R:=
 cq bU Tryz.func66 h
def xX.vc{a0:Addr}(h:
 Aw w #[bA,bQ,bw] 28 λw0=>
 Aw w0 #[aa,aa,aa,aa,aa,aa] 77 λw1=>
 ah 50 #[a0,a1] w1 (λe w2=>∃(p3:Option Addr),e=p3/\K2 w w0 w1 w2 (
 Br (p3).isNone
 (Sw w2 w0 #[aa,aa,aa,aa,aa,aa] λw4=>
 R (Value.tuple #[.agg #[aa,aa,aa,aa,aa,aa],(6:Int)]) w4)
 (aP (dq p3) (aP (dq p3) (∃(x5 x6 x7 x8 x9 bj bu bV:Int)(Hn:Bool),af w2.drew (ae p3 0) 0 [x5,x6,x7,x8,x9,bj,bu,bV,Hn]/\
 (ah 47 #[a0] w2.drew (Rv λv15 bO=>K2 w w0 w2.drew bO (
 af bO w 0 [bA,bQ,bw]/\af bO (ae p3 0) 0 [x5,x6,x7,x8,x9,bj,bu,bV,Hn]/\(ah 88 #[.agg #[x5,x6,x7,x8,x9,bj,bu,bV,Hn]] bO (iF λdh cA cu cF=>K2 w w0 bO cF (
 af cF w 0 [bA,bQ,bw]/\(ah 87 #[v15,.agg #[dh,cA,cu],.agg #[bA,bQ,bw],(5:Int)] cF (λe eW=>∃(db ef dG eU dY fg:Int)(EI:Bool),e=Value.tuple #[.agg #[db,ef,dG,eU,dY,fg],EI]/\K2 w w0 cF eW (
 Aw eW #[aa,aa,aa,aa,aa,aa] 77 λiw=>
 Sw iw eW #[db,ef,dG,eU,dY,fg] λdW=>
 Br (!EI)
 (Sw dW w0 #[aa,aa,aa,aa,aa,aa] λfE=>
 R (Value.tuple #[.agg #[aa,aa,aa,aa,aa,aa],(13:Int)]) fE)
 (Br (eU==(-1))
 (Sw dW w0 #[aa,aa,aa,aa,aa,aa] λgf=>
 R (Value.tuple #[.agg #[aa,aa,aa,aa,aa,aa],(11:Int)]) gf)
 (Sw dW w0 #[db,ef,dG,eU,dY,fg] λni=>
 R (Value.tuple #[.agg #[db,ef,dG,eU,dY,fg],(0:Int)]) ni)))))/\(Aw cF #[aa,aa,aa,aa,aa,aa] 77 λeT=>
 ah 87 #[v15,.agg #[dh,cA,cu],.agg #[bA,bQ,bw],(5:Int)] eT (λe jf=>∃(kI nh gI gk oh mP:Int)(b41:Bool),e=Value.tuple #[.agg #[kI,nh,gI,gk,oh,mP],b41]/\K3 w w0 cF eT jf (
 Sw jf cF #[kI,nh,gI,gk,oh,mP] λlj=>
 Br (!b41)
 (Sw lj w0 #[aa,aa,aa,aa,aa,aa] λjg=>
 R (Value.tuple #[.agg #[aa,aa,aa,aa,aa,aa],(13:Int)]) jg)
 (Br (gk==(-1))
 (Sw lj w0 #[aa,aa,aa,aa,aa,aa] λlg=>
 R (Value.tuple #[.agg #[aa,aa,aa,aa,aa,aa],(11:Int)]) lg)
 (Sw lj w0 #[kI,nh,gI,gk,oh,mP] λCy=>
 R (Value.tuple #[.agg #[kI,nh,gI,gk,oh,mP],(0:Int)]) Cy))))))))/\(Aw bO #[aa,aa,aa,aa,aa,aa] 77 λqo=>
 ah 88 #[.agg #[x5,x6,x7,x8,x9,bj,bu,bV,Hn]] qo (iF λyL HV tc lW=>K3 w w0 bO qo lW (
 af lW w 0 [bA,bQ,bw]/\ah 87 #[v15,.agg #[yL,HV,tc],.agg #[bA,bQ,bw],(5:Int)] lW (λe tH=>∃(lh jA qp lY sX oo:Int)(Q6:Bool),e=Value.tuple #[.agg #[lh,jA,qp,lY,sX,oo],Q6]/\K3 w w0 bO lW tH (
 Sw tH bO #[lh,jA,qp,lY,sX,oo] λyO=>
 Br (!Q6)
 (Sw yO w0 #[aa,aa,aa,aa,aa,aa] λmQ=>
 R (Value.tuple #[.agg #[aa,aa,aa,aa,aa,aa],(13:Int)]) mQ)
 (Br (lY==(-1))
 (Sw yO w0 #[aa,aa,aa,aa,aa,aa] λpx=>
 R (Value.tuple #[.agg #[aa,aa,aa,aa,aa,aa],(11:Int)]) px)
 (Sw yO w0 #[lh,jA,qp,lY,sX,oo] λiH=>
 R (Value.tuple #[.agg #[lh,jA,qp,lY,sX,oo],(0:Int)]) iH))))))))))/\(Aw w2.drew #[aa,aa,aa,aa,aa,aa] 77 λDq=>
 ah 47 #[a0] Dq (Rv λv65 ue=>K2 w w0 Dq ue (
 ue.heap[w2.drew.heap.size]? =Dq.heap[w2.drew.heap.size]?/\
 af ue w 0 [bA,bQ,bw]/\af ue (ae p3 0) 0 [x5,x6,x7,x8,x9,bj,bu,bV,Hn]/\ah 88 #[.agg #[x5,x6,x7,x8,x9,bj,bu,bV,Hn]] ue (iF λpd mS qN rT=>K2 w w0 ue rT (
 rT.heap[w2.drew.heap.size]? =ue.heap[w2.drew.heap.size]?/\
 af rT w 0 [bA,bQ,bw]/\ah 87 #[v65,.agg #[pd,mS,qN],.agg #[bA,bQ,bw],(5:Int)] rT (λe ou=>∃(oq nL nM vi ve yB:Int)(b77:Bool),e=Value.tuple #[.agg #[oq,nL,nM,vi,ve,yB],b77]/\K2 w w0 rT ou (
 ou.heap[w2.drew.heap.size]? =rT.heap[w2.drew.heap.size]?/\
 Sw ou w2.drew.heap.size #[oq,nL,nM,vi,ve,yB] λqu=>
 Br (!b77)
 (Sw qu w0 #[aa,aa,aa,aa,aa,aa] λl6=>
 R (Value.tuple #[.agg #[aa,aa,aa,aa,aa,aa],(13:Int)]) l6)
 (Br (vi==(-1))
 (Sw qu w0 #[aa,aa,aa,aa,aa,aa] λvL=>
 R (Value.tuple #[.agg #[aa,aa,aa,aa,aa,aa],(11:Int)]) vL)
 (Sw qu w0 #[oq,nL,nM,vi,ve,yB] λwC=>
 R (Value.tuple #[.agg #[oq,nL,nM,vi,ve,yB],(0:Int)]) wC))))))))))))))):ah 32 #[a0,a1,.agg #[bA,bQ,bw]] w R:=
 cq bU Tryz.func32 h
def xY.vc{a0:Addr}(h:
 Aw w #[aj,aq,aw] 41 λw0=>
 ah 103 #[a2] w0 (Rb λb2 w1=>Kp w w0 w1/\
 Br b2
 (ah 66 #[a0,.agg #[aj,aq,aw]] w1 (Rb λb4 w3=>Kp w w1 w3/\
 Br b4
 (R (12:Int) w3)
 (∃(p5:Option Addr),ld w3.drew (ae (some a0) 0)=some (.pointer p5)/\
 ah 113 #[p5,.agg #[aj,aq,aw],a2] w3.drew (Ri λx7 w6=>Kp w w3.drew w6/\
 R x7 w6))))
 (∃(p8:Option Addr),ld w1.drew (ae (some a0) 0)=some (.pointer p8)/\
 ah 113 #[p8,.agg #[aj,aq,aw],a2] w1.drew (Ri λbj w9=>Kp w w1.drew w9/\
 R bj w9)))):ah 59 #[a0,.agg #[aj,aq,aw],a2] w R:=
 cq bU Tryz.func59 h
def vU.vc{a0:Addr}(h:
 Aw w #[bA,bQ,bw] 28 λw0=>
 ah 32 #[a0,a1,.agg #[bA,bQ,bw]] w0 (λe w1=>∃(x2 x3 x4 x5 x6 x7 x8:Int),e=Value.tuple #[.agg #[x2,x3,x4,x5,x6,x7],x8]/\Kp w w0 w1/\
 Aw w1 #[aa,aa,aa,aa,aa,aa] 77 λw9=>
 Sw w9 w1 #[x2,x3,x4,x5,x6,x7] λbP=>
 Br (x8==6)
 (R x8 bP)
 (ah 108 #[a3] bP (Rb λb12 bg=>K2 w w1 bP bg (
 Br (!b12)
 (R (1:Int) bg)
 (Br (a3==0)
 (R (1:Int) bg)
 (Br (x8 !=0)
 (R x8 bg)
 (ah 109 #[.agg #[x2,x3,x4,x5,x6,x7]] bg (λe bK=>∃(bI cw cH:Int)(ZF:Bool),e=Value.tuple #[.agg #[bI,cw,cH],ZF]/\K2 w w1 bg bK (
 Aw bK #[aa,aa,aa] 41 λdH=>
 Sw dH bK #[bI,cw,cH] λgg=>
 Br (!ZF)
 (R (12:Int) gg)
 (ah 59 #[a0,.agg #[bI,cw,cH],a3] gg (Ri λdb eW=>K3 w w1 bK gg eW (
 R db eW))))))))))))):ah 55 #[a0,a1,.agg #[bA,bQ,bw],a3] w R:=
 cq bU Tryz.func55 h
def vV.vc{a0:Addr}(h:
 Aw w #[bA,bQ,bw] 28 λw0=>
 ah 32 #[a0,a1,.agg #[bA,bQ,bw]] w0 (λe w1=>∃(x2 x3 x4 x5 x6 x7 x8:Int),e=Value.tuple #[.agg #[x2,x3,x4,x5,x6,x7],x8]/\Kp w w0 w1/\
 Aw w1 #[aa,aa,aa,aa,aa,aa] 77 λw9=>
 Sw w9 w1 #[x2,x3,x4,x5,x6,x7] λbP=>
 Br (x8==0)
 (ah 59 #[a0,.agg #[x2,x3,x4],(0:Int)] bP (Ri λbV bg=>K2 w w1 bP bg (
 Br (bV !=0)
 (R (Value.tuple #[aa,bV]) bg)
 (R (Value.tuple #[x5,aa]) bg))))
 (Br (x8 !=0)
 (R (Value.tuple #[aa,x8]) bP)
 (R (Value.tuple #[x5,aa]) bP)))):ah 33 #[a0,a1,.agg #[bA,bQ,bw]] w R:=
 cq bU Tryz.func33 h
def xZ.vc{a0:Addr}{bw:Bool}(h:
 Aw w #[bA,bQ,bw] 109 λw0=>
 ah 50 #[a0,a1] w0 (λe w1=>∃(p2:Option Addr),e=p2/\Kp w w0 w1/\
 Br (p2).isNone
 (R (6:Int) w1)
 (aP (dq p2) (aP (dq p2) ((((ae p2 9)).isSome=true/\Wr w1 (ae p2 9) 3)/\bz (ae p2 9)≠some w.heap.size/\(∀w3,w3=aL w1 (ae p2 9) [bA,bQ,bw]->
 R (0:Int) w3)))))):ah 54 #[a0,a1,.agg #[bA,bQ,bw]] w R:=
 cq bU Tryz.func54 h
def xU.vc{a0:Addr}(h:
 ∃(p0 p1 p2 p3 p4 p5 p6 p7 p8 p9 tf Zh pz QO p14 Ui:Option Addr),af w (ae (some a0) 1) 0 [.pointer p0,p1,p2,p3,p4,p5,p6,p7,p8,p9,tf,Zh,pz,QO,p14,Ui]/\
 ∃I16:Nat->Int->Sl->World->Prop,
 (∃IP,I16 IP (0) ⟨none,0,0⟩ w)/\
 ∀(IP:Nat)(at9:Nat->Value)(cu:Int)(vM:Sl)(eZ:World),I16 IP cu vM eZ->
 Br (cu<16)
 (((0:Int)<=cu/\cu<((16:Nat):Int))/\∃(Vz:Option Addr),([.pointer p0,p1,p2,p3,p4,p5,p6,p7,p8,p9,tf,Zh,pz,QO,p14,Ui]:LV)[(cu:Int).toNat*1]? =some (.pointer Vz)/\
 Br (!(Vz).isNone)
 (aP (dq Vz) (aP (dq Vz) (∃(eU dY fg fO gm gn jN iD:Int)(Y3:Bool),af eZ (ae Vz 0) 0 [eU,dY,fg,fO,gm,gn,jN,iD,Y3]/\
 ah 45 #[a0,.agg #[eU,dY,fg,fO,gm,gn,jN,iD,Y3]] eZ (λe eT=>∃(YZ:Bool),e=YZ/\
 Br YZ
 (Aw eT #[Vz] 53 λkh=>
 ba 8 1 kh vM 1 [.pointer Vz]/\∀(s36:Sl)(gw:World),aY 53 1 kh vM 1 [.pointer Vz] s36 gw->Kp eT kh gw/\
 ∃QP,QP<IP/\I16 QP ((ao (cu+1))) s36 gw)
 (∃QP,QP<IP/\I16 QP ((ao (cu+1))) vM eT)))))
 (∃QP,QP<IP/\I16 QP ((ao (cu+1))) vM eZ))
 (∃I38:Nat->Int->Sl->World->Prop,
 (∃n39,I38 n39 (0) ⟨none,0,0⟩ eZ)/\
 ∀(n39:Nat)(aBj:Nat->Value)(lC:Int)(s42:Sl)(jg:World),I38 n39 lC s42 jg->
 Br (decide (lC<((vM.n:Nat):Int)))
 (eA vM.a lC vM.n/\∃(p45:Option Addr),ld jg (ae vM.a ((lC:Int).toNat*1))=some (.pointer p45)/\
 aP (dq p45) (aP (dq p45) (∃(iz sW yL HV tc nk lh jA:Int)(b54:Bool),af jg.drew (ae p45 0) 0 [iz,sW,yL,HV,tc,nk,lh,jA,b54]/\
 aP (dq p45) (aP (dq p45) (∃(lY sX:Int)(Y4:Bool),af jg.drew (ae p45 9) 0 [lY,sX,Y4]/\
 ah 47 #[a0] jg.drew (λe Cx=>∃(v59:Value),e=v59/\
 af Cx (ae p45 9) 0 [lY,sX,Y4]/\af Cx (ae p45 0) 0 [iz,sW,yL,HV,tc,nk,lh,jA,b54]/\ah 116 #[.agg #[iz,sW,yL,HV,tc,nk,lh,jA,b54],v59,.agg #[lY,sX,Y4]] Cx (λe mQ=>∃(vI om uf wD rW mg pd mS:Int)(b69:Bool),e=Value.agg #[vI,om,uf,wD,rW,mg,pd,mS,b69]/\
 Aw mQ #[vI,om,uf,wD,rW,mg,pd,mS,b69] 70 λou=>
 ba 72 9 ou s42 1 [vI,om,uf,wD,rW,mg,pd,mS,b69]/\∀(s71:Sl)(w72:World),aY 70 9 ou s42 1 [vI,om,uf,wD,rW,mg,pd,mS,b69] s71 w72->Kp mQ ou w72/\
 ∃n44,n44<n39/\I38 n44 ((ao (lC+1))) s71 w72)))))))
 (ah 47 #[a0] jg (λe Ky=>∃(v74:Value),e=v74/\
 ah 117 #[v74,s42] Ky (λe sY=>∃(ID:Sl),e=ID/\
 ∃I77:Nat->Int->World->Prop,
 (∃n78,I77 n78 (0) sY)/\
 ∀(n78:Nat)(auc:Nat->Value)(tI:Int)(wC:World),I77 n78 tI wC->
 Br (decide (tI<((ID.n:Nat):Int)))
 (eA ID.a tI ID.n/\∃(rV vJ vK Hs qO QR IQ MI:Int)(b91:Bool),af wC (ae ID.a ((tI:Int).toNat*9)) 0 [rV,vJ,vK,Hs,qO,QR,IQ,MI,b91]/\
 Aw wC #[aa,aa,aa,aa,aa,aa,aa,aa,false] 70 λw92=>
 Sw w92 wC #[rV,vJ,vK,Hs,qO,QR,IQ,MI,b91] λIW=>
 eA vM.a tI vM.n/\∃(p94:Option Addr),ld IW.drew (ae vM.a ((tI:Int).toNat*1))=some (.pointer p94)/\
 aP (dq p94) (aP (dq p94) ((((ae p94 0)).isSome=true/\Wr IW.drew (ae p94 0) 9)/\bz (ae p94 0)≠some wC.heap.size/\(∀w95,w95=aL IW.drew (ae p94 0) [rV,vJ,vK,Hs,qO,QR,IQ,MI,b91]->
 ∃n82,n82<n78/\I77 n82 ((ao (tI+1))) w95))))
 (∃(p96:Option Addr),ld wC (ae (some a0) 0)=some (.pointer p96)/\
 ah 118 #[p96,.func (.func 66) #[a0] #[]] wC (λe w97=>e=po/\
 ∃(p98:Option Addr),ld w97 (ae (some a0) 0)=some (.pointer p98)/\
 ah 119 #[p98] w97 (λe Q8=>∃(td:Int),e=td/\
 R td Q8)))))))):ah 64 #[a0] w R:=
 cq ⟨[(15,⟨[(59,.int .i64)],[],[]⟩),(10,⟨[(35,.int .i64),(4,.slice)],[],[]⟩),(4,⟨[(15,.int .i64),(3,.slice)],[],[]⟩)],[],[]⟩ Tryz.func64 h
end Go.Proofs.YtkkkfkopcfdmaaaGreatDoor
