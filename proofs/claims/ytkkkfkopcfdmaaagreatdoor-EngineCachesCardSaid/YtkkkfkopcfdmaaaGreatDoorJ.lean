import Derived.Test.YtkkkfkopcfdmaaaGreatDoorI
import Derived.Test.YtkkkfkopcfdmaaaGreatDoorG
import Derived.Test.YtkkkfkopcfdmaaaGreatDoorC
set_option linter.all false
namespace Go.Proofs.YtkkkfkopcfdmaaaGreatDoor
open Go Go.Vc Go.RowKit Go.Proofs
set_option maxRecDepth 100000
set_option maxHeartbeats 8000000
set_option linter.unusedVariables false
variable {R:Ending->World->Prop} {w:World} {a0 a1 a2 a3 a4 a5 a6 a7 a8 a9 aA ar au aU aV aZ bG bC bD Cf aj aq aw bt bR bH eB eO eC wh bA bQ bw wi wm vb vd wo wu wx Ch Ci Cj Ck Cm Cn Co Cp Cq Cr:Int}
def zy.vc{a0:Addr}{eC:Bool}(h:
 Aw w #[aj,aq,aw,bt,bR,bH,eB,eO,eC] 70 λw0=>
 ∃(p1:Option Addr),ld w0.drew (ae (some a0) 0)=some (.pointer p1)/\
 ah 30 #[.agg #[aj,aq,aw]] w0.drew (iF λx3 x4 x5 w2=>Kp w w0.drew w2/\
 af w2 (ae (some a0) 0) 0 [.pointer p1]/\ah 100 #[p1,.agg #[x3,x4,x5]] w2 (Rb λb7 w6=>Kp w w2 w6/\
 R b7 w6))):ah 107 #[a0,.agg #[aj,aq,aw,bt,bR,bH,eB,eO,eC]] w R:=
 cq bU Tryz.func107 h
def Bj.vc{a0:Addr}(h:
 Aw w #[aj,aq,aw] 41 λw0=>
 ∃I1:Nat->Int->World->Prop,
 (∃n2,aO [aj,aq,aw]/\I1 n2 (0) w0)/\
 ∀(n2:Nat)(us3:Nat->Value)(x4:Int)(w5:World),I1 n2 x4 w5->
 Br (x4<16)
 (∃(s7:Sl),ld w5.drew (ae (some a0) 2)=some (.slice s7.a s7.n s7.c)/\
 eA s7.a x4 s7.n/\aP (dq (ae s7.a ((x4:Int).toNat*13))) (∃(b8:Bool),ld w5.drew (ae (ae s7.a ((x4:Int).toNat*13)) 0)=some (.bool b8)/\
 Br b8
 (∃(s9:Sl),ld w5.drew (ae (some a0) 2)=some (.slice s9.a s9.n s9.c)/\
 eA s9.a x4 s9.n/\aP (dq (ae s9.a ((x4:Int).toNat*13))) (∃(bj bu bV cn bI cw cH dh:Int)(b18:Bool),af w5.drew (ae (ae s9.a ((x4:Int).toNat*13)) 1) 0 [bj,bu,bV,cn,bI,cw,cH,dh,b18]/\
 ah 70 #[.agg #[bj,bu,bV,cn,bI,cw,cH,dh,b18]] w5.drew (xF λdi db ef dG eU dY gg=>Kp w w5.drew gg/\
 af gg w 0 [aj,aq,aw]/\af gg (ae (some a0) 2) 0 [s9]/\af gg (ae (ae s7.a ((x4:Int).toNat*13)) 0) 0 [.bool b8]/\af gg (ae (some a0) 2) 0 [s7]/\ah 126 #[.agg #[aj,aq,aw]] gg (xF λfO gm gn jN iD ic fx=>Kp w gg fx/\
 af fx (ae (some a0) 2) 0 [s9]/\af fx (ae (ae s7.a ((x4:Int).toNat*13)) 0) 0 [.bool b8]/\af fx (ae (some a0) 2) 0 [s7]/\ah 125 #[.agg #[di,db,ef,dG,eU,dY],.agg #[fO,gm,gn,jN,iD,ic]] fx (Rb λYZ eT=>Kp w fx eT/\
 af eT (ae (some a0) 2) 0 [s9]/\af eT (ae (ae s7.a ((x4:Int).toNat*13)) 0) 0 [.bool b8]/\af eT (ae (some a0) 2) 0 [s7]/\Br YZ
 (R true eT)
 (∃n6,n6<n2/\aO [aj,aq,aw]/\I1 n6 ((ao (x4+1))) eT))))))
 (∃n6,n6<n2/\aO [aj,aq,aw]/\I1 n6 ((ao (x4+1))) w5.drew)))
 (R false w5)):ah 67 #[a0,.agg #[aj,aq,aw]] w R:=
 cq ⟨[(2,⟨[(5,.int .i64)],[],[]⟩)],[],[]⟩ Tryz.func67 h
def Bk.vc{a0:Addr}(h:
 Aw w #[aj,aq,aw] 41 λw0=>
 ah 114 #[a2] w0 (Rb λb2 w1=>Kp w w0 w1/\
 Br b2
 (ah 67 #[a0,.agg #[aj,aq,aw]] w1 (Rb λb4 w3=>Kp w w1 w3/\
 Br b4
 (R (12:Int) w3)
 (∃(p5:Option Addr),ld w3.drew (ae (some a0) 1)=some (.pointer p5)/\
 ah 113 #[p5,.agg #[aj,aq,aw],a2] w3.drew (Ri λx7 w6=>Kp w w3.drew w6/\
 R x7 w6))))
 (∃(p8:Option Addr),ld w1.drew (ae (some a0) 1)=some (.pointer p8)/\
 ah 113 #[p8,.agg #[aj,aq,aw],a2] w1.drew (Ri λbj w9=>Kp w w1.drew w9/\
 R bj w9)))):ah 60 #[a0,.agg #[aj,aq,aw],a2] w R:=
 cq bU Tryz.func60 h
def ze.vc{a0:Addr}(h:
 Aw w #[aj,aq,aw] 28 λw0=>
 Aw w0 #[aa,aa,aa,aa,aa,aa,aa,aa,false] 75 λw1=>
 Sw w1 w0 #[aj,aq,aw,aa,aa,aa,a2,a3,false] λw2=>
 ah 106 #[.agg #[aj,aq,aw,aa,aa,aa,a2,a3,false]] w2 (Rb λb4 w3=>K2 w w0 w2 w3 (
 Br (!b4)
 (R (Value.tuple #[(-1:Int),(1:Int)]) w3)
 (∃I5:Nat->Int->Int->World->Prop,
 (∃n6,aO [aj,aq,aw]/\aO [aj,aq,aw,aa,aa,aa,a2,a3,false]/\I5 n6 (15) ((-1)) w3)/\
 ∀(n6:Nat)(us7:Nat->Value)(x8 x9:Int)(bP:World),I5 n6 x8 x9 bP->
 Br (x8>=0)
 (∃(kg:Sl),ld bP (ae (some a0) 2)=some (.slice kg.a kg.n kg.c)/\
 eA kg.a x8 kg.n/\aP (dq (ae kg.a ((x8:Int).toNat*13))) (∃(Hn:Bool),ld bP (ae (ae kg.a ((x8:Int).toNat*13)) 0)=some (.bool Hn)/\
 Br (!Hn)
 (∃tG,tG<n6/\aO [aj,aq,aw]/\aO [aj,aq,aw,aa,aa,aa,a2,a3,false]/\I5 tG ((ao (x8-1))) x8 bP)
 (∃tG,tG<n6/\aO [aj,aq,aw]/\aO [aj,aq,aw,aa,aa,aa,a2,a3,false]/\I5 tG ((ao (x8-1))) x9 bP)))
 (Br (x9<0)
 (R (Value.tuple #[(-1:Int),(8:Int)]) bP)
 (ah 107 #[a0,.agg #[aj,aq,aw,aa,aa,aa,a2,a3,false]] bP (Rb λVu bO=>K2 w w0 bP bO (
 Br (!Vu)
 (R (Value.tuple #[(-1:Int),(11:Int)]) bO)
 (∃(p16:Option Addr),ld bO.drew (ae (some a0) 0)=some (.pointer p16)/\
 ah 27 #[p16] bO.drew (Rv λv18 cL=>K2 w w0 bO.drew cL (
 af cL (aB w0) 0 [aj,aq,aw,aa,aa,aa,a2,a3,false]/\ah 70 #[.agg #[aj,aq,aw,aa,aa,aa,a2,a3,false]] cL (xF λdi db ef dG eU dY gg=>K2 w w0 cL gg (
 ah 46 #[v18,.agg #[di,db,ef,dG,eU,dY]] gg (Rb λEI fx=>K2 w w0 gg fx (
 Br EI
 (R (Value.tuple #[(-1:Int),(12:Int)]) fx)
 (∃(p28:Option Addr),ld fx.drew (ae (some a0) 0)=some (.pointer p28)/\
 ah 27 #[p28] fx.drew (Rv λv30 dW=>K2 w w0 fx.drew dW (
 af dW (aB w0) 0 [aj,aq,aw,aa,aa,aa,a2,a3,false]/\ah 70 #[.agg #[aj,aq,aw,aa,aa,aa,a2,a3,false]] dW (xF λic eL ie kI nh gI gf=>K2 w w0 dW gf (
 ah 49 #[v30,.agg #[ic,eL,ie,kI,nh,gI]] gf (Rb λb39 oD=>K2 w w0 gf oD (
 Sw oD w0 #[aj,aq,aw,aa,aa,aa,a2,a3,b39] λjP=>
 ∃(MB:Sl),ld jP.drew (ae (some a0) 2)=some (.slice MB.a MB.n MB.c)/\
 eA MB.a x9 MB.n/\(((ae MB.a ((x9:Int).toNat*13))).isSome=true/\Wr jP.drew (ae MB.a ((x9:Int).toNat*13)) 13)/\bz (ae MB.a ((x9:Int).toNat*13))≠some w.heap.size/\bz (ae MB.a ((x9:Int).toNat*13))≠some w0.heap.size/\(∀lj,lj=aL jP.drew (ae MB.a ((x9:Int).toNat*13)) [.bool true,aj,aq,aw,aa,aa,aa,a2,a3,b39,aa,aa,false]->
 R (Value.tuple #[x9,aa]) lj))))))))))))))))))))))):ah 53 #[a0,.agg #[aj,aq,aw],a2,a3] w R:=
 cq ⟨[(6,⟨[(12,.int .i64),(11,.int .i64)],[],[]⟩)],[],[]⟩ Tryz.func53 h
def Bm.vc{a0:Addr}(h:
 Aw w #[bA,bQ,bw] 28 λw0=>
 Aw w0 #[aa,aa,aa,aa,aa,aa] 77 λw1=>
 Br (a1<0)
 (Sw w1 w0 #[aa,aa,aa,aa,aa,aa] λw2=>
 R (Value.tuple #[.agg #[aa,aa,aa,aa,aa,aa],(6:Int)]) w2)
 (Br (a1>15)
 (Sw w1 w0 #[aa,aa,aa,aa,aa,aa] λw3=>
 R (Value.tuple #[.agg #[aa,aa,aa,aa,aa,aa],(6:Int)]) w3)
 (∃(s4:Sl),ld w1 (ae (some a0) 2)=some (.slice s4.a s4.n s4.c)/\
 eA s4.a (if 0>(if 15<a1 then 15 else a1) then 0 else (if 15<a1 then 15 else a1)) s4.n/\aP (dq (ae s4.a (((if 0>(if 15<a1 then 15 else a1) then 0 else (if 15<a1 then 15 else a1)):Int).toNat*13))) (∃(b5:Bool),ld w1 (ae (ae s4.a (((if 0>(if 15<a1 then 15 else a1) then 0 else (if 15<a1 then 15 else a1)):Int).toNat*13)) 0)=some (.bool b5)/\
 Br (!b5)
 (Sw w1 w0 #[aa,aa,aa,aa,aa,aa] λw6=>
 R (Value.tuple #[.agg #[aa,aa,aa,aa,aa,aa],(6:Int)]) w6)
 (∃(p7:Option Addr),ld w1.drew (ae (some a0) 0)=some (.pointer p7)/\
 ∃(s8:Sl),ld w1.drew (ae (some a0) 2)=some (.slice s8.a s8.n s8.c)/\
 eA s8.a a1 s8.n/\aP (dq (ae s8.a ((a1:Int).toNat*13))) (∃(x9 bj bu bV cn bI cw cH:Int)(ZF:Bool),af w1.drew (ae (ae s8.a ((a1:Int).toNat*13)) 1) 0 [x9,bj,bu,bV,cn,bI,cw,cH,ZF]/\
 (ah 27 #[p7] w1.drew (Rv λv19 dH=>K2 w w0 w1.drew dH (
 af dH w 0 [bA,bQ,bw]/\af dH (ae (ae s8.a ((a1:Int).toNat*13)) 1) 0 [x9,bj,bu,bV,cn,bI,cw,cH,ZF]/\af dH (ae (some a0) 2) 0 [s8]/\(ah 31 #[.agg #[x9,bj,bu,bV,cn,bI,cw,cH,ZF]] dH (iF λdb ef dG eW=>K2 w w0 dH eW (
 af eW w 0 [bA,bQ,bw]/\af eW (ae (some a0) 2) 0 [s8]/\(ah 87 #[v19,.agg #[db,ef,dG],.agg #[bA,bQ,bw],(5:Int)] eW (λe gl=>∃(dY fg fO gm gn jN:Int)(ZG:Bool),e=Value.tuple #[.agg #[dY,fg,fO,gm,gn,jN],ZG]/\K2 w w0 eW gl (
 af gl (ae (some a0) 2) 0 [s8]/\Aw gl #[aa,aa,aa,aa,aa,aa] 77 λni=>
 Sw ni gl #[dY,fg,fO,gm,gn,jN] λeT=>
 Br (!ZG)
 (Sw eT w0 #[aa,aa,aa,aa,aa,aa] λjf=>
 R (Value.tuple #[.agg #[aa,aa,aa,aa,aa,aa],(13:Int)]) jf)
 (Br (gm==(-1))
 (Sw eT w0 #[aa,aa,aa,aa,aa,aa] λkh=>
 R (Value.tuple #[.agg #[aa,aa,aa,aa,aa,aa],(11:Int)]) kh)
 (Sw eT w0 #[dY,fg,fO,gm,gn,jN] λkG=>
 R (Value.tuple #[.agg #[dY,fg,fO,gm,gn,jN],(0:Int)]) kG)))))/\(Aw eW #[aa,aa,aa,aa,aa,aa] 77 λgw=>
 ah 87 #[v19,.agg #[db,ef,dG],.agg #[bA,bQ,bw],(5:Int)] gw (λe oD=>∃(oh mP lC nj rU lD:Int)(Qo:Bool),e=Value.tuple #[.agg #[oh,mP,lC,nj,rU,lD],Qo]/\K3 w w0 eW gw oD (
 af oD (ae (some a0) 2) 0 [s8]/\Sw oD eW #[oh,mP,lC,nj,rU,lD] λqo=>
 Br (!Qo)
 (Sw qo w0 #[aa,aa,aa,aa,aa,aa] λlW=>
 R (Value.tuple #[.agg #[aa,aa,aa,aa,aa,aa],(13:Int)]) lW)
 (Br (nj==(-1))
 (Sw qo w0 #[aa,aa,aa,aa,aa,aa] λgj=>
 R (Value.tuple #[.agg #[aa,aa,aa,aa,aa,aa],(11:Int)]) gj)
 (Sw qo w0 #[oh,mP,lC,nj,rU,lD] λlq=>
 R (Value.tuple #[.agg #[oh,mP,lC,nj,rU,lD],(0:Int)]) lq))))))))/\(Aw dH #[aa,aa,aa,aa,aa,aa] 77 λmT=>
 ah 31 #[.agg #[x9,bj,bu,bV,cn,bI,cw,cH,ZF]] mT (iF λlh jA qp tH=>K3 w w0 dH mT tH (
 af tH w 0 [bA,bQ,bw]/\af tH (ae (some a0) 2) 0 [s8]/\ah 87 #[v19,.agg #[lh,jA,qp],.agg #[bA,bQ,bw],(5:Int)] tH (λe xk=>∃(sX oo wy qq lX vI:Int)(b62:Bool),e=Value.tuple #[.agg #[sX,oo,wy,qq,lX,vI],b62]/\K3 w w0 dH tH xk (
 af xk (ae (some a0) 2) 0 [s8]/\Sw xk dH #[sX,oo,wy,qq,lX,vI] λDq=>
 Br (!b62)
 (Sw Dq w0 #[aa,aa,aa,aa,aa,aa] λue=>
 R (Value.tuple #[.agg #[aa,aa,aa,aa,aa,aa],(13:Int)]) ue)
 (Br (qq==(-1))
 (Sw Dq w0 #[aa,aa,aa,aa,aa,aa] λEJ=>
 R (Value.tuple #[.agg #[aa,aa,aa,aa,aa,aa],(11:Int)]) EJ)
 (Sw Dq w0 #[sX,oo,wy,qq,lX,vI] λrT=>
 R (Value.tuple #[.agg #[sX,oo,wy,qq,lX,vI],(0:Int)]) rT))))))))))/\(Aw w1.drew #[aa,aa,aa,aa,aa,aa] 77 λjH=>
 ah 27 #[p7] jH (Rv λv69 uc=>K2 w w0 jH uc (
 uc.heap[w1.drew.heap.size]? =jH.heap[w1.drew.heap.size]?/\
 af uc w 0 [bA,bQ,bw]/\af uc (ae (ae s8.a ((a1:Int).toNat*13)) 1) 0 [x9,bj,bu,bV,cn,bI,cw,cH,ZF]/\af uc (ae (some a0) 2) 0 [s8]/\ah 31 #[.agg #[x9,bj,bu,bV,cn,bI,cw,cH,ZF]] uc (iF λoq nL nM ou=>K2 w w0 uc ou (
 ou.heap[w1.drew.heap.size]? =uc.heap[w1.drew.heap.size]?/\
 af ou w 0 [bA,bQ,bw]/\af ou (ae (some a0) 2) 0 [s8]/\ah 87 #[v69,.agg #[oq,nL,nM],.agg #[bA,bQ,bw],(5:Int)] ou (λe mU=>∃(ve yB Ho D8 AM tI:Int)(b81:Bool),e=Value.tuple #[.agg #[ve,yB,Ho,D8,AM,tI],b81]/\K2 w w0 ou mU (
 mU.heap[w1.drew.heap.size]? =ou.heap[w1.drew.heap.size]?/\
 af mU (ae (some a0) 2) 0 [s8]/\Sw mU w1.drew.heap.size #[ve,yB,Ho,D8,AM,tI] λw82=>
 Br (!b81)
 (Sw w82 w0 #[aa,aa,aa,aa,aa,aa] λw83=>
 R (Value.tuple #[.agg #[aa,aa,aa,aa,aa,aa],(13:Int)]) w83)
 (Br (D8==(-1))
 (Sw w82 w0 #[aa,aa,aa,aa,aa,aa] λMc=>
 R (Value.tuple #[.agg #[aa,aa,aa,aa,aa,aa],(11:Int)]) Mc)
 (Sw w82 w0 #[ve,yB,Ho,D8,AM,tI] λw85=>
 R (Value.tuple #[.agg #[ve,yB,Ho,D8,AM,tI],(0:Int)]) w85))))))))))))))):ah 63 #[a0,a1,.agg #[bA,bQ,bw]] w R:=
 cq bU Tryz.func63 h
def zB.vc{a0:Addr}(h:
 Aw w #[bA,bQ,bw] 28 λw0=>
 ah 63 #[a0,a1,.agg #[bA,bQ,bw]] w0 (λe w1=>∃(x2 x3 x4 x5 x6 x7 x8:Int),e=Value.tuple #[.agg #[x2,x3,x4,x5,x6,x7],x8]/\Kp w w0 w1/\
 Aw w1 #[aa,aa,aa,aa,aa,aa] 77 λw9=>
 Sw w9 w1 #[x2,x3,x4,x5,x6,x7] λbP=>
 Br (x8==6)
 (R x8 bP)
 (ah 111 #[a3] bP (Rb λb12 bg=>K2 w w1 bP bg (
 Br (!b12)
 (R (1:Int) bg)
 (Br (a3==0)
 (R (1:Int) bg)
 (Br (x8 !=0)
 (R x8 bg)
 (Br (x6<0)
 (R (12:Int) bg)
 (ah 112 #[.agg #[x2,x3,x4]] bg (λe bK=>∃(bI cw cH dh cA cu di db ef dG eU dY fg fO gm gn jN iD:Int),e=Value.agg #[bI,cw,cH,dh,cA,cu,di,db,ef,dG,eU,dY,fg,fO,gm,gn,jN,iD]/\K2 w w1 bg bK (
 Aw bK #[aa,aa,aa,aa,aa,aa,aa,aa,aa,aa,aa,aa,aa,aa,aa,aa,aa,aa] 186 λni=>
 Wt ni ⟨bK,0,none⟩ 18/\Nb bK w/\Nb bK w1/\(∀eT,eT=aL ni (aB bK) [bI,cw,cH,dh,cA,cu,di,db,ef,dG,eU,dY,fg,fO,gm,gn,jN,iD]->
 (0:Int)<=x6/\x6<((6:Nat):Int)/\∃(ie kI nh:Int),af eT (ae (aB bK) ((x6:Int).toNat*3)) 0 [ie,kI,nh]/\
 ah 60 #[a0,.agg #[ie,kI,nh],a3] eT (Ri λgk gw=>K2 w w1 eT gw (
 R gk gw)))))))))))))):ah 57 #[a0,a1,.agg #[bA,bQ,bw],a3] w R:=
 cq bU Tryz.func57 h
def Bn.vc{a0:Addr}(h:
 Aw w #[bA,bQ,bw] 28 λw0=>
 ah 63 #[a0,a1,.agg #[bA,bQ,bw]] w0 (λe w1=>∃(x2 x3 x4 x5 x6 x7 x8:Int),e=Value.tuple #[.agg #[x2,x3,x4,x5,x6,x7],x8]/\Kp w w0 w1/\
 Aw w1 #[aa,aa,aa,aa,aa,aa] 77 λw9=>
 Sw w9 w1 #[x2,x3,x4,x5,x6,x7] λbP=>
 Br (x8 !=0)
 (R (Value.tuple #[aa,x8]) bP)
 (ah 60 #[a0,.agg #[x2,x3,x4],(0:Int)] bP (Ri λbV bg=>K2 w w1 bP bg (
 Br (bV !=0)
 (R (Value.tuple #[aa,bV]) bg)
 (R (Value.tuple #[x5,aa]) bg)))))):ah 58 #[a0,a1,.agg #[bA,bQ,bw]] w R:=
 cq bU Tryz.func58 h
def xG.vc{c0:Addr}(h:
 Aw w #[aA,ar,au] 41 λw0=>
 ∃(p1:Option Addr),ld w0 (some c0)=some (.pointer p1)/\
 ah 67 #[p1,.agg #[aA,ar,au]] w0 (Rb λb3 w2=>Kp w w0 w2/\
 R b3 w2)):ah 120 #[.agg #[aA,ar,au],c0] w R:=
 cq bU Tryz.func120 h
def Bo.vc{a0:Addr}(h:
 Aw w #[a0] 23 λw0=>
 ∃I1:Nat->Int->Sl->World->Prop,
 (∃n2,aO [.pointer (some a0)]/\I1 n2 (0) ⟨none,0,0⟩ w0)/\
 ∀(n2:Nat)(us3:Nat->Value)(x4:Int)(s5:Sl)(w6:World),I1 n2 x4 s5 w6->
 Br (x4<16)
 (∃(s8:Sl),ld w6.drew (ae (some a0) 2)=some (.slice s8.a s8.n s8.c)/\
 eA s8.a x4 s8.n/\aP (dq (ae s8.a ((x4:Int).toNat*13))) (∃(b9:Bool),ld w6.drew (ae (ae s8.a ((x4:Int).toNat*13)) 0)=some (.bool b9)/\
 Br b9
 (∃(yN:Sl),ld w6.drew (ae (some a0) 2)=some (.slice yN.a yN.n yN.c)/\
 eA yN.a x4 yN.n/\aP (dq (ae yN.a ((x4:Int).toNat*13))) (∃(bu bV cn bI cw cH dh cA:Int)(b19:Bool),af w6.drew (ae (ae yN.a ((x4:Int).toNat*13)) 1) 0 [bu,bV,cn,bI,cw,cH,dh,cA,b19]/\
 ah 107 #[a0,.agg #[bu,bV,cn,bI,cw,cH,dh,cA,b19]] w6.drew (Rb λMC eW=>Kp w w6.drew eW/\
 af eW (ae (some a0) 2) 0 [yN]/\af eW w 0 [.pointer (some a0)]/\af eW (ae (ae s8.a ((x4:Int).toNat*13)) 0) 0 [.bool b9]/\af eW (ae (some a0) 2) 0 [s8]/\af eW w 0 [.pointer (some a0)]/\Br MC
 (Aw eW #[x4] 3 λdP=>
 ba 8 1 dP s5 1 [x4]/\∀(s23:Sl)(gl:World),aY 3 1 dP s5 1 [x4] s23 gl->K2 w eW dP gl (
 ∃n7,n7<n2/\aO [.pointer (some a0)]/\I1 n7 ((ao (x4+1))) s23 gl))
 (∃n7,n7<n2/\aO [.pointer (some a0)]/\I1 n7 ((ao (x4+1))) s5 eW))))
 (∃n7,n7<n2/\aO [.pointer (some a0)]/\I1 n7 ((ao (x4+1))) s5 w6.drew)))
 (∃I25:Nat->Int->Sl->World->Prop,
 (∃n26,aO [.pointer (some a0)]/\I25 n26 (0) ⟨none,0,0⟩ w6)/\
 ∀(n26:Nat)(aAx:Nat->Value)(gm:Int)(s29:Sl)(fE:World),I25 n26 gm s29 fE->
 Br (decide (gm<((s5.n:Nat):Int)))
 (∃(wA:Sl),ld fE.drew (ae (some a0) 2)=some (.slice wA.a wA.n wA.c)/\
 eA s5.a gm s5.n/\∃(eL:Int),ld fE.drew (ae s5.a ((gm:Int).toNat*1))=some (.int .i64 eL)/\
 eA wA.a eL wA.n/\∃(YZ:Bool)(kI nh gI gk oh mP lC nj:Int)(Qp:Bool)(lD pI:Int)(b46:Bool),af fE.drew (ae wA.a ((eL:Int).toNat*13)) 0 [.bool YZ,kI,nh,gI,gk,oh,mP,lC,nj,Qp,lD,pI,b46]/\
 Aw fE.drew #[false,aa,aa,aa,aa,aa,aa,aa,aa,false,aa,aa,false] 117 λlW=>
 Sw lW fE.drew.heap.size #[YZ,kI,nh,gI,gk,oh,mP,lC,nj,Qp,lD,pI,b46] λgj=>
 ∃(p49:Option Addr),ld gj.drew (ae (some a0) 0)=some (.pointer p49)/\
 ah 27 #[p49] gj.drew (Rv λv51 mT=>Kp w gj.drew mT/\mT.heap[fE.drew.heap.size]? =gj.drew.heap[fE.drew.heap.size]?/\
 af mT (dC fE.drew.heap.size 10) 0 [lD,pI,b46]/\af mT w 0 [.pointer (some a0)]/\af mT (dC fE.drew.heap.size 1) 0 [kI,nh,gI,gk,oh,mP,lC,nj,Qp]/\ah 116 #[.agg #[kI,nh,gI,gk,oh,mP,lC,nj,Qp],v51,.agg #[lD,pI,b46]] mT (λe Q4=>∃(jA qp lY sX oo wy qq lX:Int)(b61:Bool),e=Value.agg #[jA,qp,lY,sX,oo,wy,qq,lX,b61]/\Kp w mT Q4/\Q4.heap[fE.drew.heap.size]? =mT.heap[fE.drew.heap.size]?/\
 af Q4 w 0 [.pointer (some a0)]/\Aw Q4 #[jA,qp,lY,sX,oo,wy,qq,lX,b61] 70 λiH=>
 ba 72 9 iH s29 1 [jA,qp,lY,sX,oo,wy,qq,lX,b61]/\∀(s63:Sl)(ue:World),aY 70 9 iH s29 1 [jA,qp,lY,sX,oo,wy,qq,lX,b61] s63 ue->Kp w iH ue/\ue.heap[fE.drew.heap.size]? =iH.heap[fE.drew.heap.size]?/\Kp Q4 iH ue/\
 af ue w 0 [.pointer (some a0)]/\∃Vv,Vv<n26/\aO [.pointer (some a0)]/\I25 Vv ((ao (gm+1))) s63 ue)))
 (∃(p65:Option Addr),ld fE (ae (some a0) 0)=some (.pointer p65)/\
 ah 27 #[p65] fE (Rv λv67 rT=>Kp w fE rT/\
 ah 117 #[v67,s29] rT (Rs λs69 uc=>Kp w rT uc/\
 ∃I70:Nat->Int->World->Prop,
 (∃n71,aO [.pointer (some a0)]/\I70 n71 (0) uc)/\
 ∀(n71:Nat)(asU:Nat->Value)(nM:Int)(mU:World),I70 n71 nM mU->
 Br (decide (nM<((s5.n:Nat):Int)))
 (Br (decide (nM<((s69.n:Nat):Int)))
 (∃(ID:Sl),ld mU.drew (ae (some a0) 2)=some (.slice ID.a ID.n ID.c)/\
 eA s5.a nM s5.n/\∃(Ho:Int),ld mU.drew (ae s5.a ((nM:Int).toNat*1))=some (.int .i64 Ho)/\
 eA s69.a nM s69.n/\∃(D8 AM tI rP qt rV vJ vK:Int)(b86:Bool),af mU.drew (ae s69.a ((nM:Int).toNat*9)) 0 [D8,AM,tI,rP,qt,rV,vJ,vK,b86]/\
 eA ID.a Ho ID.n/\aP (dq (ae ID.a ((Ho:Int).toNat*13))) ((((ae (ae ID.a ((Ho:Int).toNat*13)) 1)).isSome=true/\Wr mU.drew (ae (ae ID.a ((Ho:Int).toNat*13)) 1) 9)/\bz (ae (ae ID.a ((Ho:Int).toNat*13)) 1)≠some w.heap.size/\(∀Cs,Cs=aL mU.drew (ae (ae ID.a ((Ho:Int).toNat*13)) 1) [D8,AM,tI,rP,qt,rV,vJ,vK,b86]->
 ∃n75,n75<n71/\aO [.pointer (some a0)]/\I70 n75 ((ao (nM+1))) Cs)))
 (∃(p88:Option Addr),ld mU (ae (some a0) 1)=some (.pointer p88)/\
 ah 118 #[p88,.func (.func 120) #[] #[w]] mU (λe pf=>e=po/\
 ∃(p90:Option Addr),ld pf (aB w)=some (.pointer p90)/\
 aP (dq p90) (aP (dq p90) (∃(p91:Option Addr),ld pf (ae p90 1)=some (.pointer p91)/\
 ah 119 #[p91] pf (λe w92=>∃(tJ:Int),e=tJ/\
 R tJ w92))))))
 (∃(p94:Option Addr),ld mU (ae (some a0) 1)=some (.pointer p94)/\
 ah 118 #[p94,.func (.func 120) #[] #[w]] mU (λe w95=>e=po/\
 ∃(p96:Option Addr),ld w95 (aB w)=some (.pointer p96)/\
 aP (dq p96) (aP (dq p96) (∃(p97:Option Addr),ld w95 (ae p96 1)=some (.pointer p97)/\
 ah 119 #[p97] w95 (λe Qq=>∃(Kv:Int),e=Kv/\
 R Kv Qq)))))))))):ah 65 #[a0] w R:=
 cq ⟨[(15,⟨[(9,.int .i64)],[],[]⟩),(9,⟨[(6,.int .i64),(4,.slice)],[],[]⟩),(4,⟨[(5,.int .i64),(3,.slice)],[],[]⟩)],[],[]⟩ Tryz.func65 h
def xH.vc{a0:Addr}(h:
 Aw w #[aa,.slice none 0 0,.slice none 0 0] 86 λw0=>
 ∃(p1:Option Addr),ld w0 (ae (some a0) 1)=some (.pointer p1)/\
 ah 68 #[p1] w0 (Ri λx3 w2=>Kp w w0 w2/\
 Aw w2 #[aa,.slice none 0 0,.slice none 0 0] 86 λw4=>
 Sw w4 w2 #[x3,.slice none 0 0,.slice none 0 0] λw5=>
 ∃I6:Nat->Int->Int->Sl->Sl->World->Prop,
 (∃n7,aO [aa,.slice none 0 0,.slice none 0 0]/\I6 n7 (0) x3 ⟨none,0,0⟩ ⟨none,0,0⟩ w5)/\
 ∀(n7:Nat)(us8:Nat->Value)(x9 bj:Int)(Ct kg:Sl)(bK:World),I6 n7 x9 bj Ct kg bK->
 Br (x9<16)
 (∃(lZ:Sl),ld bK (ae (some a0) 2)=some (.slice lZ.a lZ.n lZ.c)/\
 eA lZ.a x9 lZ.n/\aP (dq (ae lZ.a ((x9:Int).toNat*13))) (∃(b16:Bool),ld bK (ae (ae lZ.a ((x9:Int).toNat*13)) 0)=some (.bool b16)/\
 Br b16
 (∃(Hp:Sl),ld bK.drew (ae (some a0) 2)=some (.slice Hp.a Hp.n Hp.c)/\
 eA Hp.a x9 Hp.n/\aP (dq (ae Hp.a ((x9:Int).toNat*13))) (∃(cA cu di db ef dG eU dY:Int)(Hq:Bool),af bK.drew (ae (ae Hp.a ((x9:Int).toNat*13)) 1) 0 [cA,cu,di,db,ef,dG,eU,dY,Hq]/\
 Aw bK.drew #[x9,cA,cu,di,db,ef,dG,eU,dY,Hq] 164 λdX=>
 ba 80 10 dX Ct 1 [x9,cA,cu,di,db,ef,dG,eU,dY,Hq]/\∀(Q5:Sl)(dW:World),aY 164 10 dX Ct 1 [x9,cA,cu,di,db,ef,dG,eU,dY,Hq] Q5 dW->K2 w w2 dX dW (
 dW.heap[bK.drew.heap.size]? =dX.heap[bK.drew.heap.size]?/\
 af dW (ae (some a0) 2) 0 [Hp]/\Sw dW w2 #[bj,Q5,kg] λfE=>
 ∃HT,HT<n7/\aO [aa,.slice none 0 0,.slice none 0 0]/\I6 HT ((ao (x9+1))) bj Q5 kg fE)))
 (∃HT,HT<n7/\aO [aa,.slice none 0 0,.slice none 0 0]/\I6 HT ((ao (x9+1))) bj Ct kg bK)))
 (∃(p31:Option Addr),ld bK (ae (some a0) 1)=some (.pointer p31)/\
 ah 82 #[p31] bK (Rs λMD ni=>K2 w w2 bK ni (
 ∃I34:Nat->Int->Int->Sl->Sl->World->Prop,
 (∃ME,aO [aa,.slice none 0 0,.slice none 0 0]/\I34 ME (0) bj Ct kg ni)/\
 ∀(ME:Nat)(aAA:Nat->Value)(gI gk:Int)(Vw s40:Sl)(jw:World),I34 ME gI gk Vw s40 jw->
 Br (decide (gI<((MD.n:Nat):Int)))
 (eA MD.a gI MD.n/\aP (dq (ae MD.a ((gI:Int).toNat*4))) (∃(rU:Int),ld jw.drew (ae (ae MD.a ((gI:Int).toNat*4)) 0)=some (.int .i64 rU)/\
 eA MD.a gI MD.n/\aP (dq (ae MD.a ((gI:Int).toNat*4))) (∃(lD pI iz:Int),af jw.drew (ae (ae MD.a ((gI:Int).toNat*4)) 1) 0 [lD,pI,iz]/\
 Aw jw.drew #[rU,lD,pI,iz] 166 λlW=>
 ba 32 4 lW s40 1 [rU,lD,pI,iz]/\∀(TP:Sl)(lq:World),aY 166 4 lW s40 1 [rU,lD,pI,iz] TP lq->K2 w w2 lW lq (
 lq.heap[jw.drew.heap.size]? =lW.heap[jw.drew.heap.size]?/\
 Sw lq w2 #[gk,Vw,TP] λmT=>
 ∃n42,n42<ME/\aO [aa,.slice none 0 0,.slice none 0 0]/\I34 n42 ((ao (gI+1))) gk Vw TP mT))))
 (Sw jw w #[gk,Vw,s40] λtH=>
 R (Value.agg #[gk,Vw,s40]) tH)))))):ah 62 #[a0] w R:=
 cq ⟨[(9,⟨[(6,.int .i64)],[(1,[.int .i64,.slice,.slice])],[]⟩),(3,⟨[(4,.int .i64)],[(1,[.int .i64,.slice,.slice])],[]⟩)],[],[]⟩ Tryz.func62 h
open Go.cZ Go.aT Go.Code Go.fh Go.eH Go.gr
def uX(n:Int):Int:=min (max n (-2147483648)) 2147483648
def TG(n:Int):(if 2147483648<(if (-2147483648)>n then (-2147483648) else n) then 2147483648 else (if (-2147483648)>n then (-2147483648) else n))=uX n:=by
 unfold uX
 repeat' split
 all_goals omega
def Ha{n:Int}(h: -2147483648<=n/\n<=2147483648):uX n=n:=by unfold uX;omega
def Hb(c:Ce)(w:World):ah 160 #[eE c] w λe w'=>e=(eE (uX c.1,uX c.2.1,uX c.2.2))/\Ext w w':=by apply Yp.vc;intro w0 e0 w1 e1 w2 e2;rw [TG,TG,TG] at*;have x0:=aQ e0;have z0:=zA e0;have x1:=aQ e1;exact ⟨rfl,(x0.tr x1).ag e2 ab⟩
def Qa{c:Ce}(h:(-2147483648<=c.1/\c.1<=2147483648)/\(-2147483648<=c.2.1/\c.2.1<=2147483648)/\-2147483648<=c.2.2/\c.2.2<=2147483648)(w:World):ah 160 #[eE c] w λe w'=>e=(eE c)/\Ext w w':=by have:=Hb c w;rw [Ha h.1,Ha h.2.1,Ha h.2.2] at this;exact this
def TH(c:Ce)(w:World):ah 126 #[eE c] w λe w'=>e=(su (wO c))/\Ext w w':=by
 apply Yq.vc;intro w0 e0 w1 e1;have x0:=aQ e0;have z0:=zA e0;have x1:=aQ e1;have z1:=zA e1;refine (Hb c w1).mono ?_;rintro e w2 ⟨rfl,x2⟩;have z2:=x2.size;refine ⟨_,_,_,rfl,x2.heap ab,x2.heap ab,λw6 e6 w7 e7 w8 e8 w9 e9=> ?_⟩;have x7:Ext w2 w7:=(aQ e6).ag e7 (aC _);have z7:w7.heap.size=w2.heap.size+1:=by rw [zR e7,zA e6]
 have hb:∀n,-2147483648<=uX n/\uX n<=2147483648:=λn=>by unfold uX;omega
 have hof:∀n,ao (uX n*65536)=pD n:=λn=>by have:=hb n;rw [wI];rfl
 have x9:Ext w7 w9.drew:=((aQ e8).ag e9 (aC _)).drew;have z9:w9.drew.heap.size=w7.heap.size+1:=by show w9.heap.size=_;rw [zR e9,zA e8]
 rw [hof,hof,hof] at e9 ⊢;have r9:∃τ,Row w9.drew w7 (eg (pD c.1,pD c.2.1,pD c.2.2)) τ:=⟨_,by rw [e9,e8];exact (Row.set (Row.new w7 [_,_,_] _) [_,_,_]).ext (Ext.dr _)⟩;obtain ⟨τ,r9⟩:=r9;refine (Kd (pD c.1,pD c.2.1,pD c.2.2) (65536,65536,65536) w9.drew).mono ?_;rintro e bP ⟨rfl,bj⟩;have YS:=bj.size;exact ⟨_,_,_,rfl,bj.heap ab,bj.heap ab,bj.heap ab,bj.heap ab,Lo.wv (r9.ext bj),λbO vH=>⟨rfl,(x0.tr (x1.tr (x2.tr (x7.tr (x9.tr bj))))).ag vH ab⟩⟩
def Hc(m:Int):Prop:= -2000000000<=m/\m<=2000000000
def Iw(c:Ce)(k:Nat):LV:=((List.range 6).map λj=>if j<k then eg ((nX c).getD j (0,0,0)) else eg (0,0,0)).flatten
set_option maxHeartbeats 4000000 in
def Sc(c:Ce)(hc:eQ c)(w:World):ah 112 #[eE c] w λe w'=>e=Value.agg (DJ c).toArray/\Ext w w':=by
 apply TE.vc;intro w0 e0 w1 e1 w2 e2;have x0:=aQ e0;have z0:=zA e0;have x1:=aQ e1;have z1:=zA e1;have r1:∃τ,Row w1 w0 (Iw c 0) τ:=⟨_,by rw [e1];exact Row.new w0 (Iw c 0) _⟩;have x2:=aQ e2;have z2:=zA e2;have r2:∃τ,Row w2 w1 (Iw c 0) τ:=⟨_,by rw [e2];exact Row.new w1 (Iw c 0) _⟩;obtain ⟨τ,r1⟩:=r1;obtain ⟨τ',r2⟩:=r2;have hw:=hc;unfold eQ at hw;refine ⟨λn x wr=>∃k:Nat,x=k/\k+n=6/\Row wr w1 (Iw c k) τ'/\Row wr w0 (Iw c 0) τ/\Ext w wr/\w2.heap.size<=wr,⟨6,rfl,0,rfl,rfl,r2,r1.ext x2,x0.tr (x1.tr x2),aC _⟩,?_⟩;rintro n us x w7 ⟨k,rfl,hk,rk,rz,x7,z7⟩;apply Br.mk<;>intro hq
 ·have hq:=cU hq;refine (Qa (c:=c) ab w7).mono ?_;rintro e w9 ⟨rfl,x9⟩;have z9:=x9.size;refine ⟨_,_,_,rfl,x9.heap ab,λbK Hl bO vH=> ?_⟩;have bI:Ext w9 bO:=(aQ Hl).ag vH (aC _);have ZD:bO.heap.size=w9.heap.size+1:=by rw [zR vH,zA Hl]
  have last:∀{u:World} (d:Ce),d=(nX c).getD k (0,0,0)->((-2147483648<=d.1/\d.1<=2147483648)/\(-2147483648<=d.2.1/\d.2.1<=2147483648)/\-2147483648<=d.2.2/\d.2.2<=2147483648)->Ext w9 u->w9.heap.size+1=u.heap.size->
    ah 160 #[eE d] u λe v=>∃a b f:Int,e=Value.agg #[a,b,f]/\v.heap[w.heap.size]? =u.heap[w.heap.size]?/\v.heap[w9.heap.size]? =u.heap[w9.heap.size]?/\
     (0:Int)<=(k:Int)/\(k:Int)<((6:Nat):Int)/\(true=true/\Wr v (ae (aB w1.heap.size) ((k:Int).toNat*3)) 3)/\bz (ae (aB w1.heap.size) ((k:Int).toNat*3))≠some w.heap.size/\bz (ae (aB w1.heap.size) ((k:Int).toNat*3))≠some w9.heap.size/\
     ∀dX:World,dX=Vc.aL v (ae (aB w1.heap.size) ((k:Int).toNat*3)) [a,b,f]->∃n8,n8<n/\aO [c.1,c.2.1,c.2.2]/\
      ∃k':Nat,ao ((k:Int)+1)=k'/\k'+n8=6/\Row dX w1 (Iw c k') τ'/\Row dX w0 (Iw c 0) τ/\Ext w dX/\w2.heap.size<=dX:=by
   intro u d hd hdb xu zu;refine (Qa hdb u).mono ?_;rintro e v ⟨rfl,xv⟩;have zv:=xv.size;have rv:=rk.ext (x9.tr (xu.tr xv));rw [dQ];obtain ⟨p1,p2⟩:=mz rv (off:=k*3) (vs:=eg d) (by
    have:k=0\/k=1\/k=2\/k=3\/k=4\/k=5:=by omega
    rcases this with rfl|rfl|rfl|rfl|rfl|rfl<;>(show _+3<=18;decide)) (B8 d)
   have hpb:bz (ae (aB w1.heap.size) (k*3))=some w1.heap.size:=by rw [bh];rfl
   refine ⟨_,_,_,rfl,xv.heap ab,xv.heap ab,by omega,by omega,⟨rfl,p1⟩,by rw [hpb];intro q;injection q with q;omega,by rw [hpb];intro q;injection q with q;omega,λdX e27=> ?_⟩;obtain ⟨q1,q2⟩:=p2 dX e27;have zq:=q2.size;refine ⟨n-1,by omega,rfl,k+1,by rw [wI];omega,by omega,?_,(rz.ext (x9.tr (xu.tr xv))).same (q2.same _ ab ab),q2.ext (x7.tr (x9.tr (xu.tr xv))) (λi hi=>by omega),by omega⟩;have:aS (Iw c k) (k*3) (eg d)=Iw c (k+1):=by
    rw [hd];have:k=0\/k=1\/k=2\/k=3\/k=4\/k=5:=by omega
    rcases this with rfl|rfl|rfl|rfl|rfl|rfl<;>rfl
   rw [<-this];exact q1
  have m1:∀m:Int,Hc m->ao (m+(-1))=m-1:=λm hm=>by rw [aK (by unfold Hc at hm;unfold bN;omega)];omega
  have p1:∀m:Int,Hc m->ao (m+1)=m+1:=λm hm=>by rw [aK (by unfold Hc at hm;unfold bN;omega)]
  have hx:Hc c.1:=hc.1;have hy:Hc c.2.1:=hc.2.1;have hz:Hc c.2.2:=hc.2.2;have by0:ao (ao (2*Int.tmod 0 2)-1)= -1:=by decide
  have by1:ao (ao (2*Int.tmod 1 2)-1)=1:=by decide
  have hk6:k=0\/k=1\/k=2\/k=3\/k=4\/k=5:=by omega
  rcases hk6 with rfl|rfl|rfl|rfl|rfl|rfl
  ·refine yes aF λdB pN=>fP aF (fP aF ?_)
   have hb:ao (c.1+ao (ao (2*Int.tmod ((0:Nat):Int) 2)-1))=c.1-1:=by rw [show ao (ao (2*Int.tmod ((0:Nat):Int) 2)-1)= -1 from by decide];exact m1 _ hx
   rw [hb] at pN ⊢;exact last (c.1-1,c.2.1,c.2.2) rfl (by simp only;omega) (bI.ag pN (aC _)) (by rw [zR pN];omega)
  ·refine yes aF λdB pN=>fP aF (fP aF ?_)
   have hb:ao (c.1+ao (ao (2*Int.tmod ((1:Nat):Int) 2)-1))=c.1+1:=by rw [show ao (ao (2*Int.tmod ((1:Nat):Int) 2)-1)=1 from by decide];exact p1 _ hx
   rw [hb] at pN ⊢;exact last (c.1+1,c.2.1,c.2.2) rfl (by simp only;omega) (bI.ag pN (aC _)) (by rw [zR pN];omega)
  ·refine fP aF (yes aF λdB pN=>fP aF ?_);have hb:ao (c.2.1+ao (ao (2*Int.tmod ((2:Nat):Int) 2)-1))=c.2.1-1:=by rw [show ao (ao (2*Int.tmod ((2:Nat):Int) 2)-1)= -1 from by decide];exact m1 _ hy
   rw [hb] at pN ⊢;exact last (c.1,c.2.1-1,c.2.2) rfl (by simp only;omega) (bI.ag pN (aC _)) (by rw [zR pN];omega)
  ·refine fP aF (yes aF λdB pN=>fP aF ?_);have hb:ao (c.2.1+ao (ao (2*Int.tmod ((3:Nat):Int) 2)-1))=c.2.1+1:=by rw [show ao (ao (2*Int.tmod ((3:Nat):Int) 2)-1)=1 from by decide];exact p1 _ hy
   rw [hb] at pN ⊢;exact last (c.1,c.2.1+1,c.2.2) rfl (by simp only;omega) (bI.ag pN (aC _)) (by rw [zR pN];omega)
  ·refine fP aF (fP aF (yes aF λdB pN=> ?_));have hb:ao (c.2.2+ao (ao (2*Int.tmod ((4:Nat):Int) 2)-1))=c.2.2-1:=by rw [show ao (ao (2*Int.tmod ((4:Nat):Int) 2)-1)= -1 from by decide];exact m1 _ hz
   rw [hb] at pN ⊢;exact last (c.1,c.2.1,c.2.2-1) rfl (by simp only;omega) (bI.ag pN (aC _)) (by rw [zR pN];omega)
  ·refine fP aF (fP aF (yes aF λdB pN=> ?_));have hb:ao (c.2.2+ao (ao (2*Int.tmod ((5:Nat):Int) 2)-1))=c.2.2+1:=by rw [show ao (ao (2*Int.tmod ((5:Nat):Int) 2)-1)=1 from by decide];exact p1 _ hz
   rw [hb] at pN ⊢;exact last (c.1,c.2.1,c.2.2+1) rfl (by simp only;omega) (bI.ag pN (aC _)) (by rw [zR pN];omega)
 ·have hq:=cU hq;have:k=6:=by omega
  subst this;have rk:Row w7 w1 (DJ c) τ':=rk;have we:One (DJ c):=FZ c;obtain ⟨p1,p2⟩:=mz rz (off:=0) (vs:=DJ c) (by show 0+18<=18;decide) we;refine ⟨_,_,_,_,_,_,_,_,_,_,_,_,_,_,_,_,_,_,Lo.wv rk,⟨rfl,p1⟩,?_,λvL e80=> ?_⟩
  ·intro q;have q:some w0.heap.size=some w.heap.size:=q;injection q with q;omega
  obtain ⟨q1,q2⟩:=p2 vL e80;have q1:Row vL w0 (DJ c) τ:=q1;exact ⟨_,_,_,_,_,_,_,_,_,_,_,_,_,_,_,_,_,_,Lo.wv q1,rfl,q2.ext x7 λi hi=>by omega⟩
abbrev iE:=Bool × dS
abbrev ki(r:iE):LV:=[.bool r.1,.int .i64 r.2.1.aD.1,.int .i64 r.2.1.aD.2.1,.int .i64 r.2.1.aD.2.2,.int .i64 r.2.1.speed.1,.int .i64 r.2.1.speed.2.1,.int .i64 r.2.1.speed.2.2,.int .i64 r.2.1.wd,.int .i64 r.2.1.ht,.bool r.2.1.ir,.int .i64 r.2.2.1,.int .i64 r.2.2.2.1,.bool r.2.2.2.2]
def ai(r:iE):Option dS:=if r.1 then some r.2 else none
def MF(F:Nat->Prop)(w:World)(m s o t:Nat)(M:Sm)(occ:Value)(rows:List iE):Prop:=
 ∃(Fs:Nat->Prop)(b:Nat),Row w m [o,s,.slice (aB b) 16 16] uz/\SF Fs w s o t M occ/\Row w b (rows.map ki).flatten CR/\rows.length=16/\F=λi=>i=m\/i=b\/Fs i
abbrev ln(F:Nat->Prop)(w:World)(m s o t:Nat)(M:Sm)(occ:Value)(rows:List iE)(w':World):Prop:=∃F',MF F' w' m s o t M occ rows/\aM F F' w w'
def N2{w:World}{p:Option Addr}{v:Value}(h:Vc.ld w p=some v):af w p 0 [v]:=mI λj hj=>by
 have:j=0:=by simpa using hj
 subst this;have e:ae p (0+0)=p:=by
  cases p with
  |none=>rfl
  |some a=>obtain ⟨b,o,k⟩:=a;cases k<;>simp [ae,Addr.add]
 rw [e];exact h
def nG:(E8 uz/\uz≠sm/\uz≠kR/\uz≠Bp/\uz≠Q.ku/\uz≠Q.cJ/\uz≠qL)/\(E8 CR/\CR≠sm/\CR≠kR/\CR≠Bp/\CR≠Q.ku/\CR≠Q.cJ/\CR≠qL)/\uz≠CR:=by decide
def ai3(r:iE):One (ki r):=by intro u hu;simp at hu;rcases hu with rfl|rfl|rfl|rfl|rfl|rfl|rfl|rfl|rfl|rfl|rfl|rfl|rfl<;>rfl
def uh{w:World}{b:Nat}{rows:List iE}(hr:Row w b (rows.map ki).flatten CR)(hn:rows.length=16):RdK w ⟨aB b,16,16⟩ 13 (rows.map ki):=by
 have hl:(rows.map ki).flatten.length=16*13:=by
  have:=bJ (k:=13) (rows:=rows.map ki) λr hr=>by obtain ⟨x,-,rfl⟩:=aW.1 hr;rfl
  rw [this,aN,hn]
 exact (aE.jI (B:=0) (k:=13) (n:=16) (c:=16) (g7 _) hr ab (aC _) (by rw [fN ab]) λr hr=>by obtain ⟨x,-,rfl⟩:=aW.1 hr;rfl).rd aF
section
variable {F F':Nat->Prop} {w w':World} {m s o t:Nat} {M M':Sm} {occ:Value} {rows:List iE}
def MF.lt(h:MF F w m s o t M occ rows){i:Nat}(hi:F i):i<w:=by
 obtain ⟨Fs,b,h1,h2,h3,-,rfl⟩:=h;rcases hi with rfl|rfl|hi
 ·exact h1.lt
 ·exact h3.lt
 ·exact h2.lt hi
def MF.same(h:MF F w m s o t M occ rows)(hk:∀i,F i->w'.heap[i]? =w.heap[i]?):MF F w' m s o t M occ rows:=by obtain ⟨Fs,b,h1,h2,h3,h4,rfl⟩:=h;exact ⟨Fs,b,h1.same (hk _ (.inl rfl)),h2.same λi hi=>hk i (.inr (.inr hi)),h3.same (hk _ (.inr (.inl rfl))),h4,rfl⟩
def MF.ext(h:MF F w m s o t M occ rows)(x:Ext w w'):MF F w' m s o t M occ rows:=h.same λ_ hi=>x.heap (h.lt hi)
def MF.res(h:MF F w m s o t M occ rows)(x:Ext w w'):ln F w m s o t M occ rows w':=⟨F,h.ext x,aM.aH x⟩
def ln.aH{w0:World}(x:Ext w w0)(h:ln F w0 m s o t M occ rows w'):ln F w m s o t M occ rows w':=by obtain ⟨F',h1,h2⟩:=h;exact ⟨F',h1,(aM.aH x).trans h2⟩
def MF.ud(h:MF F w m s o t M occ rows):∃Fs,SF Fs w s o t M occ/\Vc.ld w (ae (aB m) 1)=some (.pointer (aB s))/\Vc.ld w (ae (aB m) 0)=some (.pointer (aB o))/\(∀i,Fs i->F i)/\∀{w':World} {M':Sm} {occ':Value},mB Fs w s o t M' occ' w'->ln F w m s o t M' occ' rows w':=by
 obtain ⟨Fs,b,h1,h2,h3,h4,rfl⟩:=h;refine ⟨Fs,h2,h1.at 1 rfl,h1.at 0 rfl,λi hi=> .inr (.inr hi),?_⟩;rintro w' M' occ' ⟨F',h',ht⟩;have nm:¬Fs m:=h2.j9 h1 nG.1.1 nG.1.2.1 nG.1.2.2.1 nG.1.2.2.2.1 nG.1.2.2.2.2.1 nG.1.2.2.2.2.2.1 nG.1.2.2.2.2.2.2;have nb:¬Fs b:=h2.j9 h3 nG.2.1.1 nG.2.1.2.1 nG.2.1.2.2.1 nG.2.1.2.2.2.1 nG.2.1.2.2.2.2.1 nG.2.1.2.2.2.2.2.1 nG.2.1.2.2.2.2.2.2;refine ⟨_,⟨F',b,ht.mod.row h1 nm,h',ht.mod.row h3 nb,h4,rfl⟩,ht.mod.mono λi _ hi=> .inr (.inr hi),λi hi=> ?_⟩;rcases hi with hi|hi|hi
 ·exact .inl (.inl hi)
 ·exact .inl (.inr (.inl hi))
 ·exact (ht.sub i hi).imp (λq=> .inr (.inr q)) id
def MF.KD(h:MF F w m s o t M occ rows):∃b,Row w m [o,s,.slice (aB b) 16 16] uz/\Row w b (rows.map ki).flatten CR/\rows.length=16/\F m/\F b/\m≠b/\∀{w':World} {rows':List iE},Mod (λi=>i=b) w w'->Row w' b (rows'.map ki).flatten CR->rows'.length=16->ln F w m s o t M occ rows' w':=by obtain ⟨Fs,b,h1,h2,h3,h4,rfl⟩:=h;have hmb:m≠b:=h1.ne h3 nG.2.2;refine ⟨b,h1,h3,h4,.inl rfl,.inr (.inl rfl),hmb,?_⟩;intro w' rows' hm hr hn;have nb:¬Fs b:=h2.j9 h3 nG.2.1.1 nG.2.1.2.1 nG.2.1.2.2.1 nG.2.1.2.2.2.1 nG.2.1.2.2.2.2.1 nG.2.1.2.2.2.2.2.1 nG.2.1.2.2.2.2.2.2;exact ⟨_,⟨Fs,b,hm.row h1 hmb,h2.same λi hi=>hm.same i (h2.lt hi) λq=>nb (q▸hi),hr,hn,rfl⟩,hm.mono λi _ hi=> .inr (.inl hi),λi hi=> .inl hi⟩
def MF.tl(h:MF F w m s o t M occ rows):Tl (.func (.func 83) #[t] #[]) (fj M.T.2) w:=by obtain ⟨Fs,h1,-⟩:=h.ud;exact h1.tl
def ZO(r:iE):(ki r)[0]? =some (.bool r.1):=rfl
def mlB(r:iE):∀j,j<(jO r.2.1).length->(ki r)[1+j]? =(jO r.2.1)[j]? :=λj hj=>by
 have hj:j<9:=hj
 have:j=0\/j=1\/j=2\/j=3\/j=4\/j=5\/j=6\/j=7\/j=8:=by omega
 rcases this with rfl|rfl|rfl|rfl|rfl|rfl|rfl|rfl|rfl<;>rfl
def CL(h:MF F w m s o t M occ rows)(b:ee):ah 107 #[m,Er b] w λe w'=>e=Value.bool (kT M b)/\Ext w w':=by
 apply zy.vc;intro w0 e0;have x0:Ext w w0.drew:=(aQ e0).drew;have z0:w0.drew.heap.size=w.heap.size+1:=by show w0.heap.size=_;exact zA e0
 obtain ⟨Fs,h1,-,h2,-⟩:=(h.ext x0).ud;refine ⟨_,h2,(abO b.aD w0.drew).mono ?_⟩;rintro e w2 ⟨rfl,x2⟩;have z2:=x2.size;obtain ⟨Fs,h1,-,h2,-⟩:=(h.ext (x0.tr x2)).ud;obtain ⟨Fw,hW,-,-⟩:=h1.world;refine ⟨_,_,_,rfl,x2.heap ab,N2 h2,(uo hW (bq b.aD) (zS _).1 (zS _).2).mono ?_⟩;rintro e w6 ⟨rfl,x6⟩;exact ⟨_,rfl,x6.heap ab,rfl,x0.tr (x2.tr x6)⟩
set_option maxHeartbeats 1000000 in
def Pf{b:Nat}(hm:Row w m [o,s,.slice (aB b) 16 16] uz)(hr:Row w b (rows.map ki).flatten CR)(hn:rows.length=16){n:Int}(hL:q9 n (rows.map ai))(c:Ce):
  ah 67 #[m,eE c] w λe w'=>e=Value.bool (rf (rows.map ai) c)/\Ext w w':=by
 apply Bj.vc;intro w0 e0;have x0:=aQ e0;have z0:=zA e0;have r0:∃τ,Row w0 w (eg c) τ:=⟨_,by rw [e0];exact Row.new w [_,_,_] _⟩;obtain ⟨τ,r0⟩:=r0;refine ⟨λn x wr=>∃k:Nat,x=k/\k+n=16/\Ext w0 wr/\∀j,j<k->∀y,(rows.map ai)[j]? =some y->FO c y=false,⟨16,rfl,0,rfl,rfl,Ext.cM _,λj hj=>by omega⟩,?_⟩;rintro n1 us x w5 ⟨k,rfl,hk,x5,mO⟩;apply Br.mk<;>intro hq
 ·have hq:=cU hq;obtain ⟨r,MA⟩:=bE (l:=rows) (i:=k) ab;have hi:(rows.map ki)[k]? =some (ki r):=by rw [aR,MA];rfl
  have hl:(rows.map ai)[k]? =some (ai r):=by rw [aR,MA];rfl
  have xd:=x0.tr (x5.tr (Ext.dr w5));have ldm:∀{u:World},Ext w u->Vc.ld u (ae (aB m) 2)=some (.slice (aB b) 16 16):=λxu=>(hm.ext xu).at 2 rfl
  have rk:∀{u:World},Ext w u->RdK u ⟨aB b,16,16⟩ 13 (rows.map ki):=λxu=>uh (hr.ext xu) hn
  have z5:=x5.size;have wk:=nS (j:=k);have next:FO c (ai r)=false->∀{u:World},Ext w0 u->∃n6,n6<n1/\aO [c.1,c.2.1,c.2.2]/\∃k':Nat,ao ((k:Int)+1)=k'/\k'+n6=16/\Ext w0 u/\∀j,j<k'->∀y,(rows.map ai)[j]? =some y->FO c y=false:=λhm {u} xu=>by
   refine ⟨n1-1,by omega,rfl,k+1,wk,by omega,xu,λj hj z hz=> ?_⟩;by_cases q:j<k
   ·exact mO j q z hz
   ·rw [show j=k from by omega,hl] at hz;rw [<-Option.some.inj hz];exact hm
  refine ⟨⟨aB b,16,16⟩,ldm xd,(rk xd).im (i:=(k:Int)) aF ab (by show (k:Int)<((16:Nat):Int);omega),fT rfl ⟨r.1,(rk xd).at hi (ZO r),Br.mk (λhb=> ?_) (λhb=>next (by unfold ai;rw [hb];rfl) (x5.tr (Ext.dr w5)))⟩⟩;have AX:ai r=some r.2:=by unfold ai;rw [if_pos hb]
  have okr:=hL r.2 (by rw [<-AX];exact aX hl);refine ⟨⟨aB b,16,16⟩,ldm xd,(rk xd).im (i:=(k:Int)) aF ab (by show (k:Int)<((16:Nat):Int);omega),fT rfl ⟨_,_,_,_,_,_,_,_,_,kB (rk xd) hi (mlB r),(Be r.2.1 okr.wdi w5.drew).mono ?_⟩⟩;rintro e gg ⟨rfl,cu⟩;have z19:=cu.size;have zd:=lE w5;have HP:=xd.tr cu;have bl:∀{u:World},Ext w u->af u (ae (ae (aB b) ((k:Int).toNat*13)) 0) 0 [.bool r.1]:=λxu=>N2 ((rk xu).at hi (ZO r))
  refine ⟨_,_,_,_,_,_,rfl,cu.heap ab,Lo.wv (r0.ext (x5.tr ((Ext.dr w5).tr cu))),N2 (ldm HP),bl HP,N2 (ldm HP),(TH c gg).mono ?_⟩;rintro e fx ⟨rfl,fg⟩;have z26:=fg.size;have IA:=HP.tr fg;refine ⟨_,_,_,_,_,_,rfl,fg.heap ab,N2 (ldm IA),bl IA,N2 (ldm IA),(PK r.2.1.box (wO c) fx).mono ?_⟩;rintro e eT ⟨rfl,eL⟩;have Mn:=IA.tr eL;have hme:FO c (ai r)=jc r.2.1.box (wO c):=by rw [AX];rfl
  refine ⟨_,rfl,eL.heap ab,N2 (ldm Mn),bl Mn,N2 (ldm Mn),Br.mk (λhm=>⟨?_,Mn⟩) (λhm=>next (by rw [hme];exact hm) (x5.tr ((Ext.dr w5).tr (cu.tr (fg.tr eL)))))⟩;have:rf (rows.map ai) c=true:=List.any_eq_true.2 ⟨_,aX hl,by rw [hme];exact hm⟩;rw [this]
 ·have hq:=cU hq;refine ⟨?_,x0.tr x5⟩;have:rf (rows.map ai) c=false:=List.any_eq_false.2 λy hy=>by obtain ⟨j,hj⟩:=Nd.1 hy;have:=(cG.1 hj).1;rw [aN] at this;rw [mO j ab y hj];decide
  rw [this]
end
def Gx(v:Ce)(m:Int):within v m=(List.range 3).all λi=>decide (-m<=dA v i) && decide (dA v i<=m):=by
 have e0:dA v ((0:Nat):Int)=v.1:=rfl;have e1:dA v ((1:Nat):Int)=v.2.1:=rfl;have e2:dA v ((2:Nat):Int)=v.2.2:=rfl;have:(List.range 3).all (λi=>decide (-m<=dA v i) && decide (dA v i<=m))=((decide (-m<=v.1) && decide (v.1<=m)) &&((decide (-m<=v.2.1) && decide (v.2.1<=m)) &&(decide (-m<=v.2.2) && decide (v.2.2<=m)))):=by rw [<-e0,<-e1,<-e2];simp [wQ]
 rw [this];unfold within;rw [Bool.eq_iff_iff];simp only [fk,cN];omega
def wZ(v:Ce)(m:Int)(hm:0<=m/\m<=140737488355328)(w:World):ah 157 #[eE v,m] w λe w'=>e=Value.bool (within v m)/\Ext w w':=by
 apply LB.vc;intro w0 e0;have x0:=aQ e0;have z0:=zA e0;have hw:ao (0-m)= -m:=by rw [wI];omega
 refine ⟨λn x wr=>∃k:Nat,x=k/\k+n=3/\Ext w0 wr/\∀j,j<k-> -m<=dA v (j:Nat)/\dA v (j:Nat)<=m,⟨3,rfl,0,rfl,rfl,Ext.cM _,λj hj=>by omega⟩,?_⟩;rintro n us x w5 ⟨k,rfl,hk,x5,rO⟩;have z5:=x5.size;apply Br.mk<;>intro hq
 ·have hq:=cU hq;refine (SZ v k w5).mono ?_;rintro e w7 ⟨rfl,x7⟩;have bad:¬(-m<=dA v (k:Nat)/\dA v (k:Nat)<=m)->within v m=false:=λh=>by rw [Gx];refine List.all_eq_false.2 ⟨k,nt.2 ab,?_⟩;simp only [fk,cN];exact h
  refine ⟨_,rfl,x7.heap ab,?_⟩;rw [hw];refine Br.mk (λh=> ?_) (λh=>Br.mk (λh2=> ?_) (λh2=> ?_))
  ·rw [bad (by
    have h:=cU h;omega)]
   exact ⟨rfl,x0.tr (x5.tr x7)⟩
  ·rw [bad (by
    have h2:=cU h2;omega)]
   exact ⟨rfl,x0.tr (x5.tr x7)⟩
  ·have h:=cU h;have h2:=cU h2;refine ⟨n-1,by omega,rfl,k+1,by rw [wI];omega,by omega,x5.tr x7,λj hj=> ?_⟩;by_cases q:j<k
   ·exact rO j q
   ·rw [show j=k from by omega];omega
 ·have hq:=cU hq;have:within v m=true:=by
   rw [Gx];refine CG.2 λj hj=> ?_
   have:=rO j (by have:=nt.1 hj;omega);simp only [fk,cN];exact this
  rw [this];exact ⟨rfl,x0.tr x5⟩
def VX(b:ee)(w:World):ah 106 #[Er b] w λe w'=>e=Value.bool b.may/\Ext w w':=by
 apply Xx.vc;intro w0 e0;have x0:=aQ e0;have z0:=zA e0;refine (wZ b.aD _ aF w0).mono ?_;rintro e w1 ⟨rfl,x1⟩;have z1:=x1.size;refine ⟨_,rfl,x1.heap ab,(wZ b.speed _ aF w1).mono ?_⟩;rintro e w3 ⟨rfl,x3⟩;have Cc:=x0.tr (x1.tr x3);refine ⟨_,rfl,x3.heap ab,?_⟩;unfold ee.may;generalize within b.aD 70368744177664=p;generalize within b.speed 262144=q;refine Br.mk (λh1=>Br.mk (λh2=>Br.mk (λh3=>Br.mk (λh4=>Br.mk (λh5=> ?_) (λh5=> ?_)) (λh4=> ?_)) (λh3=> ?_)) (λh2=> ?_)) (λh1=> ?_)
 ·have h3:=cU h3;have h4:=cU h4;have h5:=cU h5;rw [h1,h2,decide_eq_true (show 2<=b.wd from h3),decide_eq_true h4,decide_eq_true (show 1<=b.ht from h5)];exact ⟨by simp,Cc⟩
 ·have h5:=cU h5;rw [decide_eq_false (show ¬1<=b.ht from h5)];exact ⟨by simp,Cc⟩
 ·have h4:=cU h4;rw [decide_eq_false h4];exact ⟨by simp,Cc⟩
 ·have h3:=cU h3;rw [decide_eq_false (show ¬2<=b.wd from h3)];exact ⟨by simp,Cc⟩
 ·rw [h2];exact ⟨by simp,Cc⟩
 ·rw [h1];exact ⟨by simp,Cc⟩
section
variable {F F':Nat->Prop} {w w':World} {m s o t:Nat} {M M':Sm} {occ:Value} {rows:List iE}
def ln.de{k:Nat}{w0:World}(x:Ext w w0)(hk:w.heap.size<=k)(hk0:k<w0)(h0:∀i,F i->i<w.heap.size){M':Sm}{occ':Value}{r':List iE}(r:ln F w0 m s o t M' occ' r' w'):w'.heap[k]? =w0.heap[k]? :=by obtain ⟨F',-,h2⟩:=r;exact h2.mod.same _ hk0 λq=>by have:=h0 _ q;omega
def xp(h:MF F w m s o t M occ rows){n:Int}(hL:q9 n (rows.map ai))(c:Ce)(hc:eQ c)(b:Int)(hk:qQ M 800000):ah 60 #[m,eE c,b] w λe w'=>e=Value.int .i64 (dT M (rows.map ai) c b).1/\ln F w m s o t (dT M (rows.map ai) c b).2 occ rows w':=by
 apply Bk.vc;intro w0 e0;have x0:=aQ e0;have z0:=zA e0;have inner:∀{u:World},Ext w0 u->¬(aG b=true/\rf (rows.map ai) c=true)->∃p:Option Addr,Vc.ld u (ae (aB m) 1)=some (.pointer p)/\
   ah 113 #[p,eE c,b] u λe w6=>∃x7:Int,e=x7/\w6.heap[w.heap.size]? =u.heap[w.heap.size]?/\Ending.returned x7=Value.int .i64 (dT M (rows.map ai) c b).1/\ln F w m s o t (dT M (rows.map ai) c b).2 occ rows w6:=by
  intro u xu hn;have hu:=h.ext (x0.tr xu);have zu:=xu.size;obtain ⟨Fs,hs,kf,-,eX,bk⟩:=hu.ud;refine ⟨_,kf,(yj hs c hc b hk).mono ?_⟩;rintro e w6 ⟨rfl,hr⟩;have hk6:w6.heap[w.heap.size]? =u.heap[w.heap.size]? :=by obtain ⟨F6,-,t6⟩:=hr;exact t6.mod.same _ ab λq=>by have:=h.lt (eX _ q);omega
  unfold dT;rw [if_neg hn];exact ⟨_,rfl,hk6,rfl,ln.aH (x0.tr xu) (bk hr)⟩
 refine (BZ b w0).mono ?_;rintro e w1 ⟨rfl,Zk⟩;subst Zk;refine ⟨_,rfl,rfl,Br.mk (λhb=> ?_) (λhb=>inner (Ext.dr _) λq=>by rw [hb] at q;cases q.1)⟩;obtain ⟨b',hm,hr,hn,-⟩:=(h.ext x0).KD;refine (Pf hm hr hn hL c).mono ?_;rintro e w3 ⟨rfl,x3⟩;have z3:=x3.size;refine ⟨_,rfl,x3.heap ab,Br.mk (λhq=> ?_) (λhq=> ?_)⟩
 ·unfold dT;rw [if_pos ⟨hb,hq⟩];exact ⟨rfl,h.res (x0.tr x3)⟩
 ·exact inner (x3.tr (Ext.dr _)) λq=>by rw [hq] at q;cases q.2
def mi{n:Int}{k:Nat}(e:n=k){r:iE}(h:rows[k]? =some r):cj (rows.map ai) n=ai r:=by subst e;unfold cj;rw [if_pos ab,dQ,aR,h];rfl
end
section
variable {F F':Nat->Prop} {w w':World} {m s o t:Nat} {M M':Sm} {occ:Value} {rows:List iE}
def P5(hn:rows.length=16){n:Int}(h:¬(0<=n/\n<16)):cj (rows.map ai) n=none:=vz (by rw [aN];exact hn) h
set_option maxHeartbeats 4000000 in
def xq(h:MF F w m s o t M occ rows){n:Int}(hL:q9 n (rows.map ai))(hn:n<=99970000000000)(i:Int)(c9:Ce):
  ah 63 #[m,i,eE c9] w λe w'=>e=Value.tuple #[XV (cr M (rows.map ai) i c9).1,.int .i64 (cr M (rows.map ai) i c9).2]/\Ext w w':=by
 apply Bm.vc;intro w0 e0 w1 e1;have x0:=aQ e0;have z0:=zA e0;have r0:∃τ,Row w0 w (eg c9) τ:=⟨_,by rw [e0];exact Row.new w [_,_,_] _⟩;have x1:=aQ e1;have z1:=zA e1;obtain ⟨τ,r0⟩:=r0;have r1:=r0.ext x1;have jQ:=x0.tr x1;obtain ⟨b,hm,hr,AY,-⟩:=h.KD;have ldm:∀{u:World},Ext w u->Vc.ld u (ae (some ⟨m,0,none⟩) 2)=some (.slice (some ⟨b,0,none⟩) 16 16):=λxu=>(hm.ext xu).at 2 rfl
 have rk:∀{u:World},Ext w u->RdK u ⟨some ⟨b,0,none⟩,16,16⟩ 13 (rows.map ki):=λxu=>uh (hr.ext xu) AY
 have none6:cj (rows.map ai) i=none->∀w4:World,w4=w1.setRow w0 #[aa,aa,aa,aa,aa,aa]->Ending.returned (.tuple #[.agg #[aa,aa,aa,aa,aa,aa],(6:Int)])=Value.tuple #[XV (cr M (rows.map ai) i c9).1,.int .i64 (cr M (rows.map ai) i c9).2]/\Ext w w4:=λhq w4 e4=>by refine ⟨?_,jQ.ag e4 ab⟩;unfold cr;rw [hq];rfl
 refine Br.mk (λh1=> ?_) (λh1=>Br.mk (λh2=> ?_) (λh2=> ?_))
 ·have h1:i<0:=by simpa using h1
  exact none6 (P5 AY ab)
 ·have h2:i>15:=by simpa using h2
  exact none6 (P5 AY ab)
 have h1:¬i<0:=by simpa using h1
 have h2:¬i>15:=by simpa using h2
 have ei:(if 0>(if 15<i then 15 else i) then 0 else (if 15<i then 15 else i))=i:=by rw [if_neg (show ¬15<i from by omega),if_neg ab]
 rw [ei];obtain ⟨k,rfl⟩:∃k:Nat,i=k:=⟨i.toNat,by omega⟩;obtain ⟨r,MA⟩:=bE (l:=rows) (i:=k) ab;have hi:(rows.map ki)[k]? =some (ki r):=by rw [aR,MA];rfl
 have AX:=mi (rows:=rows) (n:=k) rfl MA;have inb:∀{u:World},Ext w u->eA (some ⟨b,0,none⟩) (k:Int) 16:=λxu=>(rk xu).im (i:=(k:Int)) aF ab (by show (k:Int)<((16:Nat):Int);omega)
 refine ⟨⟨some ⟨b,0,none⟩,16,16⟩,ldm jQ,inb jQ,fT rfl ⟨r.1,(rk jQ).at hi (ZO r),Br.mk (λhb=> ?_) (λhb=> ?_)⟩⟩
 ·refine none6 ?_;rw [AX];unfold ai;rw [if_neg (by simpa using hb)]
 have hb:r.1=true:=by simpa using hb
 have Ql:ai r=some r.2:=by unfold ai;rw [if_pos hb]
 rw [Ql] at AX;have oky:=hL r.2 (oF AX);have xd:=Ext.dr w1;have hd:=lE w1;have eyn:=G4 oky hn;have hhb: -1000000000<=r.2.1.ht/\r.2.1.ht<=1000000000:=by have:=oky.2.2.1;omega
 have hh0:0<=r.2.1.ht:=oky.2.2.1.1;have rR:cr M (rows.map ai) k c9=if (fZ (fj M.T.2) (iS r.2.1) c9 5).2=false then (TD,13) else if (fZ (fj M.T.2) (iS r.2.1) c9 5).1.2.1= -1 then (TD,11) else ((fZ (fj M.T.2) (iS r.2.1) c9 5).1,0):=by unfold cr;rw [AX]
 have castS:∀{u:World},Ext w1.drew u->ah 87 #[.func (.func 83) #[t] #[],eE (iS r.2.1),eE c9,(5:Int)] u λe w'=>e=Value.tuple #[XV (fZ (fj M.T.2) (iS r.2.1) c9 5).1,.bool (fZ (fj M.T.2) (iS r.2.1) c9 5).2]/\Ext u w':=λ{u} xu=>
  Ko (h.ext (jQ.tr (xd.tr xu))).tl rfl (iS r.2.1) c9 5 ⟨by omega,by omega,by omega⟩ (P4 (by rw [V3];decide) eyn)
 generalize fZ (fj M.T.2) (iS r.2.1) c9 5=ck at rR castS;obtain ⟨⟨⟨cx,cy,cz⟩,cb,cf,ct⟩,cq⟩:=ck;have fin:∀{u:World},Ext w1.drew u->Br (!cq)
   (∀fE:World,fE=u.setRow w0 #[aa,aa,aa,aa,aa,aa]->Ending.returned (.tuple #[.agg #[aa,aa,aa,aa,aa,aa],(13:Int)])=Value.tuple #[XV (cr M (rows.map ai) k c9).1,.int .i64 (cr M (rows.map ai) k c9).2]/\Ext w fE)
   (Br (cb==(-1))
    (∀fE:World,fE=u.setRow w0 #[aa,aa,aa,aa,aa,aa]->Ending.returned (.tuple #[.agg #[aa,aa,aa,aa,aa,aa],(11:Int)])=Value.tuple #[XV (cr M (rows.map ai) k c9).1,.int .i64 (cr M (rows.map ai) k c9).2]/\Ext w fE)
    (∀fE:World,fE=u.setRow w0 #[cx,cy,cz,cb,cf,ct]->Ending.returned (.tuple #[.agg #[cx,cy,cz,cb,cf,ct],(0:Int)])=Value.tuple #[XV (cr M (rows.map ai) k c9).1,.int .i64 (cr M (rows.map ai) k c9).2]/\Ext w fE)):=by
  intro u xu;have xx:=jQ.tr (xd.tr xu);rw [rR];refine Br.mk (λhb=>λfE My=>⟨?_,xx.ag My ab⟩) (λhb=>Br.mk (λkE=>λfE My=>⟨?_,xx.ag My ab⟩) (λkE=>λfE My=>⟨?_,xx.ag My ab⟩))
  ·have hb:cq=false:=by simpa using hb
   rw [if_pos hb];rfl
  ·have hb:cq=true:=by simpa using hb
   have kE:cb= -1:=by simpa using kE
   rw [if_neg (by simp [hb]),if_pos kE];rfl
  ·have hb:cq=true:=by simpa using hb
   have kE:¬cb= -1:=by simpa using kE
   rw [if_neg (by simp [hb]),if_neg kE]
 have wayL:∀{u:World},Ext w1.drew u->af u (some ⟨w.heap.size,0,none⟩) 0 (eg c9):=λxu=>Lo.wv (r1.ext (xd.tr xu))
 have bdyL:∀{u:World},Ext w1.drew u->af u (ae (ae (some ⟨b,0,none⟩) ((k:Int).toNat*13)) 1) 0 (jO r.2.1):=λxu=>kB (rk (jQ.tr (xd.tr xu))) hi (mlB r)
 have sliL:∀{u:World},Ext w1.drew u->af u (ae (some ⟨m,0,none⟩) 2) 0 [.slice (some ⟨b,0,none⟩) 16 16]:=λxu=>N2 (ldm (jQ.tr (xd.tr xu)))
 have viewS:∀{u:World},Ext w1.drew u->Vc.ld u (ae (some ⟨m,0,none⟩) 0)=some (.pointer (some ⟨o,0,none⟩))/\ah 27 #[o] u λe w'=>e=Value.func (.func 83) #[t] #[]/\w'=u:=λxu=>by obtain ⟨Fs,hs,-,kf,-⟩:=(h.ext (jQ.tr (xd.tr xu))).ud;obtain ⟨Fw,hW,-,-⟩:=hs.world;exact ⟨kf,fz hW⟩
 refine ⟨_,(viewS (Ext.cM _)).1,⟨some ⟨b,0,none⟩,16,16⟩,ldm (jQ.tr xd),inb (jQ.tr xd),fT rfl ⟨_,_,_,_,_,_,_,_,_,bdyL (Ext.cM _),?_,λjH e67=> ?_⟩⟩
 ·refine (viewS (Ext.cM _)).2.mono ?_;rintro e dH ⟨rfl,ad0⟩;subst ad0;refine ⟨_,rfl,rfl,rfl,wayL (Ext.cM _),bdyL (Ext.cM _),sliL (Ext.cM _),?_,λmT e50=> ?_⟩
  ·refine (B6 r.2.1 hhb hh0 w1.drew).mono ?_;rintro e eW ⟨rfl,di⟩;have z20:=di.size;refine ⟨_,_,_,rfl,di.heap ab,di.heap ab,wayL di,sliL di,?_,λgw ZE=> ?_⟩
   ·refine (castS di).mono ?_;rintro e gl ⟨rfl,eU⟩;have z24:=eU.size;refine ⟨_,_,_,_,_,_,_,rfl,eU.heap ab,eU.heap ab,sliL (di.tr eU),λni Ud eT YY=> ?_⟩;exact fin ((di.tr eU).tr ((aQ Ud).ag YY (aC _)))
   ·have gI:=aQ ZE;have z37:=zA ZE;refine (castS (di.tr gI)).mono ?_;rintro e oD ⟨rfl,gk⟩;have z38:=gk.size;refine ⟨_,_,_,_,_,_,_,rfl,gk.heap ab,gk.heap ab,gk.heap ab,sliL ((di.tr gI).tr gk),λqo e46=> ?_⟩;exact fin (((di.tr gI).tr gk).ag e46 ab)
  ·have tc:=aQ e50;have z50:=zA e50;refine (B6 r.2.1 hhb hh0 mT).mono ?_;rintro e tH ⟨rfl,nk⟩;have z51:=nk.size;refine ⟨_,_,_,rfl,nk.heap ab,nk.heap ab,nk.heap ab,wayL (tc.tr nk),sliL (tc.tr nk),(castS (tc.tr nk)).mono ?_⟩;rintro e xk ⟨rfl,lY⟩;have z55:=lY.size;refine ⟨_,_,_,_,_,_,_,rfl,lY.heap ab,lY.heap ab,lY.heap ab,sliL ((tc.tr nk).tr lY),λDq e63=> ?_⟩;exact fin (((tc.tr nk).tr lY).ag e63 ab)
 ·have pd:=aQ e67;have z67:=zA e67;refine (viewS pd).2.mono ?_;rintro e uc ⟨rfl,awg⟩;subst awg;refine ⟨_,rfl,rfl,rfl,rfl,wayL pd,bdyL pd,sliL pd,(B6 r.2.1 hhb hh0 uc).mono ?_⟩;rintro e ou ⟨rfl,py⟩;have z70:=py.size;refine ⟨_,_,_,rfl,py.heap ab,py.heap ab,py.heap ab,wayL (pd.tr py),sliL (pd.tr py),(castS (pd.tr py)).mono ?_⟩;rintro e mU ⟨rfl,vi⟩;have z74:=vi.size;refine ⟨_,_,_,_,_,_,_,rfl,vi.heap ab,vi.heap ab,vi.heap ab,sliL ((pd.tr py).tr vi),λw82 e82=> ?_⟩;exact fin (((pd.tr py).tr vi).ag e82 ab)
end
section
variable {F F':Nat->Prop} {w w':World} {m s o t:Nat} {M M':Sm} {occ:Value} {rows:List iE}
def amA(c:Ce){k:Nat}(hk:k<6):∃d:Ce,(nX c).getD k (0,0,0)=d/\∀{w:World} {g:Nat} {τ:TypeId},Row w g (DJ c) τ->af w (ae (aB g) ((k:Int).toNat*3)) 0 (eg d):=by
 refine ⟨_,rfl,λ{w g τ} hr=> ?_⟩;rw [bh,eK,dQ];refine hr.bY λj hj=> ?_
 have hj:j<3:=hj;have h1:j=0\/j=1\/j=2:=by omega
 have h2:k=0\/k=1\/k=2\/k=3\/k=4\/k=5:=by omega
 rcases h2 with rfl|rfl|rfl|rfl|rfl|rfl<;>rcases h1 with rfl|rfl|rfl<;>rfl
set_option maxHeartbeats 2000000 in
def ML(h:MF F w m s o t M occ rows){n:Int}(hL:q9 n (rows.map ai))(hn:n<=99970000000000)(i:Int)(c9:Ce)(b:Int)(hk:qQ M 800000):
  ah 57 #[m,.int .i64 i,eE c9,b] w λe w'=>e=Value.int .i64 (iK M (rows.map ai) i c9 b).1/\ln F w m s o t (iK M (rows.map ai) i c9 b).2 occ rows w':=by
 apply zB.vc;intro w0 e0;have x0:=aQ e0;have z0:=zA e0;refine (xq (h.ext x0) hL hn i c9).mono ?_;rintro e w1 ⟨rfl,x1⟩;have z1:=x1.size;refine ⟨_,_,_,_,_,_,_,rfl,x1.heap ab,λw9 e9 bP EP=> ?_⟩;have bj:Ext w1 bP:=(aQ e9).ag EP (aC _);have YS:bP.heap.size=w1.heap.size+1:=by rw [zR EP,zA e9]
 have pn:=x0.tr (x1.tr bj);unfold iK;refine Br.mk (λh6=> ?_) (λh6=>(FY b bP).mono ?_)
 ·rw [if_pos (by simpa using h6)];have h6:(cr M (rows.map ai) i c9).2=6:=by simpa using h6
  rw [h6];exact ⟨rfl,h.res pn⟩
 rw [if_neg (by simpa using h6)];rintro e bg ⟨rfl,Ug⟩;subst Ug;refine ⟨_,rfl,rfl,rfl,Br.mk (λhb=> ?_) (λhb=>Br.mk (λVA=> ?_) (λVA=>Br.mk (λMk=> ?_) (λMk=> ?_)))⟩
 ·rw [if_pos (by simpa using hb)];exact ⟨rfl,h.res pn⟩
 ·rw [if_neg (by simpa using hb),if_pos (by simpa using VA)];exact ⟨rfl,h.res pn⟩
 ·rw [if_neg (by simpa using hb),if_neg (by simpa using VA),if_pos (by simpa using Mk)];exact ⟨rfl,h.res pn⟩
 rw [if_neg (by simpa using hb),if_neg (by simpa using VA),if_neg (by simpa using Mk)];have Mk:(cr M (rows.map ai) i c9).2=0:=by simpa using Mk
 obtain ⟨Ml,Vt⟩:=vw hL hn Mk;obtain ⟨y,-,-,hcast,-⟩:=Fl Mk;have hface:=(Fo (by rw [V3];decide) hcast).2.2.2.2;generalize (cr M (rows.map ai) i c9).1=ht at Ml Vt hface ⊢;obtain ⟨c,bb,f,tt⟩:=ht;simp only at hface Ml Vt;apply Br.mk<;>intro hf
 ·have hf:f<0:=by simpa using hf
  have akS:(zk (c,bb,f,tt)).2=false:=by unfold zk;rw [if_neg (by simp only;omega)]
  rw [if_pos akS];exact ⟨rfl,h.res pn⟩
 have hf:¬f<0:=by simpa using hf
 have hf6:0<=f/\f<6:=by omega
 obtain ⟨k,rfl⟩:∃k:Nat,f=k:=⟨f.toNat,by omega⟩;obtain ⟨d,hd,kf⟩:=amA c (k:=k) ab;have akS:zk (c,bb,((k:Nat):Int),tt)=(d,true):=by unfold zk;rw [if_pos hf6,<-hd];rfl
 rw [akS] at Vt ⊢;rw [if_neg cp];refine (Sc c (Ml.wide aF) bg).mono ?_;rintro e bK ⟨rfl,cn⟩;have z13:=cn.size;refine ⟨_,_,_,_,_,_,_,_,_,_,_,_,_,_,_,_,_,_,rfl,cn.heap ab,cn.heap ab,λni Ud=> ?_⟩;have ic:=aQ Ud;have z32:=zA Ud;have r32:∃cs τ,Row ni bK cs τ/\cs.length=18/\aS cs 0 (DJ c)=DJ c:=⟨[_,_,_,_,_,_,_,_,_,_,_,_,_,_,_,_,_,_],_,by rw [Ud];exact Row.new bK [_,_,_,_,_,_,_,_,_,_,_,_,_,_,_,_,_,_] _,rfl,rfl⟩;obtain ⟨cs,τ,r32,hcl,hpc⟩:=r32;obtain ⟨p1,p2⟩:=mz r32 (off:=0) (vs:=DJ c) (by rw [hcl];show 0+18<=18;decide) (FZ c);refine ⟨⟨rfl,p1⟩,?_,?_,λeT YY=> ?_⟩
 ·intro q;have q:some bK.heap.size=some w.heap.size:=q;injection q with q;omega
 ·intro q;have q:some bK.heap.size=some w1.heap.size:=q;injection q with q;omega
 obtain ⟨q1,q2⟩:=p2 eT YY;rw [hpc] at q1;have eL:Ext bK eT:=q2.ext ic λi hi=>by omega
 have z33:=q2.size;have Mn:=pn.tr (cn.tr eL);refine ⟨hf6.1,hf6.2,_,_,_,kf q1,(xp (h.ext Mn) hL d (Vt.wide aF) b hk).mono ?_⟩;rintro e gw ⟨rfl,r⟩;have hh:∀i,F i->i<w.heap.size:=λi=>h.lt
 exact ⟨_,rfl,ln.de Mn ab ab hh r,ln.de Mn ab ab hh r,rfl,ln.aH Mn r⟩
set_option maxHeartbeats 1000000 in
def Rg(h:MF F w m s o t M occ rows){n:Int}(hL:q9 n (rows.map ai))(hn:n<=99970000000000)(i:Int)(c9:Ce)(hk:qQ M 800000):
  ah 58 #[m,.int .i64 i,eE c9] w λe w'=>e=Value.tuple #[.int .i64 (gN M (rows.map ai) i c9).1.1,.int .i64 (gN M (rows.map ai) i c9).1.2]/\ln F w m s o t (gN M (rows.map ai) i c9).2 occ rows w':=by
 apply Bn.vc;intro w0 e0;have x0:=aQ e0;have z0:=zA e0;refine (xq (h.ext x0) hL hn i c9).mono ?_;rintro e w1 ⟨rfl,x1⟩;have z1:=x1.size;refine ⟨_,_,_,_,_,_,_,rfl,x1.heap ab,λw9 e9 bP EP=> ?_⟩;have bj:Ext w1 bP:=(aQ e9).ag EP (aC _);have YS:bP.heap.size=w1.heap.size+1:=by rw [zR EP,zA e9]
 have pn:=x0.tr (x1.tr bj);unfold gN;apply Br.mk<;>intro h0
 ·rw [if_pos (by simpa using h0)];exact ⟨rfl,h.res pn⟩
 have Mk:=cU h0;rw [if_neg (by simp [Mk])];obtain ⟨Ml,-⟩:=vw hL hn Mk;refine (xp (h.ext pn) hL (cr M (rows.map ai) i c9).1.1 (Ml.wide aF) 0 hk).mono ?_;rintro e bg ⟨rfl,r⟩;have hh:∀i,F i->i<w.heap.size:=λi=>h.lt
 refine ⟨_,rfl,ln.de pn ab ab hh r,ln.de pn ab ab hh r,Br.mk (λhq=> ?_) (λhq=> ?_)⟩
 ·rw [if_pos (by simpa using hq)];exact ⟨rfl,ln.aH pn r⟩
 ·rw [if_neg (by simpa using hq)];exact ⟨rfl,ln.aH pn r⟩
def VY(hn:rows.length=16){x:Int}(hx:(x= -1/\∀(i:Nat)(r:iE),rows[i]? =some r->r.1=true)\/(∃i:Nat,x=i/\i<16/\(∃r:iE,rows[i]? =some r/\r.1=false)/\∀(j:Nat)(r:iE),j<i->rows[j]? =some r->r.1=true)):qb (rows.map ai)=x:=by
 rcases hx with ⟨rfl,rO⟩|⟨i,rfl,hi,⟨r,hr,hb⟩,iC⟩
 ·refine iT λy hy=> ?_
  obtain ⟨r,hr,rfl⟩:=aW.1 hy;obtain ⟨i,hi⟩:=Nd.1 hr;unfold ai;rw [if_pos (rO i r hi)];rfl
 ·refine oy (x:=ai r) (by rw [aR,hr];rfl) (by unfold ai;rw [hb];rfl) λj hj y hy=> ?_
  rw [aR] at hy;obtain ⟨r',h1,rfl⟩:=zD.1 hy;unfold ai;rw [if_pos (iC j r' hj h1)];rfl
def Oe{K:Nat}{v:LV}:∀{l:List (LV)} {k:Nat},(∀r ∈ l,r.length=K)->k<l.length->v.length=K->aS l.flatten (k*K) v=(l.set k v).flatten
 | [],k,_,hk,_=>absurd hk cp
 |a::l,0,hl,_,hv=>by
  have ha:=hl a cp
  have h0:=dt v (a++l.flatten) 0 (by rw [dv];omega)
  rw [kV,List.set_cons_zero,kV,Nat.zero_mul,h0,eK,hv,<-ha,List.drop_left]
  rfl
 |a::l,k+1,hl,hk,hv=>by
  have ha:=hl a cp
  rw [kV,aaI,kV,show (k+1)*K=a.length+k*K from by rw [ha,oK,Nat.one_mul,um],kW,Oe (λr hr=>hl r (by simp [hr])) (by simpa using hk) hv]
def ZP(hn:rows.length=16){b:Nat}{w:World}(hr:Row w b (rows.map ki).flatten CR){k:Nat}(hk:k<16)(r:iE):(ae (aB b) ((k:Int).toNat*13)).isSome=true/\Wr w (ae (aB b) ((k:Int).toNat*13)) 13/\
  ∀w',w'=Vc.aL w (ae (aB b) ((k:Int).toNat*13)) (ki r)->Row w' b ((rows.set k r).map ki).flatten CR/\Mod (λi=>i=b) w w':=by
 have Hm:∀l:List iE,(l.map ki).flatten.length=l.length*13:=λl=>by
  have:=bJ (k:=13) (rows:=l.map ki) λr hr=>by obtain ⟨x,-,rfl⟩:=aW.1 hr;rfl
  rw [this,aN]
 rw [dQ];obtain ⟨p1,p2⟩:=mz hr (off:=k*13) (vs:=ki r) (by rw [Hm,hn];show _+13<=_;omega) (ai3 r);refine ⟨rfl,p1,λw' e=> ?_⟩;obtain ⟨q1,q2⟩:=p2 w' e;refine ⟨?_,q2⟩;have:aS (rows.map ki).flatten (k*13) (ki r)=((rows.set k r).map ki).flatten:=by rw [jC];exact Oe (λr hr=>by obtain ⟨x,-,rfl⟩:=aW.1 hr;rfl) (by rw [aN];omega) rfl
 rw [<-this];exact q1
end
section
variable {F F':Nat->Prop} {w w':World} {m s o t:Nat} {M M':Sm} {occ:Value} {rows:List iE}
def uv(M:Sm)(rows:List iE)(b:ee):List iE:=
 if (cR M (rows.map ai) b).2.1=0 then rows.set (qb (rows.map ai)).toNat (true,({b with ir:=g8 (fj M.T.2) (gz b.box) aG},(0,0,false))) else rows
def pP{b:ee}:(uv M rows b).map ai=(cR M (rows.map ai) b).2.2:=by
 unfold uv;by_cases h1:b.may=false
 ·have e:cR M (rows.map ai) b=(-1,1,rows.map ai):=by unfold cR;rw [if_pos h1]
  rw [e,if_neg cp]
 by_cases h2:qb (rows.map ai)<0
 ·have e:cR M (rows.map ai) b=(-1,8,rows.map ai):=by unfold cR;rw [if_neg h1,if_pos h2]
  rw [e,if_neg cp]
 by_cases h3:kT M b=false
 ·have e:cR M (rows.map ai) b=(-1,11,rows.map ai):=by unfold cR;rw [if_neg h1,if_neg h2,if_pos h3]
  rw [e,if_neg cp]
 by_cases h4:g8 (fj M.T.2) b.box aG=true
 ·have e:cR M (rows.map ai) b=(-1,12,rows.map ai):=by unfold cR;rw [if_neg h1,if_neg h2,if_neg h3,if_pos h4]
  rw [e,if_neg cp]
 have e:cR M (rows.map ai) b=(qb (rows.map ai),0,(rows.map ai).set (qb (rows.map ai)).toNat (some ({b with ir:=g8 (fj M.T.2) (gz b.box) aG},(0,0,false)))):=by unfold cR;rw [if_neg h1,if_neg h2,if_neg h3,if_neg h4]
 rw [e,if_pos rfl,jC];rfl
set_option maxHeartbeats 4000000 in
def MK(h:MF F w m s o t M occ rows)(aD:Ce)(wd ht:Int)(hw:bN wd):ah 53 #[m,eE aD,wd,ht] w λe w'=>
  e=Value.tuple #[.int .i64 (cR M (rows.map ai) (ft aD wd ht)).1,.int .i64 (cR M (rows.map ai) (ft aD wd ht)).2.1]/\ln F w m s o t M occ (uv M rows (ft aD wd ht)) w':=by
 apply ze.vc;intro w0 e0 w1 e1 w2 e2;have x0:=aQ e0;have z0:=zA e0;have x2:Ext w0 w2:=(aQ e1).ag e2 (aC _);have z2:w2.heap.size=w0.heap.size+1:=by rw [zR e2,zA e1]
 have r2:∃τ,Row w2 w0 (jO (ft aD wd ht)) τ:=⟨_,by rw [e2,e1];exact Row.set (Row.new w0 [_,_,_,_,_,_,_,_,_] _) [_,_,_,_,_,_,_,_,_]⟩;obtain ⟨τ,r2⟩:=r2;have AI:=x0.tr x2;obtain ⟨b,hm,hr,hn,-,hFb,-,bk⟩:=h.KD;have ldm:∀{u:World},Ext w u->Vc.ld u (ae (some ⟨m,0,none⟩) 2)=some (.slice (some ⟨b,0,none⟩) 16 16):=λxu=>(hm.ext xu).at 2 rfl
 have rk:∀{u:World},Ext w u->RdK u ⟨some ⟨b,0,none⟩,16,16⟩ 13 (rows.map ki):=λxu=>uh (hr.ext xu) hn
 have inb:∀{u:World},Ext w u->∀k:Nat,k<16->eA (some ⟨b,0,none⟩) (k:Int) 16:=λxu k hk=>(rk xu).im (i:=(k:Int)) aF ab (by show (k:Int)<((16:Nat):Int);omega)
 refine (VX (ft aD wd ht) w2).mono ?_;rintro e w3 ⟨rfl,x3⟩;have z3:=x3.size;have Cc:=AI.tr x3;have same:∀{n q:Int},cR M (rows.map ai) (ft aD wd ht)=(n,q,rows.map ai)->q≠0->∀{u:World},Ext w u->Ending.returned (.tuple #[.int .i64 n,.int .i64 q])=Value.tuple #[.int .i64 (cR M (rows.map ai) (ft aD wd ht)).1,.int .i64 (cR M (rows.map ai) (ft aD wd ht)).2.1]/\ln F w m s o t M occ (uv M rows (ft aD wd ht)) u:=λ{n q} he hq {u} xu=>by unfold uv;rw [he];rw [if_neg hq];exact ⟨rfl,h.res xu⟩
 refine ⟨_,rfl,x3.heap ab,x3.heap ab,Br.mk (λq=> ?_) (λq=> ?_)⟩
 ·have q:(ft aD wd ht).may=false:=by simpa using q
  exact same (by unfold cR;rw [if_pos q]) aF Cc
 have q:¬(ft aD wd ht).may=false:=by simpa using q
 refine ⟨λn x y wr=>∃j:Nat,x=(j:Int)-1/\j=n/\j<=16/\wr=w3/\((y= -1/\∀(i:Nat)(r:iE),j<=i->rows[i]? =some r->r.1=true)\/(∃i:Nat,y=i/\j<=i/\i<16/\(∃r:iE,rows[i]? =some r/\r.1=false)/\∀(k:Nat)(r:iE),j<=k->k<i->rows[k]? =some r->r.1=true)),⟨16,rfl,rfl,16,rfl,rfl,aC _,rfl,.inl ⟨rfl,λi r hi hr=>by have:=(cG.1 hr).1;omega⟩⟩,?_⟩;rintro n6 us x y bP ⟨j,rfl,rfl,az9,rfl,hy⟩;apply Br.mk<;>intro hc
 ·have hc:(j:Int)-1>=0:=by simpa using hc
  obtain ⟨i,rfl⟩:∃i,j=i+1:=⟨j-1,by omega⟩;have e1:((i+1:Nat):Int)-1=(i:Int):=by omega
  rw [e1];obtain ⟨r,v8⟩:=bE (l:=rows) (i:=i) ab;have hi:(rows.map ki)[i]? =some (ki r):=by rw [aR,v8];rfl
  have wk:ao ((i:Int)-1)=(i:Int)-1:=wI;refine ⟨⟨some ⟨b,0,none⟩,16,16⟩,ldm Cc,inb Cc i ab,fT rfl ⟨r.1,(rk Cc).at hi (ZO r),Br.mk (λhb=> ?_) (λhb=> ?_)⟩⟩
  ·have hb:r.1=false:=by simpa using hb
   refine ⟨i,by omega,rfl,rfl,i,wk,rfl,by omega,rfl,.inr ⟨i,rfl,aC _,by omega,⟨r,v8,hb⟩,λk r hk Hh=>by omega⟩⟩
  ·have hb:r.1=true:=by simpa using hb
   refine ⟨i,by omega,rfl,rfl,i,wk,rfl,by omega,rfl,?_⟩;rcases hy with ⟨hy1,rO⟩|⟨i',hy1,h1,h2,h3,h4⟩
   ·refine .inl ⟨hy1,λk r' hk hr'=> ?_⟩;by_cases hki:k=i
    ·subst hki;rw [v8] at hr';rw [<-Option.some.inj hr'];exact hb
    ·exact rO k r' ab hr'
   ·refine .inr ⟨i',hy1,by omega,h2,h3,λk r' hk Hh hr'=> ?_⟩;by_cases hki:k=i
    ·subst hki;rw [v8] at hr';rw [<-Option.some.inj hr'];exact hb
    ·exact h4 k r' ab Hh hr'
 have hc:¬(j:Int)-1>=0:=by simpa using hc
 have hj0:j=0:=by omega
 subst hj0;have hfree:qb (rows.map ai)=y:=VY hn (by
  rcases hy with ⟨h1,h2⟩|⟨i,h1,h2,h3,h4,h5⟩
  ·exact .inl ⟨h1,λi r hr=>h2 i r (Nat.zero_le _) hr⟩
  ·exact .inr ⟨i,h1,h3,h4,λk r hk hr=>h5 k r (Nat.zero_le _) hk hr⟩)
 apply Br.mk<;>intro q2
 ·have q2:y<0:=by simpa using q2
  exact same (by unfold cR;rw [if_neg q,hfree,if_pos q2]) aF Cc
 have q2:¬y<0:=by simpa using q2
 obtain ⟨k,hyk,wg⟩:∃k:Nat,y=k/\k<16:=by
  rcases hy with ⟨h1,-⟩|⟨i,h1,-,h3,-⟩
  ·omega
  ·exact ⟨i,h1,h3⟩
 subst hyk;refine (CL (h.ext Cc) (ft aD wd ht)).mono ?_;rintro e bO ⟨rfl,bI⟩;have ZD:=bI.size;have aAc:=lE bO;have acD:=Cc.tr bI;refine ⟨_,rfl,bI.heap ab,bI.heap ab,Br.mk (λq3=> ?_) (λq3=> ?_)⟩
 ·have q3:kT M (ft aD wd ht)=false:=by simpa using q3
  exact same (by unfold cR;rw [if_neg q,hfree,if_neg q2,if_pos q3]) aF acD
 have q3:¬kT M (ft aD wd ht)=false:=by simpa using q3
 have viewS:∀{u:World},Ext w u->Vc.ld u (ae (some ⟨m,0,none⟩) 0)=some (.pointer (some ⟨o,0,none⟩))/\ah 27 #[o] u λe w'=>e=Value.func (.func 83) #[t] #[]/\w'=u:=λxu=>by obtain ⟨Fs,hs,-,kf,-⟩:=(h.ext xu).ud;obtain ⟨Fw,hW,-,-⟩:=hs.world;exact ⟨kf,fz hW⟩
 have parL:∀{u:World},Ext w2 u->af u (some ⟨w0.heap.size,0,none⟩) 0 (jO (ft aD wd ht)):=λxu=>Lo.wv (r2.ext xu)
 refine ⟨_,(viewS acD.drew).1,(viewS acD.drew).2.mono ?_⟩;rintro e cL ⟨rfl,asE⟩;subst asE;refine ⟨_,rfl,rfl,rfl,parL ((x3.tr bI).drew),(Be (ft aD wd ht) hw bO.drew).mono ?_⟩;rintro e gg ⟨rfl,cu⟩;have z19:=cu.size;refine ⟨_,_,_,_,_,_,rfl,cu.heap ab,cu.heap ab,?_⟩
 try refine ⟨parL (((x3.tr bI).drew).tr cu),?_⟩
 refine (nU (h.ext (acD.drew.tr cu)).tl rfl (ft aD wd ht).box).mono ?_;rintro e fx ⟨rfl,fg⟩;have z26:=fg.size;have aAd:=lE fx;have IA:=(acD.drew.tr cu).tr fg;have anf:=(((x3.tr bI).drew).tr cu).tr fg;refine ⟨_,rfl,fg.heap ab,fg.heap ab,Br.mk (λq4=> ?_) (λq4=> ?_)⟩
 ·exact same (by unfold cR;rw [if_neg q,hfree,if_neg q2,if_neg q3,if_pos q4]) aF IA
 refine ⟨_,(viewS IA.drew).1,(viewS IA.drew).2.mono ?_⟩;rintro e dW ⟨rfl,asG⟩;subst asG;refine ⟨_,rfl,rfl,rfl,parL anf.drew,(Be (ft aD wd ht) hw fx.drew).mono ?_⟩;rintro e gf ⟨rfl,iD⟩;have z31:=iD.size;refine ⟨_,_,_,_,_,_,rfl,iD.heap ab,iD.heap ab,?_⟩
 try refine ⟨parL (anf.drew.tr iD),?_⟩
 refine (my (h.ext (IA.drew.tr iD)).tl rfl (ft aD wd ht).box).mono ?_;rintro e oD ⟨rfl,gk⟩;have z38:=gk.size;have asH:=(IA.drew.tr iD).tr gk;refine ⟨_,rfl,gk.heap ab,gk.heap ab,λjP TN=> ?_⟩;have mP:Ext w jP.drew:=(asH.ag TN ab).drew;have z40:jP.drew.heap.size=oD.heap.size:=by show jP.heap.size=_;exact zR TN
 have hspawn:cR M (rows.map ai) (ft aD wd ht)=((k:Int),0,(rows.map ai).set k (some ({ft aD wd ht with ir:=g8 (fj M.T.2) (gz (ft aD wd ht).box) aG},(0,0,false)))):=by unfold cR;rw [if_neg q,hfree,if_neg q2,if_neg q3,if_neg (by rw [q4];decide)];rfl
 have hsr:uv M rows (ft aD wd ht)=rows.set k (true,({ft aD wd ht with ir:=g8 (fj M.T.2) (gz (ft aD wd ht).box) aG},(0,0,false))):=by unfold uv;rw [hspawn,if_pos rfl,hfree];rfl
 rw [hspawn,hsr];obtain ⟨p0,p1,p2⟩:=ZP hn (hr.ext mP) wg (true,({ft aD wd ht with ir:=g8 (fj M.T.2) (gz (ft aD wd ht).box) aG},(0,0,false)));have hpb:bz (ae (some ⟨b,0,none⟩) ((k:Int).toNat*13))=some b:=by rw [bh];rfl
 have hbw:=h.lt hFb;refine ⟨⟨some ⟨b,0,none⟩,16,16⟩,ldm mP,inb mP k wg,⟨p0,p1⟩,by rw [hpb];intro q;injection q with q;omega,by rw [hpb];intro q;injection q with q;omega,λlj e42=>⟨rfl,?_⟩⟩;obtain ⟨q1,q2⟩:=p2 lj e42;have asI:Mod (λi=>i=b) w lj:=(Mod.aH mP).trans q2;exact bk asI q1 (by rw [gW];exact hn)
end
def DZ(rows:List iE)(i:Nat)(b:ee):List iE:=match rows[i]? with|some r=>rows.set i (r.1,(b,r.2.2))|none=>rows
def Kg(rows:List iE)(l:List (Nat × ee)):List iE:=l.foldl (λL x=>DZ L x.1 x.2) rows
def pS(M:Sm)(rows:List iE):List iE:=Kg rows ((ey M (rows.map ai)).zip (qx M (rows.map ai)))
def abV{rows:List iE}{i:Nat}{b:ee}:(DZ rows i b).length=rows.length:=by
 unfold DZ;split
 ·rw [gW]
 ·rfl
def X6{rows:List iE}{i:Nat}{b:ee}:(DZ rows i b).map ai=uE (rows.map ai) i b:=by
 unfold DZ uE
 cases hq:rows[i]? with
 |none=>
  have:cj (rows.map ai) ((i:Nat):Int)=none:=by unfold cj;rw [if_pos ab,dQ,aR,hq];rfl
  rw [this]
 |some r=>
  rw [mi (rows:=rows) (n:=(i:Nat)) rfl hq];obtain ⟨th,bd,pQ⟩:=r
  cases th with
  |false=>
   show ((rows.set i (false,(b,pQ))).map ai)=rows.map ai;rw [jC];have hi:=(cG.1 hq).1;refine iP λj=> ?_
   by_cases e:i=j
   ·subst e;rw [pR (by rw [aN];exact hi),aR,hq];rfl
   ·rw [Aa e]
  |true=>
   show ((rows.set i (true,(b,pQ))).map ai)=(rows.map ai).set i (some (b,pQ));rw [jC];rfl
def GS:∀(l:List (Nat × ee))(rows:List iE),(Kg rows l).map ai=wL (rows.map ai) l
 | [],rows=>rfl
 |x::l,rows=>by
  show (Kg (DZ rows x.1 x.2) l).map ai=wL (uE (rows.map ai) x.1 x.2) l
  rw [GS l,X6]
def Kh:∀(l:List (Nat × ee))(rows:List iE),(Kg rows l).length=rows.length
 | [],rows=>rfl
 |x::l,rows=>(Kh l (DZ rows x.1 x.2)).trans abV
def ji(M:Sm)(rows:List iE):(pS M rows).map ai=jm M (rows.map ai):=GS _ _
abbrev GU(M:Sm)(rows:List iE)(j:Nat):List iE:=Kg rows (((ey M (rows.map ai)).zip (qx M (rows.map ai))).take j)
def Ts{M:Sm}{rows:List iE}{j:Nat}{i:Nat}{b:ee}(hi:(ey M (rows.map ai))[j]? =some i)(hb:(qx M (rows.map ai))[j]? =some b):GU M rows (j+1)=DZ (GU M rows j) i b:=by
 have e:((ey M (rows.map ai)).zip (qx M (rows.map ai)))[j]? =some (i,b):=by rw [List.getElem?_zip_eq_some];exact ⟨hi,hb⟩
 unfold GU Kg;rw [dR,e,oT];rfl
def Fi{K:Nat}{v r:LV}{off:Nat}:∀{l:List (LV)} {k:Nat} {r':LV},(∀r ∈ l,r.length=K)->l[k]? =some r->off+v.length<=K->aS r off v=r'->aS l.flatten (k*K+off) v=(l.set k r').flatten
 | [],k,_,_,hk,_,_=>absurd hk cp
 |a::l,0,r',hl,hk,hv,e=>by
  have ha:=hl a cp
  have hk:a=r:=by simpa using hk
  subst hk;subst e;rw [kV,List.set_cons_zero,kV,Nat.zero_mul,eK,dt v (a++l.flatten) off (by rw [dv];omega),dt v a off ab,J0 ab,List.drop_append_of_le_length ab,gK,gK,gK]
 |a::l,k+1,r',hl,hk,hv,e=>by have ha:=hl a cp;rw [kV,aaI,kV,show (k+1)*K+off=a.length+(k*K+off) from by rw [ha,oK,Nat.one_mul];omega,kW,Fi (λr hr=>hl r (by simp [hr])) (by simpa using hk) hv e]
def afS{rows:List iE}(hn:rows.length=16){b:Nat}{w:World}(hr:Row w b (rows.map ki).flatten CR){k:Nat}(hk:k<16)(x:ee):(ae (ae (aB b) ((k:Int).toNat*13)) 1).isSome=true/\Wr w (ae (ae (aB b) ((k:Int).toNat*13)) 1) 9/\bz (ae (ae (aB b) ((k:Int).toNat*13)) 1)=some b/\
  ∀w',w'=Vc.aL w (ae (ae (aB b) ((k:Int).toNat*13)) 1) (jO x)->Row w' b ((DZ rows k x).map ki).flatten CR/\Mod (λi=>i=b) w w':=by
 obtain ⟨r,MA⟩:=bE (l:=rows) (i:=k) ab;have Hm:(rows.map ki).flatten.length=16*13:=by
  have:=bJ (k:=13) (rows:=rows.map ki) λr hr=>by obtain ⟨x,-,rfl⟩:=aW.1 hr;rfl
  rw [this,aN,hn]
 rw [dn,dQ];obtain ⟨p1,p2⟩:=mz hr (off:=k*13+1) (vs:=jO x) (by rw [Hm];show _+9<=_;omega) (xN x);refine ⟨rfl,p1,by rw [bh];rfl,λw' e=> ?_⟩;obtain ⟨q1,q2⟩:=p2 w' e;refine ⟨?_,q2⟩;have pH:DZ rows k x=rows.set k (r.1,(x,r.2.2)):=by unfold DZ;rw [MA]
 have dy:(rows.map ki)[k]? =some (ki r):=by rw [aR,MA];rfl
 have:aS (rows.map ki).flatten (k*13+1) (jO x)=((DZ rows k x).map ki).flatten:=by rw [pH,jC];exact Fi (λr hr=>by obtain ⟨y,-,rfl⟩:=aW.1 hr;rfl) dy (by show 1+9<=13;decide) rfl
 rw [<-this];exact q1
section
variable {F F':Nat->Prop} {w w':World} {m s o t:Nat} {M M':Sm} {occ:Value} {rows:List iE}
abbrev ajH(g:Nat):Value:=.func (.func 120) #[] #[g]
def mOc{g:Nat}{τ:TypeId}(h:MF F w m s o t M occ rows){n:Int}(hL:q9 n (rows.map ai))(hg:Row w g [m] τ)(hgF:¬F g):∃Fs,SF Fs w s o t M occ/\Oc (ajH g) (rf (rows.map ai)) Fs w/\Vc.ld w (ae (aB m) 1)=some (.pointer (aB s))/\∀{w':World} {M':Sm} {occ':Value},mB Fs w s o t M' occ' w'->ln F w m s o t M' occ' rows w':=by
 obtain ⟨Fs,h1,h2,-,h3,h4⟩:=h.ud;obtain ⟨b,hm,hr,hn,-⟩:=h.KD;have nm:¬Fs m:=h1.j9 hm nG.1.1 nG.1.2.1 nG.1.2.2.1 nG.1.2.2.2.1 nG.1.2.2.2.2.1 nG.1.2.2.2.2.2.1 nG.1.2.2.2.2.2.2;have nb:¬Fs b:=h1.j9 hr nG.2.1.1 nG.2.1.2.1 nG.2.1.2.2.1 nG.2.1.2.2.2.1 nG.2.1.2.2.2.2.1 nG.2.1.2.2.2.2.2.1 nG.2.1.2.2.2.2.2.2;refine ⟨Fs,h1,⟨λi=>i=m\/i=b\/i=g,λi hi=> ?_,λw' hk c _=>cX (by kernel_rfl) rfl ?_⟩,h2,h4⟩
 ·rcases hi with rfl|rfl|rfl
  ·exact ⟨hm.lt,nm⟩
  ·exact ⟨hr.lt,nb⟩
  ·exact ⟨hg.lt,λq=>hgF (h3 _ q)⟩
 ·have hm':=hm.same (hk _ (.inl rfl));have hr':=hr.same (hk _ (.inr (.inl rfl)));have hg':=hg.same (hk _ (.inr (.inr rfl)));apply (xG.vc (c0:=⟨g,0,none⟩));intro w0 e0;have x0:=aQ e0;have z0:=zA e0;have hl0:Vc.ld w0 (aB g)=some (.pointer (aB m)):=by rw [(hg'.ext x0).ld];rfl
  refine ⟨aB m,hl0,(Pf (hm'.ext x0) (hr'.ext x0) hn hL c).mono ?_⟩;rintro e w2 ⟨rfl,x2⟩;exact ⟨_,rfl,x2.heap ab,rfl,x0.tr x2⟩
end
section
variable {F F':Nat->Prop} {w w':World} {m s o t:Nat} {M M':Sm} {occ:Value} {rows:List iE}
set_option maxHeartbeats 6000000 in
def Rk(h:MF F w m s o t M occ rows){n:Int}(hL:q9 n (rows.map ai))(Mk:0<=n)(hn:n<=99900000000000)(hd:CC (qR M))(hk:qQ M 600000)(akT:1<=M.dE/\M.dE<=64):
  ah 65 #[m] w λe w'=>e=Value.int .i64 (qR M).length/\ln F w m s o t (kL M (rows.map ai)).1 (ajH w) (pS M rows) w':=by
 apply Bo.vc;intro w0 e0;have x0:=aQ e0;have z0:=zA e0;have r0:∃τ,Row w0 w [m] τ:=⟨_,by rw [e0];exact Row.new w [_] _⟩;obtain ⟨τ,r0⟩:=r0;have h0:=h.ext x0;have hwF:¬F w:=λq=>by have:=h.lt q;omega
 obtain ⟨b,hm,hr,AY,-,hFb,hmb,bk⟩:=h0.KD;have hbw:=h.lt hFb;have hwl:=Ep M (rows.map ai);have ldm:∀{u:World},Ext w0 u->Vc.ld u (ae (aB m) 2)=some (.slice (aB b) 16 16):=λxu=>(hm.ext xu).at 2 rfl
 have rk:∀{u:World},Ext w0 u->RdK u ⟨aB b,16,16⟩ 13 (rows.map ki):=λxu=>uh (hr.ext xu) AY
 have inb:∀k:Nat,k<16->eA (aB b) (k:Int) 16:=λk hk=>(rk (Ext.cM _)).im (i:=(k:Int)) aF ab (by show (k:Int)<((16:Nat):Int);omega)
 have parL:∀{u:World},Ext w0 u->af u (aB w.heap.size) 0 [m]:=λxu=>Lo.wv (r0.ext xu)
 have atk:∀i:Nat,i ∈ ey M (rows.map ai)->∃r,rows[i]? =some r/\i<16/\cj (rows.map ai) ((i:Nat):Int)=some r.2:=λi hi=>by
  obtain ⟨h1,y,hy⟩:=re hi;obtain ⟨r,v8⟩:=bE (l:=rows) (i:=i) ab;refine ⟨r,v8,h1,?_⟩;rw [mi (rows:=rows) (n:=(i:Nat)) rfl v8] at hy ⊢;unfold ai at hy ⊢;split at hy
  ·rename_i hb;rw [if_pos hb]
  ·cases hy
 let num:Nat->LV:=λi=> [.int .i64 (i:Int)]
 refine ⟨λn x sl wr=>∃k:Nat,x=k/\k+n=16/\aE w0 3 1 wr sl (((List.range k).filter (kz M (rows.map ai))).map num)/\Ext w0 wr,⟨16,rfl,0,rfl,rfl,aE.nil,Ext.cM _⟩,?_⟩;rintro n1 us x sl wr ⟨k,rfl,hk',ho,xr⟩;have zr:=xr.size;apply Br.mk<;>intro hb
 ·have hb:(k:Int)<16:=by simpa using hb
  obtain ⟨r,MA⟩:=bE (l:=rows) (i:=k) ab;have hi:(rows.map ki)[k]? =some (ki r):=by rw [aR,MA];rfl
  have AX:=mi (rows:=rows) (n:=k) rfl MA;have wk:=nS (j:=k);have dN:sl.n<=16:=by have h1:=(ho.rd (show 0<1 by decide)).n;have h2:=wM (kz M (rows.map ai)) (List.range k);rw [aN] at h1;rw [C1] at h2;omega
  have skip:kz M (rows.map ai) k=false->∀{u:World},Ext wr u->∃n7,n7<n1/\aO [m]/\∃k':Nat,ao ((k:Int)+1)=k'/\k'+n7=16/\aE w0 3 1 u ⟨sl.a,sl.n,sl.c⟩ (((List.range k').filter (kz M (rows.map ai))).map num)/\Ext w0 u:=λhq {u} xu=>by refine ⟨n1-1,by omega,rfl,k+1,wk,by omega,?_,xr.tr xu⟩;rw [wQ,qc,bW,Jy (by rw [hq];decide)];simpa using ho.ext xu
  have xd:=Ext.dr wr;have zd:=lE wr;refine ⟨⟨aB b,16,16⟩,ldm (xr.tr xd),inb k ab,fT rfl ⟨r.1,(rk (xr.tr xd)).at hi (ZO r),Br.mk (λhb=> ?_) (λhb=>skip ?_ xd)⟩⟩
  ·have Ql:ai r=some r.2:=by unfold ai;rw [if_pos hb]
   rw [Ql] at AX;have hwake:kz M (rows.map ai) k=kT M r.2.1:=by unfold kz;rw [AX]
   refine ⟨⟨aB b,16,16⟩,ldm (xr.tr xd),inb k ab,fT rfl ⟨_,_,_,_,_,_,_,_,_,kB (rk (xr.tr xd)) hi (mlB r),(CL (h0.ext (xr.tr xd)) r.2.1).mono ?_⟩⟩;rintro e eW ⟨rfl,di⟩;have z20:=di.size;have Zw:=(xr.tr xd).tr di;refine ⟨_,rfl,di.heap ab,N2 (ldm Zw),parL Zw,N2 ((rk Zw).at hi (ZO r)),N2 (ldm Zw),parL Zw,Br.mk (λhq=>λdP HI=> ?_) (λhq=>skip (by rw [hwake];exact hq) (xd.tr di))⟩;subst HI;obtain ⟨D7,hres8⟩:=(ho.ext (xd.tr di)).jk (bytes:=8) (news:=[.int .i64 (k:Int)]) (.cells #[.int .i64 (k:Int)] 3) ab rfl (uu _ _) ab ab;refine ⟨D7,λs23 gl awk=> ?_⟩;obtain ⟨f8,yM,hn8,x8,Hj,-⟩:=hres8 s23 gl awk;have xa:Ext eW (eW.alloc (.cells #[.int .i64 (k:Int)] 3)):=(aQ rfl);have hparam:gl.heap[w.heap.size]? =(eW.alloc (.cells #[.int .i64 (k:Int)] 3)).heap[w.heap.size]? :=(x8.block _ ab).trans (xa.heap ab).symm;refine ⟨hparam,f8,n1-1,by omega,rfl,k+1,wk,by omega,?_,Below.trans Zw x8⟩;rw [wQ,qc,bW,Jw (by rw [hwake];exact hq)];exact yM
  ·have hb:r.1=false:=by simpa using hb
   have Ql:ai r=none:=by unfold ai;rw [if_neg (by rw [hb];decide)]
   rw [Ql] at AX;unfold kz;rw [AX]
 have hb:¬(k:Int)<16:=by simpa using hb
 have wg:k=16:=by omega
 subst wg;replace ho:aE w0 3 1 wr sl ((ey M (rows.map ai)).map num):=ho;have u9:sl.n=(ey M (rows.map ai)).length:=by rw [(ho.rd (show 0<1 by decide)).n,aN]
 have slk:∀b,sl.bf=some b->w0.heap.size<=b/\b<wr.heap.size:=λb hb=>ho.own.lt hb
 have viewS:∀{u:World},Ext w0 u->Vc.ld u (ae (aB m) 0)=some (.pointer (aB o))/\ah 27 #[o] u λe w'=>e=Value.func (.func 83) #[t] #[]/\w'=u:=λxu=>by obtain ⟨Fs,hs,-,kf,-⟩:=(h0.ext xu).ud;obtain ⟨Fw,hW,-,-⟩:=hs.world;exact ⟨kf,fz hW⟩
 refine ⟨λn x s2 fE=>∃j:Nat,x=j/\j+n=(ey M (rows.map ai)).length/\aE wr AV 9 fE s2 ((((ey M (rows.map ai)).take j).map (gP M (rows.map ai))).map jO)/\Ext wr fE,⟨(ey M (rows.map ai)).length,rfl,0,rfl,by omega,aE.nil,Ext.cM _⟩,?_⟩;rintro n2 yI x s2 fE ⟨j,rfl,hj,AS,jN⟩;have z30:=jN.size;apply Br.mk<;>intro hb
 ·have hb:(j:Int)<sl.n:=by simpa using hb
  obtain ⟨i,hi⟩:=bE (l:=ey M (rows.map ai)) (i:=j) ab;obtain ⟨r,v8,HH,AX⟩:=atk i (aX hi);have xd:=Ext.dr fE;have zd:=lE fE;have QV:=xr.tr (jN.tr xd);have HG:=(ho.ext (jN.tr xd)).rd (show 0<1 by decide);have hri2:((ey M (rows.map ai)).map num)[j]? =some [.int .i64 (i:Int)]:=by rw [aR,hi];rfl
  have Mo:=HG.at hri2 (j:=0) (v:=.int .i64 (i:Int)) rfl;rw [dn] at Mo;have hii:(rows.map ki)[i]? =some (ki r):=by rw [aR,v8];rfl
  refine ⟨⟨aB b,16,16⟩,ldm QV,HG.im aF ab ab,_,Mo,inb i HH,_,_,_,_,_,_,_,_,_,_,_,_,_,(rk QV).bY hii,λlW e47 gj e48=> ?_⟩;have yL:Ext fE.drew gj.drew:=((aQ e47).ag e48 (aC _)).drew;have z48:gj.drew.heap.size=fE.drew.heap.size+1:=by show gj.heap.size=_;rw [zR e48,zA e47]
  have r48:∃τ,Row gj.drew fE.drew.heap.size (ki r) τ:=⟨_,by rw [e48,e47];exact (Row.set (Row.new fE.drew [_,_,_,_,_,_,_,_,_,_,_,_,_] _) (ki r)).ext (Ext.dr _)⟩;obtain ⟨τ',r48⟩:=r48;have IC:=QV.tr yL;refine ⟨_,(viewS IC).1,(viewS IC).2.mono ?_⟩;rintro e mT ⟨rfl,awm⟩;subst awm;have oky:=hL r.2 (oF AX);have lin:af gj.drew (dC fE.drew.heap.size 10) 0 [.int .i64 r.2.2.1,.int .i64 r.2.2.2.1,.bool r.2.2.2.2]:=sD r48 rfl rfl rfl;have lbd:af gj.drew (dC fE.drew.heap.size 1) 0 (jO r.2.1):=r48.bY (o:=1) λj hj=>by have:=mlB r j hj;rw [<-this]
  refine ⟨_,rfl,rfl,rfl,lin,parL IC,lbd,(F7 (h0.ext IC).tl rfl r.2.1 oky.wdi oky.2.2.2 (oky.nV ab) ab r.2.2).mono ?_⟩;rintro e Q4 ⟨rfl,lh⟩;have z52:=lh.size;have awn:=IC.tr lh;refine ⟨_,_,_,_,_,_,_,_,_,rfl,lh.heap ab,lh.heap ab,parL awn,λiH e62=> ?_⟩;have om:=aQ e62;subst e62;have dN:s2.n<=16:=by have h1:=(AS.rd (show 0<9 by decide)).n;rw [aN,aN,dK] at h1;omega
  have AU:∀g,s2.bf=some g->wr.heap.size<=g/\g<fE.heap.size:=λg hg=>AS.own.lt hg
  obtain ⟨D7,hres8⟩:=(AS.ext (xd.tr (yL.tr lh))).jk (bytes:=72) (news:=jO (oU (fj M.T.2) r.2.1 r.2.2)) (.cells (jO (oU (fj M.T.2) r.2.1 r.2.2)).toArray AV) ab rfl (xN _) ab ab;refine ⟨D7,λs63 ue awo=> ?_⟩;obtain ⟨f8,yM,hn8,x8,Hj,-⟩:=hres8 s63 ue awo;have wk:=nS (j:=j);have awp:Ext w0 ue:=xr.tr (Below.trans (jN.tr (xd.tr (yL.tr lh))) x8);have k1:=(x8.block w ab).trans (om.heap ab).symm;have k2:=(Hj fE.drew.heap.size (λq=>by have:=AU _ q;omega) ab).trans (om.heap ab).symm;refine ⟨k1,k2,f8,parL awp,n2-1,by omega,rfl,j+1,wk,by omega,?_,Below.trans (jN.tr (xd.tr (yL.tr lh))) x8⟩;rw [dR,hi,bW,bW];have e1:gP M (rows.map ai) i=oU (fj M.T.2) r.2.1 r.2.2:=by unfold gP;rw [AX]
  show aE _ _ _ _ _ (_++ [jO (gP M (rows.map ai) i)]);rw [e1];exact yM
 have hb:¬(j:Int)<sl.n:=by simpa using hb
 have hjw:j=(ey M (rows.map ai)).length:=by omega
 subst hjw;rw [iR] at AS;have QV:=xr.tr jN;refine ⟨_,(viewS QV).1,(viewS QV).2.mono ?_⟩;rintro e rT ⟨rfl,awq⟩;subst awq;refine ⟨_,rfl,rfl,(F8 (h0.ext QV).tl rfl AS (by rw [aN];exact hwl) (zi hL ab) ab ab).mono ?_⟩;rintro e uc ⟨s69,rfl,ad1,mS,bn,VB⟩;rw [aN] at VB;replace ad1:aE rT AV 9 uc s69 ((qx M (rows.map ai)).map jO):=ad1;replace VB:(qx M (rows.map ai)).length=(ey M (rows.map ai)).length:=VB;replace bn:∀b ∈ qx M (rows.map ai),okB (n+16777216+16*16*12582912) b:=bn;have z68:=mS.size;have s69k:∀b,s69.bf=some b->rT.heap.size<=b/\b<uc.heap.size:=λb hb=>ad1.own.lt hb
 have awr:s69.n=(ey M (rows.map ai)).length:=by rw [(ad1.rd (show 0<9 by decide)).n,aN,VB]
 have ad2:=QV.tr mS;have hmw:=hm.lt;refine ⟨s69,rfl,mS.heap ab,λn x mU=>∃j:Nat,x=j/\j+n=(ey M (rows.map ai)).length/\Row mU b ((GU M rows j).map ki).flatten CR/\Mod (λi=>i=b) uc mU,⟨(ey M (rows.map ai)).length,rfl,0,rfl,by omega,hr.ext ad2,Mod.refl _ _⟩,?_⟩;rintro n3 us3 x mU ⟨j,rfl,hj,alz,m74⟩;have z74:=m74.size;have zz:=ad2.size;have hlu:(GU M rows j).length=16:=(Kh _ _).trans AY;have wbox:mU.heap[w.heap.size]? =uc.heap[w.heap.size]? :=m74.same _ ab ab;have last:j=(ey M (rows.map ai)).length->∃p88:Option Addr,Vc.ld mU (ae (aB m) 1)=some (.pointer p88)/\
   ah 118 #[p88,.func (.func 120) #[] #[w]] mU λe pf=>e=po/\
    ∃p90:Option Addr,Vc.ld pf (aB w.heap.size)=some (.pointer p90)/\aP (dq p90) (aP (dq p90) (∃p91:Option Addr,Vc.ld pf (ae p90 1)=some (.pointer p91)/\
     ah 119 #[p91] pf λe w92=>∃tJ:Int,e=tJ/\Ending.returned tJ=Value.int .i64 (qR M).length/\ln F w m s o t (kL M (rows.map ai)).1 (ajH w) (pS M rows) w92)):=by
  intro hjw;subst hjw;have hup:GU M rows (ey M (rows.map ai)).length=pS M rows:=by unfold GU pS;rw [fN (by rw [List.length_zip,VB];omega)]
  rw [hup] at alz hlu;obtain ⟨F74,h74,t74⟩:=bk ((Mod.aH ad2).trans m74) alz hlu;have apE:¬F74 w:=λq=>by
   rcases t74.sub _ q with q|q
   ·exact hwF q
   ·omega
  have hr74b:Row mU w [m] τ:=(r0.ext ad2).same wbox;obtain ⟨Fs,hs,kf,-,-,hresS⟩:=h74.ud;refine ⟨_,kf,(zT hs (.func 120) #[] #[w]).mono ?_⟩;rintro e pf ⟨rfl,awt,-⟩;refine ⟨rfl,?_⟩;obtain ⟨F89,h89,t89⟩:=hresS awt;have awu:¬F89 w:=λq=>by
   rcases t89.sub _ q with q|q
   ·exact apE q
   ·omega
  have hr89b:=t89.mod.row hr74b apE;have awv:q9 (n+3300000000) ((pS M rows).map ai):=by rw [ji];exact Et _ (hL.up ab) λx hx=>(bn x.2 (List.of_mem_zip hx).2).up ab
  obtain ⟨Fs2,AU,hO,hld2,hres2⟩:=mOc h89 awv hr89b awu;rw [ji] at hO;refine ⟨_,by rw [hr89b.ld];rfl,fT rfl (fT rfl ⟨_,hld2,(JI AU hO hd hk akT).mono ?_⟩)⟩;rintro e w92 ⟨rfl,aww⟩;obtain ⟨F92,h92,t92⟩:=hres2 aww;exact ⟨_,rfl,rfl,F92,h92,(aM.aH x0).trans (t74.trans (t89.trans t92))⟩
 apply Br.mk<;>intro hb
 ·have hb:(j:Int)<sl.n:=by simpa using hb
  refine yes (by rw [awr,<-u9];simpa using hb) ?_;obtain ⟨i,hi⟩:=bE (l:=ey M (rows.map ai)) (i:=j) ab;obtain ⟨x,hx⟩:=bE (l:=qx M (rows.map ai)) (i:=j) ab;obtain ⟨r,v8,HH,AX⟩:=atk i (aX hi);have xd:=Ext.dr mU;have zd:=lE mU;have hrd69:=((m74.iq ad1 λg hg q=>by have:=s69k g hg;omega).ext xd).rd (show 0<9 by decide);have hrx:((qx M (rows.map ai)).map jO)[j]? =some (jO x):=by rw [aR,hx];rfl
  have HG:=((m74.iq ((ho.ext jN).ext mS) λg hg q=>by have:=slk g hg;omega).ext xd).rd (show 0<1 by decide);have hri2:((ey M (rows.map ai)).map num)[j]? =some [.int .i64 (i:Int)]:=by rw [aR,hi];rfl
  have Mo:=HG.at hri2 (j:=0) (v:=.int .i64 (i:Int)) rfl;rw [dn] at Mo;have awx:=(((hm.ext ad2).same (m74.same _ ab hmb)).ext xd);obtain ⟨p0,p1,pb,p2⟩:=afS hlu (alz.ext xd) HH x;refine ⟨⟨aB b,16,16⟩,awx.at 2 rfl,HG.im aF ab ab,_,Mo,hrd69.im aF ab ab,_,_,_,_,_,_,_,_,_,hrd69.bY hrx,inb i HH,fT rfl ⟨⟨p0,p1⟩,by rw [pb];intro q;injection q with q;omega,λCs e87=> ?_⟩⟩;obtain ⟨q1,q2⟩:=p2 Cs e87;have wk:=nS (j:=j);refine ⟨n3-1,by omega,rfl,j+1,wk,by omega,?_,m74.trans ((Mod.aH xd).trans q2)⟩;rw [Ts hi hx];exact q1
 ·have hb:¬(j:Int)<sl.n:=by simpa using hb
  exact last ab
end
abbrev tXr:TypeId:=164
abbrev tWt:TypeId:=166
def xAt(L:List (Option dS))(i:Nat):Xr:=((i:Int),match cj L i with|some y=>y.1|none=>Ja)
def tN(L:List (Option dS))(k:Nat):List Xr:=((List.range k).filter λi=>(cj L (i:Nat)).isSome).map (xAt L)
def Rh(L:List (Option dS)):(tN L 16).length=(cQ L).length:=by unfold tN cQ;rw [aN,aN]
def VN(M:Sm)(L:List (Option dS)):FV M.now (tN L 16) M.q.l=mX M L:=by
 unfold FV mX;rw [Rh];have:((tN L 16).map λx=>gC x.1 x.2).flatten=fC L (cQ L):=by
  unfold fC tN cQ;rw [kS,kS];congr 1;refine wG λi hi=> ?_
  have h2:=(iI.1 hi).2;obtain ⟨y,hy⟩:=oE.1 h2;show gC (xAt L i).1 (xAt L i).2=C0 L (i:Int);unfold xAt C0;rw [hy]
 rw [this]
def ai1(x:Xr):One (xrL x):=by
 intro u hu;rcases cB.1 hu with rfl|hu
 ·rfl
 ·exact xN x.2 u hu
section
variable {F F':Nat->Prop} {w w':World} {m s o t:Nat} {M M':Sm} {occ:Value} {rows:List iE}
set_option maxHeartbeats 4000000 in
def KE(h:MF F w m s o t M occ rows):ah 62 #[m] w λe w'=>∃sx sw:Sl,e=Value.agg #[M.now,sx,sw]/\RdK w' sx 10 ((tN (rows.map ai) 16).map xrL)/\RdK w' sw 4 (M.q.l.map fV)/\Ext w w':=by
 apply xH.vc;intro w0 e0;have x0:=aQ e0;have z0:=zA e0;have h0:=h.ext x0;obtain ⟨Fs,hs,kf,-⟩:=h0.ud;obtain ⟨b,hm,hr,AY,-⟩:=h0.KD;have ldm:∀{u:World},Ext w0 u->Vc.ld u (ae (aB m) 2)=some (.slice (aB b) 16 16):=λxu=>(hm.ext xu).at 2 rfl
 have rk:∀{u:World},Ext w0 u->RdK u ⟨aB b,16,16⟩ 13 (rows.map ki):=λxu=>uh (hr.ext xu) AY
 have inb:∀k:Nat,k<16->eA (aB b) (k:Int) 16:=λk hk=>(rk (Ext.cM _)).im (i:=(k:Int)) aF ab (by show (k:Int)<((16:Nat):Int);omega)
 refine ⟨_,kf,(JF hs).mono ?_⟩;rintro e w2 ⟨rfl,Cu⟩;subst Cu;refine ⟨_,rfl,rfl,λw4 e4 w5 e5=> ?_⟩;have x5:Ext w2 w5:=(aQ e4).ag e5 (aC _);have z5:w5.heap.size=w2.heap.size+1:=by rw [zR e5,zA e4]
 refine ⟨λn x now s1 s2 wr=>∃k:Nat,x=k/\k+n=16/\now=M.now/\s2=⟨none,0,0⟩/\aE w5 tXr 10 wr s1 ((tN (rows.map ai) k).map xrL)/\Ext w2 wr/\w5.heap.size<=wr,⟨16,rfl,0,rfl,rfl,rfl,rfl,aE.nil,x5,aC _⟩,?_⟩;rintro n us x now s1 s2 bK ⟨k,rfl,hk,rfl,rfl,ho,cn,z13⟩;apply Br.mk<;>intro hq
 ·have hq:(k:Int)<16:=by simpa using hq
  obtain ⟨r,MA⟩:=bE (l:=rows) (i:=k) ab;have hi:(rows.map ki)[k]? =some (ki r):=by rw [aR,MA];rfl
  have AX:=mi (rows:=rows) (n:=k) rfl MA;have wk:=nS (j:=k);have xd:=Ext.dr bK;have zd:=lE bK;refine ⟨⟨aB b,16,16⟩,ldm cn,inb k ab,fT rfl ⟨r.1,(rk cn).at hi (ZO r),Br.mk (λhb=> ?_) (λhb=> ?_)⟩⟩
  ·have Ql:ai r=some r.2:=by unfold ai;rw [if_pos hb]
   rw [Ql] at AX;have xx:=cn.tr xd;refine ⟨⟨aB b,16,16⟩,ldm xx,inb k ab,fT rfl ⟨_,_,_,_,_,_,_,_,_,kB (rk xx) hi (mlB r),λdX e27=> ?_⟩⟩;have fO:=aQ e27;have dN:s1.n<=16:=by have h1:=(ho.rd (show 0<10 by decide)).n;rw [aN] at h1;unfold tN at h1;rw [aN] at h1;have h2:=wM (λi:Nat=>(cj (rows.map ai) (i:Nat)).isSome) (List.range k);rw [C1] at h2;omega
   have eR:∀g,s1.bf=some g->w5.heap.size<=g/\g<bK.heap.size:=λg hg=>ho.own.lt hg
   have z27:=zA e27;subst e27;obtain ⟨D7,hres8⟩:=(ho.ext xd).jk (bytes:=80) (news:=xrL ((k:Int),r.2.1)) (.cells (xrL ((k:Int),r.2.1)).toArray tXr) ab rfl (ai1 _) ab ab;refine ⟨D7,λQ5 dW atF=> ?_⟩;obtain ⟨f8,yM,hn8,x8,Hj,-⟩:=hres8 Q5 dW atF;have x8':Ext w2 dW:=Below.trans (cn.tr xd) (Below.mono x8 ab);have z29:=x8.size;have de:∀j,j<w5.heap.size->dW.heap[j]? =(bK.drew.alloc (.cells (xrL ((k:Int),r.2.1)).toArray tXr)).heap[j]? :=λj hj=>(Hj j (λq=>by have:=eR _ q;omega) ab).trans (fO.heap ab).symm
   refine ⟨de _ ab,de _ ab,f8,N2 (ldm x8'),λfE My=> ?_⟩;have z30:=zR My;have k30:∀j,j≠w2.heap.size->fE.heap[j]? =dW.heap[j]? :=λj hj=>by rw [My];exact setRow_other _ _ _ _ hj
   refine ⟨n-1,by omega,rfl,k+1,wk,by omega,rfl,rfl,?_,x8'.ag My (aC _),by omega⟩;have e1:tN (rows.map ai) (k+1)=tN (rows.map ai) k++ [((k:Int),r.2.1)]:=by unfold tN;rw [wQ,qc,bW,Jw (by rw [AX];rfl)];show _++ [xAt _ k]=_;unfold xAt;rw [AX]
   rw [e1,bW];refine aE.de yM λg hg=>k30 g λq=> ?_
   have:=(yM.own.lt hg).1;omega
  ·have hb:r.1=false:=by simpa using hb
   have Ql:ai r=none:=by unfold ai;rw [if_neg (by rw [hb];decide)]
   rw [Ql] at AX;refine ⟨n-1,by omega,rfl,k+1,wk,by omega,rfl,rfl,?_,cn,z13⟩;have e1:tN (rows.map ai) (k+1)=tN (rows.map ai) k:=by unfold tN;rw [wQ,qc,Jy (by rw [AX];decide)];simp
   rw [e1];exact ho
 have hq:¬(k:Int)<16:=by simpa using hq
 have:k=16:=by omega
 subst this;obtain ⟨aAR,aoe,hld13,-⟩:=(h0.ext cn).ud;refine ⟨_,hld13,(wR aoe).mono ?_⟩;rintro e ni ⟨MD,rfl,aof,ic⟩;have z32:=ic.size;have hrd33:=aof.rd (show 0<4 by decide);have aAS:MD.n=M.q.l.length:=by rw [hrd33.n,aN]
 have aog:∀g,MD.bf=some g->bK.heap.size<=g/\g<ni.heap.size:=λg hg=>aof.own.lt hg
 obtain ⟨gq,mq,qs,-,uY,-⟩:=aoe.queue;have hql:M.q.l.length<=4096:=by have:=uY.len;have:=uY.room;omega
 have agH:=ho.ext ic;have eR:∀g,s1.bf=some g->w5.heap.size<=g/\g<bK.heap.size:=λg hg=>ho.own.lt hg
 have hxs:((tN (rows.map ai) 16).map xrL).length<=16:=by rw [aN,Rh];exact yR _
 refine ⟨MD,rfl,ic.heap ab,ic.heap ab,λn x now s1' s2 wr=>∃k:Nat,x=k/\k+n=M.q.l.length/\now=M.now/\s1=s1'/\aE ni tWt 4 wr s2 ((M.q.l.take k).map fV)/\Mod (λi=>i=w2.heap.size\/ni.heap.size<=i) ni wr,⟨M.q.l.length,rfl,0,rfl,by omega,rfl,rfl,aE.nil,Mod.refl _ _⟩,?_⟩;rintro n2 yI x now s1' s2 jw ⟨k,rfl,Hh,rfl,rfl,AS,m41⟩;have z41:=m41.size;have lC:Ext w2 jw:=m41.ext (cn.tr ic) λi hi=>by omega
 apply Br.mk<;>intro hq
 ·have hq:(k:Int)<MD.n:=by simpa using hq
  obtain ⟨it,ZI⟩:=bE (l:=M.q.l) (i:=k) ab;have dy:(M.q.l.map fV)[k]? =some (fV it):=by rw [aR,ZI];rfl
  have xd:=Ext.dr jw;have zd:=lE jw;have kF:RdK jw.drew MD 4 (M.q.l.map fV):=(hrd33.same λg hg=>m41.same g (aog g hg).2 λq=>by have:=aog g hg;omega).ext xd;have pc:eA MD.a (k:Int) MD.n:=kF.im aF ab hq;refine ⟨pc,bB.2 ⟨jj.2 (by rw [gL];exact pc.1),_,kF.at dy (j:=0) (v:=.int .i64 it.1) rfl,pc,bB.2 ⟨jj.2 (by rw [gL];exact pc.1),_,_,_,kB kF dy (off:=1) (vs:=[.int .i64 it.2.1,.int .i64 it.2.2.1,.int .i64 it.2.2.2]) (λj _=>by rw [um,C2]),λlW e47=> ?_⟩⟩⟩;have sW:=aQ e47;have z47:=zA e47;have AU:∀g,s2.bf=some g->ni.heap.size<=g/\g<jw.heap.size:=λg hg=>AS.own.lt hg
  have dN:s2.n<=4096:=by have h1:=(AS.rd (show 0<4 by decide)).n;rw [aN,dK] at h1;omega
  subst e47;obtain ⟨D7,hres8⟩:=(AS.ext xd).jk (bytes:=32) (news:=fV it) (.cells (fV it).toArray tWt) ab rfl (Q.sq it) ab ab;refine ⟨D7,λTP lq atH=> ?_⟩;obtain ⟨f8,yM,hn8,x8,Hj,-⟩:=hres8 TP lq atH;have z49:=x8.size;have de:∀j,j<ni.heap.size->lq.heap[j]? =(jw.drew.alloc (.cells (fV it).toArray tWt)).heap[j]? :=λj hj=>(Hj j (λq=>by have:=AU _ q;omega) ab).trans (sW.heap ab).symm
  refine ⟨de _ ab,de _ ab,f8,λmT e50=> ?_⟩;have k50:∀j,j≠w2.heap.size->mT.heap[j]? =lq.heap[j]? :=λj hj=>by rw [e50];exact setRow_other _ _ _ _ hj
  have mr:=qg e50;refine ⟨n2-1,by omega,rfl,k+1,by rw [wI];omega,by omega,rfl,rfl,?_,m41.trans ((Mod.aH xd).trans (Mod.trans ⟨x8.os,x8.tape,x8.output,z49,λi hi hn=>x8.block i ab⟩ (mr.mono λi _ hi=> .inl hi)))⟩;rw [dR,ZI,bW];refine aE.de yM λg hg=>k50 g λq=> ?_
  have:=(yM.own.lt hg).1;omega
 ·have hq:¬(k:Int)<MD.n:=by simpa using hq
  have hk':k=M.q.l.length:=by omega
  subst hk';rw [iR] at AS;intro tH e51;have z51:=zR e51;have k51:∀j,j≠w.heap.size->tH.heap[j]? =jw.heap[j]? :=λj hj=>by rw [e51];exact setRow_other _ _ _ _ hj
  refine ⟨s1,s2,rfl,?_,?_,(x0.tr lC).ag e51 (aC _)⟩
  ·refine ((agH.rd aF).same λg hg=>m41.same g ?_ λq=> ?_).same λg hg=>k51 g λq=> ?_
   ·have:=eR g hg;omega
   ·have:=eR g hg;omega
   ·have:=eR g hg;omega
  ·refine (AS.rd aF).same λg hg=>k51 g λq=> ?_
   have:=(AS.own.lt hg).1;omega
end
variable {R:Ending->World->Prop} {w:World} {a0 a1 a2 a3 a4 a5 a6 a7 a8 a9 aA ar au aU aV aZ bG bC bD Cf aj aq aw bt bR bH eB eO eC wh bA bQ bw wi wm vb vd wo wu wx Ch Ci Cj Ck Cm Cn Co Cp Cq Cr:Int}
def Rf.vc{a0:Addr}{a1:Addr}{ad3:Int}{tK:Int}{tL:Int}{tM:Int}{VG:Int}{VH:Int}{VI:Bool}(h:
 Aw w #[bA,bQ,bw,wi,wm,vb,vd,wo,wu,wx,ad3,tK,tL,tM,VG,VH,VI] 45 λw0=>
 ah 10 #[bQ,(4:Int)] w0 (Ri λx2 w1=>Kp w w0 w1/\
 ah 51 #[.agg #[wi,wm]] w1 (Ra2 λx4 x5 w3=>Kp w w1 w3/\
 Aw w3 #[aa,aa] 40 λw6=>
 Sw w6 w3 #[x4,x5] λw7=>
 ∃(p8:Option Addr),ld w7 (ae (some a0) 0)=some (.pointer p8)/\
 ah 18 #[p8] w7 (λe w9=>∃(tf:Option Addr),e=tf/\K2 w w3 w7 w9 (
 ah 19 #[tf] w9 (λe bg=>∃(pz:Option Addr),e=pz/\K2 w w3 w9 bg (
 ∃(QO:Option Addr),ld bg (ae (some a1) 0)=some (.pointer QO)/\
 ah 19 #[QO] bg (λe bO=>∃(Ui:Option Addr),e=Ui/\K2 w w3 bg bO (
 Br (pz).isNone
 (R false bO)
 (Br (Ui).isNone
 (R false bO)
 (Br (bA==0)
 (ah 20 #[pz,.agg #[x4,x5]] bO.drew (Ri λdh cF=>K2 w w3 bO.drew cF (
 af cF (aB w3) 0 [x4,x5]/\ah 20 #[Ui,.agg #[x4,x5]] cF (Ri λcu dH=>K2 w w3 cF dH (
 R (Value.bool (dh==cu)) dH)))))
 (Br (bA==1)
 (ah 21 #[pz,.agg #[x4,x5]] bO.drew (Ri λdb eW=>K2 w w3 bO.drew eW (
 af eW (aB w3) 0 [x4,x5]/\ah 21 #[Ui,.agg #[x4,x5]] eW (Ri λdG dP=>K2 w w3 eW dP (
 R (Value.bool (db==dG)) dP)))))
 (Br (bA==2)
 (ah 22 #[pz] bO (λe gl=>∃(dY fg:Int),e=Value.tuple #[dY,fg]/\K2 w w3 bO gl (
 ah 22 #[Ui] gl (λe dX=>∃(gm gn:Int),e=Value.tuple #[gm,gn]/\K2 w w3 gl dX (
 Br (dY==gm)
 (R (Value.bool (fg==gn)) dX)
 (R false dX))))))
 (Br (bA==3)
 (ah 52 #[.agg #[wu,wx,ad3]] bO (iF λiD ic eL fE=>K2 w w3 bO fE (
 Aw fE #[aa,aa,aa] 28 λjf=>
 Sw jf fE #[iD,ic,eL] λkh=>
 ah 10 #[vb,(60000:Int)] kh (Ri λgI kG=>K3 w w3 fE kh kG (
 ah 10 #[vd,(120000:Int)] kG (Ri λoh oD=>K3 w w3 fE kG oD (
 ah 11 #[a0,.agg #[iD,ic,eL],gI,oh] oD (λe jP=>∃(lC nj:Int),e=Value.tuple #[lC,nj]/\K3 w w3 fE oD jP (
 ah 53 #[a1,.agg #[iD,ic,eL],gI,oh] jP (λe jg=>∃(lD pI:Int),e=Value.tuple #[lD,pI]/\K3 w w3 fE jP jg (
 Br (lC==lD)
 (R (Value.bool (nj==pI)) jg)
 (R false jg))))))))))))
 (Br (bA==4)
 (ah 54 #[a0,x2,.agg #[VG,VH,VI]] bO (Ri λsW qo=>K2 w w3 bO qo (
 ∃(TP:Sl),ld qo (ae (some a1) 2)=some (.slice TP.a TP.n TP.c)/\
 eA TP.a x2 TP.n/\aP (dq (ae TP.a ((x2:Int).toNat*13))) (∃(b49:Bool),ld qo (ae (ae TP.a ((x2:Int).toNat*13)) 0)=some (.bool b49)/\
 Br b49
 (∃(s50:Sl),ld qo.drew (ae (some a1) 2)=some (.slice s50.a s50.n s50.c)/\
 eA s50.a x2 s50.n/\aP (dq (ae s50.a ((x2:Int).toNat*13))) ((((ae (ae s50.a ((x2:Int).toNat*13)) 10)).isSome=true/\Wr qo.drew (ae (ae s50.a ((x2:Int).toNat*13)) 10) 3)/\bz (ae (ae s50.a ((x2:Int).toNat*13)) 10)≠some w.heap.size/\bz (ae (ae s50.a ((x2:Int).toNat*13)) 10)≠some w3.heap.size/\(∀tH,tH=aL qo.drew (ae (ae s50.a ((x2:Int).toNat*13)) 10) [VG,VH,VI]->
 ∃(s52:Sl),ld tH (ae (some a1) 2)=some (.slice s52.a s52.n s52.c)/\
 eA s52.a x2 s52.n/\aP (dq (ae s52.a ((x2:Int).toNat*13))) (∃(b53:Bool),ld tH (ae (ae s52.a ((x2:Int).toNat*13)) 0)=some (.bool b53)/\
 Br ((sW==0)==b53)
 (Br (sW==0)
 (R true tH)
 (R (Value.bool (sW==6)) tH))
 (R false tH)))))
 (∃(EH:Sl),ld qo (ae (some a1) 2)=some (.slice EH.a EH.n EH.c)/\
 eA EH.a x2 EH.n/\aP (dq (ae EH.a ((x2:Int).toNat*13))) (∃(b55:Bool),ld qo (ae (ae EH.a ((x2:Int).toNat*13)) 0)=some (.bool b55)/\
 Br ((sW==0)==b55)
 (Br (sW==0)
 (R true qo)
 (R (Value.bool (sW==6)) qo))
 (R false qo)))))))
 (Br (bA==5)
 (ah 56 #[bw] bO.drew (Ri λoo qH=>K2 w w3 bO.drew qH (
 af qH (dC w 2) 0 [bw]/\af qH (dC w 11) 0 [tK,tL,tM]/\af qH (dC w 11) 0 [tK,tL,tM]/\ah 55 #[a0,x2,.agg #[tK,tL,tM],oo] qH (Ri λqq Cx=>K2 w w3 qH Cx (
 af Cx (dC w 2) 0 [bw]/\af Cx (dC w 11) 0 [tK,tL,tM]/\ah 56 #[bw] Cx (Ri λvI mQ=>K2 w w3 Cx mQ (
 af mQ (dC w 11) 0 [tK,tL,tM]/\ah 57 #[a1,x2,.agg #[tK,tL,tM],vI] mQ (Ri λuf iH=>K2 w w3 mQ iH (
 R (Value.bool (qq==uf)) iH)))))))))
 (Br (bA==6)
 (ah 33 #[a0,x2,.agg #[tK,tL,tM]] bO (λe ue=>∃(rW mg:Int),e=Value.tuple #[rW,mg]/\K2 w w3 bO ue (
 ah 58 #[a1,x2,.agg #[tK,tL,tM]] ue (λe jH=>∃(mS qN:Int),e=Value.tuple #[mS,qN]/\K2 w w3 ue jH (
 Br (rW==mS)
 (R (Value.bool (mg==qN)) jH)
 (R false jH))))))
 (Br (bA==7)
 (ah 28 #[.agg #[vb,vd,wo]] bO (iF λoq nL nM ou=>K2 w w3 bO ou (
 Aw ou #[aa,aa,aa] 41 λmU=>
 Sw mU ou #[oq,nL,nM] λsY=>
 ah 56 #[bw] sY.drew (Ri λHo j6=>K3 w w3 ou sY.drew j6 (
 af j6 (dC w 2) 0 [bw]/\af j6 (aB ou) 0 [oq,nL,nM]/\af j6 (aB ou) 0 [oq,nL,nM]/\ah 59 #[a0,.agg #[oq,nL,nM],Ho] j6 (Ri λAM qu=>K3 w w3 ou j6 qu (
 af qu (dC w 2) 0 [bw]/\af qu (aB ou) 0 [oq,nL,nM]/\ah 56 #[bw] qu (Ri λrP vL=>K3 w w3 ou qu vL (
 af vL (aB ou) 0 [oq,nL,nM]/\ah 60 #[a1,.agg #[oq,nL,nM],rP] vL (Ri λrV w82=>K3 w w3 ou vL w82 (
 R (Value.bool (AM==rV)) w82)))))))))))
 (Br (bA==8)
 (ah 13 #[a0,x2] bO (Ri λvK Mc=>K2 w w3 bO Mc (
 ∃(s86:Sl),ld Mc (ae (some a1) 2)=some (.slice s86.a s86.n s86.c)/\
 eA s86.a x2 s86.n/\aP (dq (ae s86.a ((x2:Int).toNat*13))) (∃(b87:Bool),ld Mc (ae (ae s86.a ((x2:Int).toNat*13)) 0)=some (.bool b87)/\
 ∃(s88:Sl),ld Mc (ae (some a1) 2)=some (.slice s88.a s88.n s88.c)/\
 eA s88.a x2 s88.n/\(((ae s88.a ((x2:Int).toNat*13))).isSome=true/\Wr Mc (ae s88.a ((x2:Int).toNat*13)) 13)/\bz (ae s88.a ((x2:Int).toNat*13))≠some w.heap.size/\bz (ae s88.a ((x2:Int).toNat*13))≠some w3.heap.size/\(∀pf,pf=aL Mc (ae s88.a ((x2:Int).toNat*13)) [.bool false,aa,aa,aa,aa,aa,aa,aa,aa,false,aa,aa,false]->
 Br ((vK==0)==b87)
 (Br (vK==0)
 (R true pf)
 (R (Value.bool (vK==6)) pf))
 (R false pf))))))
 (Br (bA==9)
 (ah 35 #[a0] bO (Ri λyP pg=>K2 w w3 bO pg (
 ah 62 #[a1] pg (λe w92=>∃(tJ:Int)(s94 s95:Sl),e=Value.agg #[tJ,s94,s95]/\K2 w w3 pg w92 (
 ah 34 #[.agg #[tJ,s94,s95]] w92 (Rs λs97 w96=>K2 w w3 w92 w96 (
 ah 61 #[Ui,s97] w96 (Ri λKv Qq=>K2 w w3 w96 Qq (
 R (Value.bool (yP==Kv)) Qq)))))))))
 (Br (bA==10)
 (ah 32 #[a0,x2,.agg #[tK,tL,tM]] bO (λe qF=>∃(qK qG sZ pJ ph np nq:Int),e=Value.tuple #[.agg #[qK,qG,sZ,pJ,ph,np],nq]/\K2 w w3 bO qF (
 Aw qF #[aa,aa,aa,aa,aa,aa] 77 λMf=>
 Sw Mf qF #[qK,qG,sZ,pJ,ph,np] λHu=>
 ah 63 #[a1,x2,.agg #[tK,tL,tM]] Hu (λe Hv=>∃(nr ig ta vg HE HD IS:Int),e=Value.tuple #[.agg #[nr,ig,ta,vg,HE,HD],IS]/\K3 w w3 qF Hu Hv (
 Aw Hv #[aa,aa,aa,aa,aa,aa] 77 λHw=>
 Sw Hw Hv #[nr,ig,ta,vg,HE,HD] λpK=>
 Br (nq==IS)
 (Br ((qK==nr) &&((qG==ig) &&(sZ==ta)))
 (Br (pJ==vg)
 (Br (ph==HE)
 (R (Value.bool (np==HD)) pK)
 (R false pK))
 (R false pK))
 (R false pK))
 (R false pK))))))
 (ah 64 #[a0] bO (Ri λT9 HA=>K2 w w3 bO HA (
 ah 65 #[a1] HA (Ri λAP QC=>K2 w w3 HA QC (
 R (Value.bool (T9==AP)) QC)))))))))))))))))))))))))):ah 15 #[a0,a1,.agg #[bA,bQ,bw,wi,wm,vb,vd,wo,wu,wx,ad3,tK,tL,tM,VG,VH,VI]] w R:=
 cq bU Tryz.func15 h
def EA{a b:List Int}(ha:nC a)(hb:nC b):nC (a++b):=λx hx=>(cV.1 hx).elim (ha x) (hb x)
def Vm(n:Int):nC (DP n):=λx hx=>by
 obtain ⟨q,-,rfl⟩:=aW.1 hx
 exact abd n q
def G1{α:Type}{f:α->List Int}{l:List α}(h:∀x ∈ l,nC (f x)):nC (l.map f).flatten:=λx hx=>by
 obtain ⟨r,hr,hx⟩:=List.mem_flatten.1 hx
 obtain ⟨y,hy,rfl⟩:=aW.1 hr
 exact h y hy x hx
def PZ(l:List Int):nC (mG l):=G1 λx _=>Vm x
def afZ(n m:Int):nC [n % 256,m % 256]:=λx hx=>by
 simp at hx
 rcases hx with rfl|rfl<;>omega
def KF(M:Sm)(L:List (Option dS)):nC (mX M L):=by
 unfold mX dJ fC vC;refine EA (EA (EA (Vm _) λx hx=> ?_) (G1 λx hx=> ?_)) (EA (afZ _ _) (G1 λx _=>PZ _))
 ·simp at hx;omega
 ·obtain ⟨i,rfl,hi,y,hy⟩:=PS hx;unfold C0 gC;rw [hy];intro z hz;rcases cB.1 hz with rfl|hz
  ·omega
  ·rcases cV.1 hz with hz|hz
   ·exact PZ _ z hz
   ·have:z=stB y.1.ir:=by simpa using hz
    rw [this];unfold stB;split<;>decide
def Ur(M:Sm)(L:List (Option dS)):(mX M L).length<=50000:=by have h1:=yp L (cQ L);have h2:=yR L;have h3:=LZ (M.q.l.take 2000);rw [dK] at h3;unfold mX dJ vC;rw [dv,dv,dv,dv,h3,uK];simp only [du,mH];omega
section
variable {F F':Nat->Prop} {w w':World} {g s o t m:Nat} {M M':Sm} {occ:Value} {L:List (Option dS)} {rows:List iE}
def mW{ch:List Cg}{T:Tb}{ak limit:Int}(h:WF F w o t ak limit T ch)(hW:T.1.l.length<=900000):
  ah 22 #[t] w λe w'=>e=Value.tuple #[.int .i64 (kv T.1 T.2).2.1,.int .i64 (kv T.1 T.2).2.2]/\HY F w o t ak limit (kv T.1 T.2).1 ch w':=by
 obtain ⟨F1,hT,-,bk⟩:=h.table;refine (D4 hT hW).mono ?_;rintro e w' ⟨rfl,hr⟩;exact ⟨rfl,bk hr⟩
def CB{ch:List Cg}{T:Tb}{ak limit:Int}(h:WF F w o t ak limit T ch)(hW:T.1.l.length<=1000000)(sl:Sl)(b:List Int)(hs:ij w sl b)(hb:nC b)(hn:b.length<=1099511627776):
  ah 61 #[t,sl] w λe w'=>e=Value.int .i64 (yZ T.1 0 b).2/\HY F w o t ak limit ((yZ T.1 0 b).1,T.2) ch w':=by
 obtain ⟨F1,hT,-,bk⟩:=h.table;refine (P2 hT hW sl b hs hb hn).mono ?_;rintro e w' ⟨rfl,hr⟩;exact ⟨rfl,bk hr⟩
def EF.world(h:EF F w g s o t M occ L):∃Fw,WF Fw w o t M.ak M.cap M.T M.ch/\∀{w':World} {T':Tb} {ch':List Go.eH.Cg},HY Fw w o t M.ak M.cap T' ch' w'->gO F w g s o t {M with T:=T',ch:=ch'} occ L w':=by obtain ⟨Fs,hs,-,-,bk⟩:=h.ud;obtain ⟨Fw,hW,-,hresW⟩:=hs.world;exact ⟨Fw,hW,λhr=>bk (hresW hr)⟩
def MF.world(h:MF F w m s o t M occ rows):∃Fw,WF Fw w o t M.ak M.cap M.T M.ch/\∀{w':World} {T':Tb} {ch':List Go.eH.Cg},HY Fw w o t M.ak M.cap T' ch' w'->ln F w m s o t {M with T:=T',ch:=ch'} occ rows w':=by obtain ⟨Fs,hs,-,-,-,bk⟩:=h.ud;obtain ⟨Fw,hW,-,hresW⟩:=hs.world;exact ⟨Fw,hW,λhr=>bk (hresW hr)⟩
abbrev ZQ(M:Sm)(L:List (Option dS)):Sm:={M with T:=((yZ M.T.1 0 (mX M L)).1,M.T.2)}
def VM(h:EF F w g s o t M occ L)(hW:M.T.1.l.length<=1000000):ah 35 #[g] w λe w'=>e=Value.int .i64 (yZ M.T.1 0 (mX M L)).2/\gO F w g s o t (ZQ M L) occ L w':=by apply yw.vc;have xd:=Ext.cM w;have hd:=h;obtain ⟨Fs,hs,kf,-,-⟩:=hd.ud;obtain ⟨Fw,hW0,-,-⟩:=hs.world;refine ⟨_,kf,(fY hs).mono ?_⟩;rintro e w1 ⟨rfl,Zk⟩;subst Zk;refine ⟨_,rfl,(pV hW0).mono ?_⟩;rintro e w2 ⟨rfl,Cu⟩;subst Cu;refine ⟨_,rfl,(uT hd).mono ?_⟩;rintro e w3 ⟨sl,rfl,ho,x3⟩;obtain ⟨Fw3,hW3,bk⟩:=(hd.ext x3).world;have hl:=Ur M L;refine ⟨sl,rfl,(CB hW3 hW sl (mX M L) (ho.rd aF) (KF M L) ab).mono ?_⟩;rintro e w4 ⟨rfl,hr⟩;exact ⟨_,rfl,rfl,gO.aH (xd.tr x3) (bk hr)⟩
end
structure Dr where
 kind:Int
 n:Int
 b:Int
 p:Po
 c:Ce
 aD:Ce
 c9:Ce
 pQ:El
abbrev dL(d:Dr):LV:=[.int .i64 d.kind,.int .i64 d.n,.int .i64 d.b,.int .i64 d.p.1,.int .i64 d.p.2,.int .i64 d.c.1,.int .i64 d.c.2.1,.int .i64 d.c.2.2,.int .i64 d.aD.1,.int .i64 d.aD.2.1,.int .i64 d.aD.2.2,.int .i64 d.c9.1,.int .i64 d.c9.2.1,.int .i64 d.c9.2.2,.int .i64 d.pQ.1,.int .i64 d.pQ.2.1,.bool d.pQ.2.2]
abbrev dV(d:Dr):Value:=.agg (dL d).toArray
def dIn(d:Dr):Prop:=bN d.kind/\bN d.n/\bN d.b/\(bN d.p.1/\bN d.p.2)/\pW d.c/\pW d.aD
def IY(rows:List iE)(i:Int)(pQ:El):List iE:=match rows[i.toNat]? with|some r=>if r.1=true then rows.set i.toNat (r.1,(r.2.1,pQ)) else rows|none=>rows
def ET(rows:List iE)(i:Int):List iE:=rows.set i.toNat (false,(Ja,(0,0,false)))
abbrev ix(d:Dr):Int:=cm d.n 4
abbrev JK(d:Dr):ee:=ft (IX d.aD) (cm d.c.1 60000) (cm d.c.2.1 120000)
def vN(M:Sm)(rows:List iE)(d:Dr):Sm × List iE:=
 if d.kind=0 then ({M with T:=(DK M.ak M.cap M.T.1 M.T.2 (A3 d.p)).1},rows)
 else if d.kind=1 then ({M with T:=(kZ M.T.1 M.T.2 (A3 d.p)).1},rows)
 else if d.kind=2 then ({M with T:=(kv M.T.1 M.T.2).1},rows)
 else if d.kind=3 then (M,uv M rows (JK d))
 else if d.kind=4 then (M,IY rows (ix d) d.pQ)
 else if d.kind=5 then ((iK M (rows.map ai) (ix d) d.c9 (tO d.b)).2,rows)
 else if d.kind=6 then ((gN M (rows.map ai) (ix d) d.c9).2,rows)
 else if d.kind=7 then ((dT M (rows.map ai) (iL d.c) (tO d.b)).2,rows)
 else if d.kind=8 then (M,ET rows (ix d))
 else if d.kind=9 then (ZQ M (rows.map ai),rows)
 else if d.kind=10 then (M,rows)
 else ((kL M (rows.map ai)).1,pS M rows)
def Ot(b:ee):Prop:=(-1000000<=b.speed.1/\b.speed.1<=1000000)/\-1000000<=b.speed.2.2/\b.speed.2.2<=1000000
def okT(x:fh.It):Prop:=A2 x.2/\0<=x.1/\x.1<=2000000000000
structure Jv(k:Nat)(M:Sm)(L:List (Option dS)):Prop where
 b:q9 (1200000+3300000000*(k:Int)) L
 s:qQ M (3000*k)
 d:M.T.1.l.length<=20*k
 t:∀e ∈ M.T.2,tp e.1
 q:∀x ∈ M.q.l,okT x
 x:∀y,some y ∈ L->Ot y.1
 u:1<=M.dE/\M.dE<=64
def Jv.mono{k n:Nat}{M:Sm}{L:List (Option dS)}(h:Jv k M L)(hk:k<=n):Jv n M L:=⟨h.b.up ab,h.s.mono ab,by have:=h.d;omega,h.t,h.q,h.x,h.u⟩
def Vi{D:Dk}{l:List En}{i:Nat}:(∀e ∈ l,tp e.1)->∀e ∈(Mv D l i).1.2,tp e.1:=by
 intro h;unfold Mv;split
 ·exact h
 ·rename_i e he;split
  ·exact λx hx=>h x ((wP ..).subset hx)
  ·intro x hx;rcases hX hx with hx|rfl
   ·exact h x hx
   ·have h1:(da D e).2.1.1=e.1:=by unfold da;split<;>rfl
    rw [h1];exact h e (aX he)
def amU{D:Dk}{l:List En}{i:Nat}:(Mv D l i).1.2.length<=l.length:=by
 unfold Mv;split
 ·exact aC _
 ·split
  ·exact List.length_eraseIdx_le ..
  ·rw [gW];exact aC _
def Ke{limit:Int}{D:Dk}{l:List En}(h:∀e ∈ l,tp e.1):∀e ∈(fo limit D l).1.2,tp e.1:=by
 unfold fo;split
 ·exact h
 ·split
  ·exact h
  ·exact Vi h
def ahs{ak limit:Int}{D:Dk}{l:List En}{p:Po}(h:∀e ∈ l,tp e.1):(∀e ∈(DK ak limit D l p).1.2,tp e.1)/\(DK ak limit D l p).1.1.l.length<=D.l.length+1:=by
 unfold DK;split
 ·exact ⟨h,by simp only;omega⟩
 split
 ·refine ⟨λe he=> ?_,by simp only;omega⟩;rcases cV.1 he with he|he
  ·exact h e ((wP ..).subset he)
  ·exact h e (aX (Option.mem_toList.1 he))
 split
 ·exact ⟨Ke h,Lr _ _ _⟩
 ·refine ⟨λe he=> ?_,Lr _ _ _⟩;rename_i hp _ _;rcases cV.1 he with he|he
  ·exact Ke h e he
  ·rw [iN.1 he];simpa using hp
def UT{D:Dk}{l:List En}{p:Po}(h:∀e ∈ l,tp e.1):(∀e ∈(kZ D l p).1.2,tp e.1)/\(kZ D l p).1.1.l.length<=D.l.length+1/\(kZ D l p).1.2.length<=l.length:=by
 unfold kZ;split
 ·split
  ·exact ⟨h,by simp only;omega,aC _⟩
  ·exact ⟨Vi h,ahp _ _ _,amU⟩
 ·exact ⟨h,by simp only;omega,aC _⟩
def So:∀(l:List En) {D:Dk} {pre:List En} {n:Int},(∀e ∈ pre,tp e.1)->(∀e ∈ l,tp e.1)->(∀e ∈(Sv D pre l n).1.2,tp e.1)/\(Sv D pre l n).1.1.l.length<=D.l.length+l.length/\(Sv D pre l n).1.2.length=pre.length+l.length
 | [],D,pre,n,hp,_=>⟨hp,by simp [Sv],by simp [Sv]⟩
 |e::l,D,pre,n,hp,hl=>by
  have h1:(da D e).2.1.1=e.1:=by unfold da;split<;>rfl
  have hl1:=Ev D e;have he:=hl e cp;unfold Sv;split
  ·obtain ⟨q1,q2,q3⟩:=So l (D:=(da D e).1) (pre:=pre++ [(da D e).2.1]) (n:=if e.2.2.1=true then n+1 else n) (λx hx=>by
    rcases cV.1 hx with hx|hx
    ·exact hp x hx
    ·rw [iN.1 hx,h1];exact he) λx hx=>hl x (by simp [hx])
   rw [dv,List.length_singleton] at q3;exact ⟨q1,by rw [du];omega,by rw [du];omega⟩
  ·refine ⟨λx hx=> ?_,by rw [du];simp only;omega,by simp⟩;simp only at hx;rcases cV.1 hx with hx|hx
   ·exact hp x hx
   ·rcases cB.1 hx with rfl|hx
    ·rw [h1];exact he
    ·exact hl x (by simp [hx])
def X4{l:List En}{c:Ce}{b:Int}(h:(eM l c b).2=0):Bi c/\∃e ∈ l,e.1=pos c:=by
 unfold eM at h;split at h
 ·simp only at h;omega
 rename_i h1;split at h
 ·simp only at h;omega
 rename_i h2;refine ⟨by simpa using h2,?_⟩;rcases dD (λe:En=>e.1==pos c) l with ⟨e,-⟩|⟨k,x,hx,hq,-,-⟩
 ·rw [e] at h1;omega
 ·exact ⟨x,aX hx,by simpa using hq⟩
def afR{l:List En}{c:Ce}{b:Int}(h:∀e ∈ l,tp e.1):∀e ∈(eM l c b).1,tp e.1:=by
 unfold eM;split
 ·exact h
 split
 ·exact h
 split
 ·exact h
 ·intro e he;rcases cV.1 he with he|he
  ·exact h e ((wP ..).subset he)
  ·obtain ⟨x,hx,rfl⟩:=zD.1 (Option.mem_toList.1 he);exact h x (aX hx)
def abR{c:Ce}(h:tp (pos c))(hy:Bi c):(-9000000<=c.1/\c.1<=9000000)/\(0<=c.2.1/\c.2.1<32)/\-9000000<=c.2.2/\c.2.2<=9000000:=by unfold tp pos at h;unfold Bi at hy;simp only at h;omega
def Vj{q:QS}{c:Ce}{t:Int}{x:fh.It}(h:x ∈(pF q c t).1.l):x ∈ q.l\/x=(t,c):=by
 unfold pF at h;split at h
 ·split at h
  ·exact .inl h
  ·rcases (Gr _ _ _).1 h with h|h
   ·exact .inr h
   ·exact .inl ((BT q.l c).subset h)
 ·split at h
  ·exact .inl h
  ·rcases (Gr _ _ _).1 h with h|h
   ·exact .inr h
   ·exact .inl h
def Vk{V:Ce->Int}{now:Int}{c:Ce}:∀(l:List Ce) {q:QS} {x:fh.It},x ∈(l.foldl (λq n=>(pF q n (now+jL (V n))).1) q).l->x ∈ q.l\/(x.2 ∈ l/\now<=x.1/\x.1<=now+5)
 | [],q,x,h=> .inl h
 |n::l,q,x,h=>by
  rcases Vk (c:=c) l h with h|h
  ·rcases Vj h with h|h
   ·exact .inl h
   ·have:=Ox (V n)
    exact .inr (by rw [h];exact ⟨by simp,by simp only;omega,by simp only;omega⟩)
  ·exact .inr ⟨CU _ h.1,h.2⟩
def X5{V:Ce->Int}{c:Ce}(h:(-9000000<=c.1/\c.1<=9000000)/\(0<=c.2.1/\c.2.1<32)/\-9000000<=c.2.2/\c.2.2<=9000000):∀n ∈ oW V c,A2 n:=by intro n hn;have hn:=(iI.1 hn).1;obtain ⟨x,y,z⟩:=c;simp only at h;unfold A2;simp only [nX,cB,iJ,or_false] at hn;rcases hn with rfl|rfl|rfl|rfl|rfl|rfl|rfl<;>(try simp only [eY,xg])<;>omega
def Nr(M:Sm):Prop:=(∀e ∈ M.T.2,tp e.1)/\(∀x ∈ M.q.l,okT x)/\0<=M.now/\M.now<=1099511627776
def Nr.edit{M:Sm}(h:Nr M)(c:Ce)(b:Int):Nr (tw M c b):=by
 refine ⟨afR h.1,λx hx=> ?_,h.2.2⟩;have hx:x ∈(if (eM M.T.2 c b).2=0 then tz (fj (eM M.T.2 c b).1) M.now M.q c else M.q).l:=hx;split at hx
 ·rename_i h0;obtain ⟨hy,e,he,hp⟩:=X4 h0;have hc:=abR (by rw [<-hp];exact h.1 e he) hy;rcases Vk (c:=c) _ hx with hx|⟨hx,h1,h2⟩
  ·exact h.2.1 x hx
  ·have:=h.2.2;exact ⟨X5 hc _ hx,by omega,by omega⟩
 ·exact h.2.1 x hx
def Nr.change{M:Sm}(h:Nr M)(x:Go.eH.Cg):Nr (cY M x):=by
 unfold cY;split
 ·exact h
 ·exact h.edit _ _
def Nr.changes:∀(l:List Go.eH.Cg) {M:Sm},Nr M->Nr (l.foldl cY M)
 | [],M,h=>h
 |x::l,M,h=>Nr.changes l (h.change x)
def Nr.upd{M:Sm}(h:Nr M)(O:Ce->Bool){c:Ce}(hc:A2 c):Nr (mD O M c):=by
 unfold mD;split
 ·refine ⟨h.1,λx hx=> ?_,h.2.2⟩;rcases Vj hx with hx|hx
  ·exact h.2.1 x hx
  ·have:=h.2.2;rw [hx];exact ⟨hc,by simp only;omega,by simp only;omega⟩
 split
 ·exact Nr.change (M:={M with kC:=M.kC++ [eY c]}) h (c,0)
 ·exact Nr.changes _ h
def Nr.W8(O:Ce->Bool):∀(l:List Ce) {M:Sm},CC l->Nr M->Nr (l.foldl (mD O) M)
 | [],M,_,h=>h
 |c::l,M,hl,h=>Nr.W8 O l (λy hy=>hl y (by simp [hy])) (h.upd O (hl c cp))
def Nr.due{M:Sm}(h:Nr M):CC (qR M):=λy hy=>by
 have hy:y ∈(M.q.l.take (iu M.q.l (sL M) M.dE)).map (·.2):=hy
 obtain ⟨x,hx,rfl⟩:=aW.1 hy
 exact (h.2.1 x (qd hx)).1
def Nr.tick{M:Sm}(h:Nr M)(O:Ce->Bool):Nr (C6 O M):=Nr.W8 O _ h.due ⟨h.1,λx hx=>h.2.1 x (zg (show x ∈ M.q.l.drop _ from hx)),by have:=h.2.2;show 0<=sL M/\sL M<=_;unfold sL;omega⟩
def uV:∀(l:List Go.eH.Cg)(M:Sm),(l.foldl cY M).dE=M.dE
 | [],M=>rfl
 |x::l,M=>(uV l (cY M x)).trans (by unfold cY;split<;>rfl)
def Tp(O:Ce->Bool)(M:Sm)(c:Ce):(mD O M c).dE=M.dE:=by
 unfold mD;split
 ·rfl
 split
 ·unfold cY;split<;>rfl
 ·exact uV _ _
def C7(O:Ce->Bool):∀(l:List Ce)(M:Sm),(l.foldl (mD O) M).dE=M.dE
 | [],M=>rfl
 |c::l,M=>(C7 O l (mD O M c)).trans (Tp O M c)
def Lt(O:Ce->Bool)(M:Sm):(C6 O M).dE=M.dE:=C7 O _ _
def BF(O:Ce->Bool):∀(l:List Ce)(M:Sm),(l.foldl (mD O) M).T.1=M.T.1
 | [],M=>rfl
 |c::l,M=>(BF O l (mD O M c)).trans (by
  have ch:∀(M:Sm)(x:Go.eH.Cg),(cY M x).T.1=M.T.1:=λM x=>by unfold cY;split<;>rfl
  have chs:∀(l:List Go.eH.Cg)(M:Sm),(l.foldl cY M).T.1=M.T.1:=λl=>by
   induction l with
   |nil=>exact λM=>rfl
   |cons x l ih=>exact λM=>(ih _).trans (ch M x)
  unfold mD
  split
  ·rfl
  split
  ·exact ch _ _
  ·exact chs _ _)
def afn{V:Ce->Int}{i k:Nat}{l:List ee}{m:Int}(h:∀b ∈ l,okB m b)(hm:m<=99970000000000):(∀b ∈ qh V i k l,okB (m+12582912) b)/\(qh V i k l).length=l.length:=by
 unfold qh;split
 ·rename_i a b ha hb;refine ⟨λx hx=> ?_,by rw [gW,gW]⟩;rcases hX hx with hx|rfl
  ·rcases hX hx with hx|rfl
   ·exact (h x hx).up ab
   ·exact rE (h a (aX ha)) hm
  ·exact rE (h b (aX hb)) hm
 ·exact ⟨λx hx=>(h x hx).up ab,rfl⟩
def aaU{V:Ce->Int}{i:Nat}:∀(n k:Nat) {l:List ee} {m:Int},(∀b ∈ l,okB m b)->m+n*12582912<=99970000000000->(∀b ∈ vW V i k n l,okB (m+n*12582912) b)/\(vW V i k n l).length=l.length
 |0,k,l,m,h,hm=>⟨λx hx=>(h x hx).up ab,rfl⟩
 |n+1,k,l,m,h,hm=>by
  obtain ⟨q1,q2⟩:=afn (V:=V) (i:=i) (k:=k) h ab
  obtain ⟨p1,p2⟩:=aaU (V:=V) (i:=i) n (k+1) q1 ab
  exact ⟨λx hx=>(p1 x hx).up ab,p2.trans q2⟩
def ahq{V:Ce->Int}:∀(n i:Nat) {l:List ee} {m:Int},l.length<=16->(∀b ∈ l,okB m b)->m+n*(16*12582912)<=99970000000000->(∀b ∈ W7 V i n l,okB (m+n*(16*12582912)) b)
 |0,i,l,m,hl,h,hm=>λx hx=>(h x hx).up ab
 |n+1,i,l,m,hl,h,hm=>by
  obtain ⟨q1,q2⟩:=aaU (V:=V) (i:=i) (l.length-(i+1)) (i+1) h ab
  have p:=ahq (V:=V) n (i+1) (l:=vW V i (i+1) (l.length-(i+1)) l) (m:=m+16*12582912) (by rw [q2];exact hl) (λx hx=>(q1 x hx).up ab) ab
  exact λx hx=>(p x hx).up ab
def aaV{V:Ce->Int}{l:List ee}{m:Int}(h:∀b ∈ l,okB m b)(hl:l.length<=16)(hm:m<=99960000000000):∀b ∈ lJ V l,okB (m+16*16*12582912) b:=λx hx=>(ahq l.length 0 hl h ab x hx).up ab
def aaW{M:Sm}{L:List (Option dS)}{m:Int}(h:q9 m L)(hm0:0<=m)(hm:m<=99900000000000):q9 (m+3300000000) (jm M L):=by
 refine Et _ (h.up ab) λx hx=> ?_
 have hx:=(List.of_mem_zip hx).2;have hb:=zi (M:=M) h ab;exact (aaV hb (by rw [aN];exact Ep M L) ab x.2 hx).up ab
def rZ{rows:List iE}(i:Int)(hi:0<=i)(pQ:El):(IY rows i pQ).map ai=(nu (rows.map ai) i pQ).2:=by
 obtain ⟨k,rfl⟩:∃k:Nat,i=k:=⟨i.toNat,by omega⟩;unfold IY nu;rw [dQ]
 cases hq:rows[k]? with
 |none=>
  have:cj (rows.map ai) ((k:Nat):Int)=none:=by unfold cj;rw [if_pos ab,dQ,aR,hq];rfl
  rw [this]
 |some r=>
  rw [mi (rows:=rows) (n:=(k:Nat)) rfl hq];obtain ⟨th,bd,inq⟩:=r
  cases th with
  |false=>rfl
  |true=>
   show ((rows.set k (true,(bd,pQ))).map ai)=(rows.map ai).set k (some (bd,pQ));rw [jC];rfl
def sh{rows:List iE}(i:Int)(hi:0<=i):(ET rows i).map ai=(nv (rows.map ai) i).2:=by
 obtain ⟨k,rfl⟩:∃k:Nat,i=k:=⟨i.toNat,by omega⟩;unfold ET nv;rw [dQ,jC];have h0:ai (false,(Ja,(0,0,false)))=none:=rfl;rw [h0];split
 ·rename_i h;unfold cj at h;rw [if_pos ab,dQ] at h;show (rows.map ai).set k none=rows.map ai;refine iP λj=> ?_
  by_cases e:k=j
  ·subst e;by_cases hk:k<(rows.map ai).length
   ·rw [pR hk,dm hk];rw [dm hk] at h;simp only [Option.join_some] at h;rw [Option.isNone_iff_eq_none.1 h]
   ·rw [jS (by rw [gW];omega),jS ab]
  ·rw [Aa e]
 ·rfl
def afo{L:List (Option dS)}{m:Int}(h:q9 m L)(i:Int):q9 m (nv L i).2:=by
 unfold nv;split
 ·exact h
 ·intro y hy;rcases hX hy with hy|hy
  ·exact h y hy
  ·cases hy
def afp{L:List (Option dS)}{m:Int}(h:q9 m L)(i:Int)(pQ:El):q9 m (nu L i pQ).2:=by
 unfold nu
 cases hq:cj L i with
 |none=>exact h
 |some y=>
  intro z hz;rcases hX hz with hz|hz
  ·exact h z hz
  ·cases hz
   unfold cj at hq;split at hq
   ·exact h y (aX (JM.1 hq))
   ·cases hq
def aaX{M:Sm}{L:List (Option dS)}{m:Int}(h:q9 m L){b:ee}(hb:okB m b):q9 m (cR M L b).2.2:=by
 unfold cR;split
 ·exact h
 split
 ·exact h
 split
 ·exact h
 split
 ·exact h
 ·intro z hz;rcases hX hz with hz|hz
  ·exact h z hz
  ·cases hz
   exact hb
def afq(d:Dr):okB 1200000 (JK d):=by have h1:=bM d.aD.1 589825 aF;have h2:=bM d.aD.2.1 589825 aF;have h3:=bM d.aD.2.2 589825 aF;have h4:=bM d.c.1 60000 aF;have h5:=bM d.c.2.1 120000 aF;unfold okB JK ft IX hZ;simp only;omega
abbrev DM(L:List (Option dS)):Prop:=∀y,some y ∈ L->Ot y.1
def ai5(h:Ht){b:ee}(hb:Ot b):(-1000000<=(mE h b.speed).1/\(mE h b.speed).1<=1000000)/\-1000000<=(mE h b.speed).2.2/\(mE h b.speed).2.2<=1000000:=by
 have c0:cT 0=0:=by decide
 have e1:(mE h b.speed).1=if h.1=true then cT 0 else b.speed.1:=by
  unfold mE
  cases h.1<;>cases h.2.1<;>cases h.2.2<;>rfl
 have e2:(mE h b.speed).2.2=if h.2.2=true then cT 0 else b.speed.2.2:=by
  unfold mE
  cases h.1<;>cases h.2.1<;>cases h.2.2<;>rfl
 unfold Ot at hb;rw [e1,e2,c0];constructor<;>split<;>omega
def ai6(V:Ce->Int)(b:ee)(i:El):Ot (oU V b i):=by
 have h1:Ot (mF b i):=by
  have h0:∀n,-1000000<=zL n/\zL n<=1000000:=λn=>by unfold zL;omega
  exact ⟨h0 _,h0 _⟩
 have h2:Ot (jF V (mF b i) i):=by
  unfold jF;split
  ·exact h1
  ·split<;>exact h1
 exact ai5 _ h2
def ai7{V:Ce->Int}{i k:Nat}{l:List ee}(h:∀b ∈ l,Ot b):∀b ∈ qh V i k l,Ot b:=by
 unfold qh;split
 ·rename_i a b ha hb;intro x hx;rcases hX hx with hx|rfl
  ·rcases hX hx with hx|rfl
   ·exact h x hx
   ·exact h a (aX ha)
  ·exact h b (aX hb)
 ·exact h
def ahr{V:Ce->Int}{i:Nat}:∀(n k:Nat) {l:List ee},(∀b ∈ l,Ot b)->∀b ∈ vW V i k n l,Ot b
 |0,k,l,h=>h
 |n+1,k,l,h=>ahr n (k+1) (ai7 h)
def amE{V:Ce->Int}:∀(n i:Nat) {l:List ee},(∀b ∈ l,Ot b)->∀b ∈ W7 V i n l,Ot b
 |0,i,l,h=>h
 |n+1,i,l,h=>amE n (i+1) (ahr _ _ h)
def amF{L:List (Option dS)}{i:Nat}{b:ee}(h:DM L)(hb:Ot b):DM (uE L i b):=by
 unfold uE
 cases hq:cj L i with
 |none=>exact h
 |some y=>
  intro z hz;rcases hX hz with hz|hz
  ·exact h z hz
  ·cases hz
   exact hb
def aaY:∀(l:List (Nat × ee)) {L:List (Option dS)},DM L->(∀x ∈ l,Ot x.2)->DM (wL L l)
 | [],L,h,_=>h
 |x::l,L,h,hl=>aaY l (amF h (hl x cp)) λy hy=>hl y (by simp [hy])
def ai8{M:Sm}{L:List (Option dS)}(h:DM L):DM (jm M L):=by
 refine aaY _ h λx hx=>amE _ _ (λb hb=> ?_) x.2 (List.of_mem_zip hx).2
 obtain ⟨i,hi,rfl⟩:=aW.1 hb;obtain ⟨-,y,hy⟩:=re hi;unfold gP;rw [hy];exact ai6 _ _ _
def ai9{L:List (Option dS)}(h:DM L)(i:Int):DM (nv L i).2:=by
 unfold nv;split
 ·exact h
 ·intro y hy;rcases hX hy with hy|hy
  ·exact h y hy
  ·cases hy
def aja{L:List (Option dS)}(h:DM L)(i:Int)(pQ:El):DM (nu L i pQ).2:=by
 unfold nu
 cases hq:cj L i with
 |none=>exact h
 |some y=>
  intro z hz;rcases hX hz with hz|hz
  ·exact h z hz
  ·cases hz
   unfold cj at hq;split at hq
   ·exact h y (aX (JM.1 hq))
   ·cases hq
def afr{M:Sm}{L:List (Option dS)}(h:DM L){b:ee}(hb:Ot b):DM (cR M L b).2.2:=by
 unfold cR;split
 ·exact h
 split
 ·exact h
 split
 ·exact h
 split
 ·exact h
 ·intro z hz;rcases hX hz with hz|hz
  ·exact h z hz
  ·cases hz
   exact hb
def Jv.edits{k:Nat}{M:Sm}{L:List (Option dS)}(h:Jv k M L)(c:Ce)(b:Int):Jv (k+1) (tw M c b) L:=by have hN:Nr (tw M c b):=Nr.edit ⟨h.t,h.q,h.s.now⟩ c b;exact ⟨h.b.up ab,(h.s.edit c b).mono ab,by have:=h.d;show M.T.1.l.length<=_;omega,hN.1,hN.2.1,h.x,h.u⟩
def Jv.US{k:Nat}{M:Sm}{L L':List (Option dS)}(h:Jv k M L)(c:Ce)(b:Int):Jv (k+1) (dT M L' c b).2 L:=by
 unfold dT;split
 ·exact h.mono (oN _)
 ·exact h.edits c b
set_option maxHeartbeats 4000000 in
def Jv.step{k:Nat}{M:Sm}{rows:List iE}(h:Jv k M (rows.map ai))(d:Dr)(hn:M.T.2.length<=16)(hk:k<=100):Jv (k+1) (vN M rows d).1 ((vN M rows d).2.map ai):=by
 have hd:=h.d;have eR:=h.s.mono (show 3000*k<=3000*(k+1) by omega);have HJ:=h.b.up (show 1200000+3300000000*(k:Int)<=1200000+3300000000*((k+1:Nat):Int) by omega);have hi:=bM d.n 4 aF;unfold vN;split
 ·obtain ⟨q1,q2⟩:=ahs (ak:=M.ak) (limit:=M.cap) (D:=M.T.1) (p:=A3 d.p) h.t;exact ⟨HJ,⟨eR.l,eR.c,eR.now,eR.d⟩,by simp only;omega,q1,h.q,h.x,h.u⟩
 split
 ·obtain ⟨q1,q2,-⟩:=UT (D:=M.T.1) (p:=A3 d.p) h.t;exact ⟨HJ,⟨eR.l,eR.c,eR.now,eR.d⟩,by simp only;omega,q1,h.q,h.x,h.u⟩
 split
 ·obtain ⟨q1,q2,-⟩:=So M.T.2 (D:=M.T.1) (pre:=[]) (n:=0) (λe he=>by cases he) h.t;exact ⟨HJ,⟨eR.l,eR.c,eR.now,eR.d⟩,by simp only [kv];omega,q1,h.q,h.x,h.u⟩
 split
 ·simp only;rw [pP];exact ⟨aaX HJ ((afq d).up ab),eR,by omega,h.t,h.q,afr h.x (by unfold Ot JK ft;simp only;omega),h.u⟩
 split
 ·simp only;rw [rZ _ hi.1];exact ⟨afp HJ _ _,eR,by omega,h.t,h.q,aja h.x _ _,h.u⟩
 split
 ·simp only;unfold iK;split
  ·exact h.mono (oN _)
  split
  ·exact h.mono (oN _)
  split
  ·exact h.mono (oN _)
  split
  ·exact h.mono (oN _)
  split
  ·exact h.mono (oN _)
  ·exact h.US _ _
 split
 ·simp only;unfold gN;split
  ·exact h.mono (oN _)
  split
  ·exact h.US _ _
  ·exact h.US _ _
 split
 ·exact h.US _ _
 split
 ·simp only;rw [sh _ hi.1];exact ⟨afo HJ _,eR,by omega,h.t,h.q,ai9 h.x _,h.u⟩
 split
 ·have h9:=Z7 M.T.1 0 (mX M (rows.map ai));exact ⟨HJ,⟨eR.l,eR.c,eR.now,eR.d⟩,by simp only;omega,h.t,h.q,h.x,h.u⟩
 split
 ·exact h.mono (oN _)
 ·simp only;rw [ji];have hN:Nr (kL M (rows.map ai)).1:=Nr.tick (M:=M) ⟨h.t,h.q,h.s.now⟩ _;have hl:=UU (q:=M.q) (now:=sL M) h.u;have gM:qQ (BG M) (3000*k):=⟨h.s.l,h.s.c,by have:=h.s.now;show 0<=sL M/\sL M<=_;unfold sL;omega,h.s.d⟩;have hS:qQ (kL M (rows.map ai)).1 (3000*k+40*(qR M).length):=qQ.W8 _ (qR M) gM;have L8:(qR M).length<=64:=hl;refine ⟨(aaW h.b ab ab).up ab,hS.mono ab,?_,hN.1,hN.2.1,ai8 h.x,?_⟩
  ·have:(kL M (rows.map ai)).1.T.1=M.T.1:=BF _ _ _;rw [this];omega
  ·have:(kL M (rows.map ai)).1.dE=M.dE:=Lt _ _;rw [this];exact h.u
structure Ad where
 g:Nat
 s:Nat
 o:Nat
 t:Nat
 m:Nat
 s':Nat
 o':Nat
 t':Nat
def qP(K:Nat->Prop)(w0 w:World)(a:Ad)(Me:Sm)(Le:List (Option dS))(Mm:Sm)(rows:List iE):Prop:=
 ∃(F F':Nat->Prop)(occ occ':Value),EF F w a.g a.s a.o a.t Me occ Le/\MF F' w a.m a.s' a.o' a.t' Mm occ' rows/\(∀i,F i->¬F' i)/\(∀i,F i->w0.heap.size<=i)/\(∀i,F' i->w0.heap.size<=i)/\(∀j,K j->¬F j/\¬F' j/\j<w.heap.size)/\Ext w0 w
section
variable {K:Nat->Prop} {w0 w u w':World} {a:Ad} {Me Mm M:Sm} {Le:List (Option dS)} {rows:List iE}
def qP.e(h:qP K w0 w a Me Le Mm rows):∃F occ,EF F w a.g a.s a.o a.t Me occ Le/\∀{w':World} {M':Sm} {occ':Value} {L':List (Option dS)},gO F w a.g a.s a.o a.t M' occ' L' w'->qP K w0 w' a M' L' Mm rows/\∀j,K j->w'.heap[j]? =w.heap[j]? :=by
 obtain ⟨F,F',occ,occ',h1,h2,h3,h4,h5,h6,h7⟩:=h;refine ⟨F,occ,h1,?_⟩;rintro w' M' oc L' ⟨G,g1,g2⟩;have hz:=g2.mod.size;obtain ⟨x,f⟩:=g2.fresh h7 h4;refine ⟨⟨G,F',oc,occ',g1,h2.same λi hi=>g2.mod.same i (h2.lt hi) λq=>h3 i q hi,g2.apart h3 λi hi=>h2.lt hi,f,h5,λj hj=> ?_,x⟩,λj hj=>g2.mod.same j (h6 j hj).2.2 (h6 j hj).1⟩;obtain ⟨k1,k2,k3⟩:=h6 j hj;refine ⟨λq=> ?_,k2,by omega⟩;rcases g2.sub j q with q|q
 ·exact k1 q
 ·omega
def qP.m(h:qP K w0 w a Me Le Mm rows):∃F occ,MF F w a.m a.s' a.o' a.t' Mm occ rows/\∀{w':World} {M':Sm} {occ':Value} {rows':List iE},ln F w a.m a.s' a.o' a.t' M' occ' rows' w'->qP K w0 w' a Me Le M' rows'/\∀j,K j->w'.heap[j]? =w.heap[j]? :=by
 obtain ⟨F,F',occ,occ',h1,h2,h3,h4,h5,h6,h7⟩:=h;refine ⟨F',occ',h2,?_⟩;rintro w' M' oc rows' ⟨G,g1,g2⟩;have hz:=g2.mod.size;obtain ⟨x,f⟩:=g2.fresh h7 h5;refine ⟨⟨F,G,occ,oc,h1.same λi hi=>g2.mod.same i (h1.lt hi) λq=>h3 i hi q,g1,λi hi hg=>g2.apart (G:=F) (λi hi hf=>h3 i hf hi) (λi hi=>h1.lt hi) i hg hi,h4,f,λj hj=> ?_,x⟩,λj hj=>g2.mod.same j (h6 j hj).2.2 (h6 j hj).2.1⟩;obtain ⟨k1,k2,k3⟩:=h6 j hj;refine ⟨k1,λq=> ?_,by omega⟩;rcases g2.sub j q with q|q
 ·exact k2 q
 ·omega
def qP.mK(h:qP K w0 w a Me Le Mm rows):∃F occ,MF F w a.m a.s' a.o' a.t' Mm occ rows/\(∀j,K j->¬F j)/\∀{w':World} {M':Sm} {occ':Value} {rows':List iE},ln F w a.m a.s' a.o' a.t' M' occ' rows' w'->qP K w0 w' a Me Le M' rows'/\∀j,K j->w'.heap[j]? =w.heap[j]? :=by
 obtain ⟨F,F',occ,occ',h1,h2,h3,h4,h5,h6,h7⟩:=h;refine ⟨F',occ',h2,λj hj=>(h6 j hj).2.1,?_⟩;rintro w' M' oc rows' ⟨G,g1,g2⟩;have hz:=g2.mod.size;obtain ⟨x,f⟩:=g2.fresh h7 h5;refine ⟨⟨F,G,occ,oc,h1.same λi hi=>g2.mod.same i (h1.lt hi) λq=>h3 i hi q,g1,λi hi hg=>g2.apart (G:=F) (λi hi hf=>h3 i hf hi) (λi hi=>h1.lt hi) i hg hi,h4,f,λj hj=> ?_,x⟩,λj hj=>g2.mod.same j (h6 j hj).2.2 (h6 j hj).2.1⟩;obtain ⟨k1,k2,k3⟩:=h6 j hj;refine ⟨k1,λq=> ?_,by omega⟩;rcases g2.sub j q with q|q
 ·exact k2 q
 ·omega
def qP.ext(h:qP K w0 w a Me Le Mm rows)(x:Ext w u):qP (λj=>K j\/w.heap.size<=j/\j<u.heap.size) w0 u a Me Le Mm rows:=by
 obtain ⟨F,F',occ,occ',h1,h2,h3,h4,h5,h6,h7⟩:=h;have hz:=x.size;refine ⟨F,F',occ,occ',h1.ext x,h2.ext x,h3,h4,h5,λj hj=> ?_,h7.tr x⟩;rcases hj with hj|⟨j1,j2⟩
 ·obtain ⟨k1,k2,k3⟩:=h6 j hj;exact ⟨k1,k2,by omega⟩
 ·exact ⟨λq=>by have:=h1.lt q;omega,λq=>by have:=h2.lt q;omega,j2⟩
def qP.mono{K':Nat->Prop}(h:qP K w0 w a Me Le Mm rows)(hs:∀j,K' j->K j):qP K' w0 w a Me Le Mm rows:=by obtain ⟨F,F',occ,occ',h1,h2,h3,h4,h5,h6,h7⟩:=h;exact ⟨F,F',occ,occ',h1,h2,h3,h4,h5,λj hj=>h6 j (hs j hj),h7⟩
def qP.same(h:qP K w0 w a Me Le Mm rows)(x:Ext w u):qP K w0 u a Me Le Mm rows/\∀j,K j->u.heap[j]? =w.heap[j]? :=⟨(h.ext x).mono λj hj=> .inl hj,λj hj=>by
 obtain ⟨F,F',occ,occ',h1,h2,h3,h4,h5,h6,h7⟩:=h
 exact x.heap (h6 j hj).2.2⟩
def qP.lt(h:qP K w0 w a Me Le Mm rows){j:Nat}(hj:K j):j<w:=by obtain ⟨F,F',occ,occ',h1,h2,h3,h4,h5,h6,h7⟩:=h;exact (h6 j hj).2.2
def qP.e0(h:qP K w0 w a Me Le Mm rows):Vc.ld w (ae (aB a.g) 0)=some (.pointer (aB a.s))/\(ah 18 #[.pointer (aB a.s)] w λe w'=>e=Value.pointer (aB a.o)/\w'=w)/\
  (ah 19 #[.pointer (aB a.o)] w λe w'=>e=Value.pointer (aB a.t)/\w'=w):=by
 obtain ⟨F,occ,h1,-⟩:=h.e;obtain ⟨Fs,hs,kf,-⟩:=h1.ud;obtain ⟨Fw,hW,-⟩:=hs.world;exact ⟨kf,fY hs,pV hW⟩
def qP.m0(h:qP K w0 w a Me Le Mm rows):Vc.ld w (ae (aB a.m) 0)=some (.pointer (some ⟨a.o',0,none⟩))/\
  (ah 19 #[.pointer (some ⟨a.o',0,none⟩)] w λe w'=>e=Value.pointer (some ⟨a.t',0,none⟩)/\w'=w):=by
 obtain ⟨F,occ,h1,-⟩:=h.m;obtain ⟨Fs,hs,-,kf,-⟩:=h1.ud;obtain ⟨Fw,hW,-⟩:=hs.world;exact ⟨kf,pV hW⟩
def qP.few(h:qP K w0 w a Me Le Mm rows):Me.T.2.length<=16:=by obtain ⟨F,occ,h1,-⟩:=h.e;obtain ⟨Fs,hs,-⟩:=h1.ud;obtain ⟨Fw,hW,-⟩:=hs.world;have:=hW.len;omega
def qP.ahi(h:qP K w0 w a Me Le Mm rows):rows.length=16:=by obtain ⟨F,occ,h1,-⟩:=h.m;obtain ⟨b,-,-,h2,-⟩:=h1.KD;exact h2
end
def amg{rows:List iE}(hn:rows.length=16){b:Nat}{w:World}(hr:Row w b (rows.map ki).flatten CR){k:Nat}(hk:k<16){r:iE}(MA:rows[k]? =some r)(i:El):(ae (ae (aB b) ((k:Int).toNat*13)) 10).isSome=true/\Wr w (ae (ae (aB b) ((k:Int).toNat*13)) 10) 3/\bz (ae (ae (aB b) ((k:Int).toNat*13)) 10)=some b/\
  ∀w',w'=Vc.aL w (ae (ae (aB b) ((k:Int).toNat*13)) 10) [.int .i64 i.1,.int .i64 i.2.1,.bool i.2.2]->Row w' b ((rows.set k (r.1,(r.2.1,i))).map ki).flatten CR/\Mod (λi=>i=b) w w':=by
 have Hm:(rows.map ki).flatten.length=16*13:=by
  have:=bJ (k:=13) (rows:=rows.map ki) λr hr=>by obtain ⟨x,-,rfl⟩:=aW.1 hr;rfl
  rw [this,aN,hn]
 rw [dn,dQ];have we:One [.int .i64 i.1,.int .i64 i.2.1,.bool i.2.2]:=by intro u hu;simp at hu;rcases hu with rfl|rfl|rfl<;>rfl
 obtain ⟨p1,p2⟩:=mz hr (off:=k*13+10) (vs:=[.int .i64 i.1,.int .i64 i.2.1,.bool i.2.2]) (by rw [Hm];show _+3<=_;omega) we;refine ⟨rfl,p1,by rw [bh];rfl,λw' e=> ?_⟩;obtain ⟨q1,q2⟩:=p2 w' e;refine ⟨?_,q2⟩;have dy:(rows.map ki)[k]? =some (ki r):=by rw [aR,MA];rfl
 have:aS (rows.map ki).flatten (k*13+10) [.int .i64 i.1,.int .i64 i.2.1,.bool i.2.2]=((rows.set k (r.1,(r.2.1,i))).map ki).flatten:=by rw [jC];exact Fi (λr hr=>by obtain ⟨y,-,rfl⟩:=aW.1 hr;rfl) dy (by show 10+3<=13;decide) rfl
 rw [<-this];exact q1
section
variable {K:Nat->Prop} {w0 w u w':World} {a:Ad} {Me Mm M:Sm} {Le:List (Option dS)} {rows:List iE}
abbrev amf(K:Nat->Prop)(w0 w:World)(a:Ad)(M:Sm)(rows:List iE)(d:Dr)(e:Ending)(w':World):Prop:=e=true/\qP K w0 w' a (vN M rows d).1 ((vN M rows d).2.map ai) (vN M rows d).1 (vN M rows d).2/\∀j,K j->w'.heap[j]? =w.heap[j]?
def aiD{k:Nat}(h:Jv k M (rows.map ai))(hk:k<=100):(∀x ∈ tN (rows.map ai) 16,(0<=x.1/\x.1<16)/\∀n ∈ kJ x.2,ER n)/\(∀x ∈ M.q.l,∀n ∈ [x.1,x.2.1,x.2.2.1,x.2.2.2],ER n)/\ER M.now:=by
 refine ⟨λx hx=> ?_,λx hx n hn=> ?_,?_⟩
 ·unfold tN at hx;obtain ⟨i,hi,rfl⟩:=aW.1 hx;obtain ⟨h1,h2⟩:=iI.1 hi;have h1:=nt.1 h1;obtain ⟨y,hy⟩:=oE.1 h2;have hb:=h.b y (oF hy);have hx:=h.x y (oF hy);unfold xAt;rw [hy];refine ⟨by simp only;omega,λn hn=> ?_⟩;obtain ⟨⟨b1,b2,b3⟩,b4,b5,b6⟩:=hb;obtain ⟨c1,c2⟩:=hx;simp only [cB,iJ,or_false] at hn;unfold ER;rcases hn with rfl|rfl|rfl|rfl|rfl|rfl|rfl|rfl<;>omega
 ·obtain ⟨h1,h2,h3⟩:=h.q x hx;unfold A2 at h1;simp only [cB,iJ,or_false] at hn;unfold ER;rcases hn with rfl|rfl|rfl|rfl<;>omega
 ·have:=h.s.now;unfold ER;omega
set_option maxHeartbeats 8000000 in
def VK(h:qP K w0 w a M (rows.map ai) M rows){k:Nat}(hj:Jv k M (rows.map ai))(hk:k<=100)(d:Dr)(hd:dIn d):
  ah 15 #[.pointer (aB a.g),.pointer (aB a.m),dV d] w (amf K w0 w a M rows d):=by
 obtain ⟨hd1,hd2,hd3,⟨hd4,hd5⟩,hd6,hd7⟩:=hd;have hjd:=hj.d;have hjs:qQ M 600000:=hj.s.mono ab;have hbm:1200000+3300000000*(k:Int)<=99900000000000:=by omega
 have hbm0:0<=1200000+3300000000*(k:Int):=by omega
 apply Rf.vc;intro v0 e0;have x0:=aQ e0;have z0:=zA e0;have r0:∃τ,Row v0 w (dL d) τ:=⟨_,by rw [e0];exact Row.new w [_,_,_,_,_,_,_,_,_,_,_,_,_,_,_,_,_] _⟩;obtain ⟨τ,r0⟩:=r0;refine (c8 d.n 4 v0 hd2 aF (by unfold bN;omega)).mono ?_;rintro e v1 ⟨rfl,hv1⟩;subst hv1;refine ⟨_,rfl,rfl,(VL d.p ⟨hd4,hd5⟩ v1).mono ?_⟩;rintro e v3 ⟨rfl,x3⟩;have z3:=x3.size;refine ⟨_,_,rfl,x3.heap ab,λv6 e6 v7 e7=> ?_⟩;have x7:Ext v3 v7:=(aQ e6).ag e7 (aC _);have z7:v7.heap.size=v3.heap.size+1:=by rw [zR e7,zA e6]
 have r7:∃τ,Row v7 v3 [.int .i64 (A3 d.p).1,.int .i64 (A3 d.p).2] τ:=⟨_,by rw [e7,e6];exact Row.set (Row.new v3 [_,_] _) [_,_]⟩;obtain ⟨τ7,r7⟩:=r7;have x07:=x0.tr (x3.tr x7);have kK:∀j,K j->v7.heap[j]? =w.heap[j]? :=(h.same x07).2;have r07:=r0.ext (x3.tr x7);obtain ⟨K2,kw,k3,hKK,hB⟩:∃K2:Nat->Prop,K2 w/\K2 v3/\(∀j,K j->K2 j)/\qP K2 w0 v7 a M (rows.map ai) M rows:=⟨_,.inr ⟨aC _,by omega⟩,.inr ⟨by omega,by omega⟩,λj hj=> .inl hj,h.ext x07⟩;have fin:∀{b:Bool} {w':World} {M':Sm} {rows':List iE},b=true->vN M rows d=(M',rows')->qP K2 w0 w' a M' (rows'.map ai) M' rows'->(∀j,K2 j->w'.heap[j]? =v7.heap[j]?)->amf K w0 w a M rows d (.returned (.bool b)) w':=by intro b w' M' rows' hb Iy hBt Q0;subst hb;refine ⟨rfl,?_,λj hj=>(Q0 j (hKK j hj)).trans (kK j hj)⟩;rw [Iy];exact hBt.mono hKK
 have parL:∀{u:World} {o:Nat} {vs:LV},(∀j,K2 j->u.heap[j]? =v7.heap[j]?)->(∀j,j<vs.length->(dL d)[o+j]? =vs[j]?)->af u (dC w.heap.size o) 0 vs:=λhu hv=>(r07.same (hu _ kw)).bY hv
 have wayL:∀{u:World},(∀j,K2 j->u.heap[j]? =v7.heap[j]?)->af u (dC w.heap.size 11) 0 (eg d.c9):=λhu=>parL hu λj hj=>by
  have hj:j<3:=hj;have:j=0\/j=1\/j=2:=by omega
  rcases this with rfl|rfl|rfl<;>rfl
 have bL:∀{u:World},(∀j,K2 j->u.heap[j]? =v7.heap[j]?)->af u (dC w.heap.size 2) 0 [d.b]:=λhu=>parL hu λj hj=>by
  have:j=0:=by simpa using hj
  subst this;rfl
 have posL:∀{u:World},(∀j,K2 j->u.heap[j]? =v7.heap[j]?)->af u (aB v3.heap.size) 0 [.int .i64 (A3 d.p).1,.int .i64 (A3 d.p).2]:=λhu=>Lo.wv (r7.same (hu _ k3))
 obtain ⟨l1,l2,l3⟩:=hB.e0;obtain ⟨l4,l5⟩:=hB.m0;refine ⟨_,l1,l2.mono ?_⟩;rintro e v9 ⟨rfl,hv⟩;subst hv;refine ⟨_,rfl,rfl,rfl,l3.mono ?_⟩;rintro e v11 ⟨rfl,hv⟩;subst hv;refine ⟨_,rfl,rfl,rfl,_,l4,l5.mono ?_⟩;rintro e YN ⟨rfl,hv⟩;subst hv;refine ⟨_,rfl,rfl,rfl,fP rfl (fP rfl ?_)⟩;have r0:∀j,K2 j->YN.heap[j]? =YN.heap[j]? :=λj _=>rfl
 obtain ⟨hBd,kd⟩:=hB.same (Ext.dr YN);have hi4:=bM d.n 4 aF;apply Br.mk<;>intro hk0
 ·have hk0:=cU hk0;obtain ⟨F,occ,hE,he⟩:=hBd.e;obtain ⟨Fw,hW,bk⟩:=hE.world;refine (pO hW ab (A3 d.p)).mono ?_;rintro e u1 ⟨rfl,hr⟩;obtain ⟨EG,k1⟩:=he (bk hr);have kk1:∀j,K2 j->u1.heap[j]? =YN.heap[j]? :=λj hj=>(k1 j hj).trans (kd j hj)
  obtain ⟨F',occ',hM,hm⟩:=EG.m;obtain ⟨Fw',hW',Qj⟩:=hM.world;refine ⟨_,rfl,k1 _ kw,k1 _ k3,posL kk1,(pO hW' ab (A3 d.p)).mono ?_⟩;rintro e u2 ⟨rfl,hr⟩;obtain ⟨Hg,k2⟩:=hm (Qj hr);exact ⟨_,rfl,k2 _ kw,k2 _ k3,fin cp (by unfold vN;rw [if_pos hk0]) Hg λj hj=>(k2 j hj).trans (kk1 j hj)⟩
 have n0:=cU hk0;apply Br.mk<;>intro Qk
 ·have Qk:=cU Qk;obtain ⟨F,occ,hE,he⟩:=hBd.e;obtain ⟨Fw,hW,bk⟩:=hE.world;refine (qv hW ab (A3 d.p)).mono ?_;rintro e u1 ⟨rfl,hr⟩;obtain ⟨EG,k1⟩:=he (bk hr);have kk1:∀j,K2 j->u1.heap[j]? =YN.heap[j]? :=λj hj=>(k1 j hj).trans (kd j hj)
  obtain ⟨F',occ',hM,hm⟩:=EG.m;obtain ⟨Fw',hW',Qj⟩:=hM.world;refine ⟨_,rfl,k1 _ kw,k1 _ k3,posL kk1,(qv hW' ab (A3 d.p)).mono ?_⟩;rintro e u2 ⟨rfl,hr⟩;obtain ⟨Hg,k2⟩:=hm (Qj hr);exact ⟨_,rfl,k2 _ kw,k2 _ k3,fin cp (by unfold vN;rw [if_neg n0,if_pos Qk]) Hg λj hj=>(k2 j hj).trans (kk1 j hj)⟩
 have n1:=cU Qk;apply Br.mk<;>intro Hh
 ·have Hh:=cU Hh;obtain ⟨F,occ,hE,he⟩:=hB.e;obtain ⟨Fw,hW,bk⟩:=hE.world;refine (mW hW ab).mono ?_;rintro e u1 ⟨rfl,hr⟩;obtain ⟨EG,k1⟩:=he (bk hr);obtain ⟨F',occ',hM,hm⟩:=EG.m;obtain ⟨Fw',hW',Qj⟩:=hM.world;refine ⟨_,_,rfl,k1 _ kw,k1 _ k3,(mW hW' ab).mono ?_⟩;rintro e u2 ⟨rfl,hr⟩;obtain ⟨Hg,k2⟩:=hm (Qj hr);exact ⟨_,_,rfl,k2 _ kw,k2 _ k3,yes cp (fin cp (by unfold vN;rw [if_neg n0,if_neg n1,if_pos Hh]) Hg λj hj=>(k2 j hj).trans (k1 j hj))⟩
 have n2:=cU Hh;apply Br.mk<;>intro AW
 ·have AW:=cU AW;refine (ES d.aD hd7 YN).mono ?_;rintro e u1 ⟨rfl,x1⟩;obtain ⟨EG,k1⟩:=hB.same x1;refine ⟨_,_,_,rfl,k1 _ kw,k1 _ k3,λu2 e2 u3 e3=> ?_⟩;have xx:Ext u1 u3:=(aQ e2).ag e3 (aC _);have zx:u3.heap.size=u1.heap.size+1:=by rw [zR e3,zA e2]
  have hB3:=EG.ext xx;have k13:=(EG.same xx).2;have kb:K2 u1.heap.size\/u1.heap.size<=u1.heap.size/\u1.heap.size<u3.heap.size:=.inr ⟨aC _,by omega⟩;have a1:=bM d.c.1 60000 aF;refine (c8 d.c.1 60000 u3 hd6.1 aF (by unfold bN;omega)).mono ?_;rintro e u4 ⟨rfl,hu⟩;subst hu;refine ⟨_,rfl,rfl,rfl,rfl,(c8 d.c.2.1 120000 u4 hd6.2.1 aF (by unfold bN;omega)).mono ?_⟩;rintro e u5 ⟨rfl,hu⟩;subst hu;obtain ⟨F,occ,hE,he⟩:=hB3.e;refine ⟨_,rfl,rfl,rfl,rfl,(xm hE (IX d.aD) (cm d.c.1 60000) (cm d.c.2.1 120000) (by unfold bN;omega)).mono ?_⟩;rintro e u6 ⟨rfl,hr⟩;obtain ⟨hB6,k6⟩:=he hr;obtain ⟨F',occ',hM,hm⟩:=hB6.m;refine ⟨_,_,rfl,k6 _ (.inl kw),k6 _ (.inl k3),k6 _ kb,(MK hM (IX d.aD) (cm d.c.1 60000) (cm d.c.2.1 120000) (by unfold bN;omega)).mono ?_⟩;rintro e u7 ⟨rfl,hr⟩;obtain ⟨hB7,k7⟩:=hm hr;refine ⟨_,_,rfl,k7 _ (.inl kw),k7 _ (.inl k3),k7 _ kb,yes cp (fin cp (by unfold vN;rw [if_neg n0,if_neg n1,if_neg n2,if_pos AW]) ?_ λj hj=>(k7 j (.inl hj)).trans ((k6 j (.inl hj)).trans ((k13 j hj).trans (k1 j hj))))⟩;rw [pP];exact hB7.mono λj hj=> .inl hj
 have n3:=cU AW;apply Br.mk<;>intro hk4
 ·have hk4:=cU hk4;have Iy:vN M rows d=(M,IY rows (ix d) d.pQ):=by unfold vN;rw [if_neg n0,if_neg n1,if_neg n2,if_neg n3,if_pos hk4]
  have htl:=rZ (rows:=rows) (ix d) hi4.1 d.pQ;obtain ⟨i,hi⟩:∃i:Nat,ix d=i:=⟨(cm d.n 4).toNat,by show cm d.n 4=_;omega⟩;have asl:i<4:=by have:cm d.n 4=i:=hi;omega
  have ajY:=hB.ahi;obtain ⟨r,v8⟩:=bE (l:=rows) (i:=i) ab;have hii:(rows.map ki)[i]? =some (ki r):=by rw [aR,v8];rfl
  have AX:=mi (rows:=rows) (n:=i) rfl v8;have htR:IY rows i d.pQ=if r.1=true then rows.set i (r.1,(r.2.1,d.pQ)) else rows:=by unfold IY;rw [dQ,v8]
  show ah 54 #[.pointer (aB a.g),(ix d),.agg #[d.pQ.1,d.pQ.2.1,.bool d.pQ.2.2]] YN _;have hix:cm d.n 4=(i:Int):=hi;rw [hix];rw [hi] at Iy htl ⊢;obtain ⟨F,occ,hE,he⟩:=hB.e;refine (IZ hE i d.pQ).mono ?_;rintro e u1 ⟨rfl,hr⟩;obtain ⟨EG,k1⟩:=he hr;obtain ⟨F',occ',hM,hnK,hm⟩:=EG.mK;obtain ⟨b,hmr,hbr,AY,-,hFb,hmb,bk⟩:=hM.KD;have rk:=uh hbr AY;have inb:eA (aB b) (i:Int) 16:=rk.im (i:=(i:Int)) aF ab (by show (i:Int)<((16:Nat):Int);omega);refine ⟨_,rfl,k1 _ kw,k1 _ k3,⟨aB b,16,16⟩,hmr.at 2 rfl,inb,fT rfl ⟨r.1,rk.at hii (ZO r),Br.mk (λhb=> ?_) (λhb=> ?_)⟩⟩
  ·have Ql:ai r=some r.2:=by unfold ai;rw [if_pos hb]
   have ht0:(nu (rows.map ai) i d.pQ).1=0:=by unfold nu;rw [AX,Ql]
   rw [if_pos hb] at htR;have xd:=Ext.dr u1;obtain ⟨p0,p1,pb,p2⟩:=amg AY (hbr.ext xd) (k:=i) ab v8 d.pQ;have nK:∀j,K2 j->some b≠some j:=λj hj q=>by injection q with q;exact hnK j hj (q▸hFb)
   refine ⟨⟨aB b,16,16⟩,(hmr.ext xd).at 2 rfl,inb,fT rfl ⟨⟨p0,p1⟩,by rw [pb];exact nK _ kw,by rw [pb];exact nK _ k3,λu2 e2=> ?_⟩⟩;obtain ⟨q1,q2⟩:=p2 u2 e2;have qE:Mod (λi=>i=b) u1 u2:=(Mod.aH xd).trans q2;have hmr2:=qE.row hmr hmb;have L8:(rows.set i (r.1,(r.2.1,d.pQ))).length=16:=by rw [gW];exact AY
   obtain ⟨Hg,k2⟩:=hm (bk qE q1 L8);have rk2:=uh q1 L8;have hii2:((rows.set i (r.1,(r.2.1,d.pQ))).map ki)[i]? =some (ki (r.1,(r.2.1,d.pQ))):=by rw [aR,pR ab];rfl
   refine ⟨⟨aB b,16,16⟩,hmr2.at 2 rfl,inb,fT rfl ⟨r.1,rk2.at hii2 (ZO _),?_⟩⟩;rw [ht0,hb];refine yes rfl (yes rfl (fin rfl Iy ?_ λj hj=>(k2 j hj).trans (k1 j hj)));rw [htl,htR];exact Hg
  ·have Ql:ai r=none:=by unfold ai;rw [if_neg (by rw [hb];decide)]
   have ht0:(nu (rows.map ai) i d.pQ).1=6:=by unfold nu;rw [AX,Ql]
   rw [if_neg (by rw [hb];decide)] at htR;refine ⟨⟨aB b,16,16⟩,hmr.at 2 rfl,inb,fT rfl ⟨r.1,rk.at hii (ZO r),?_⟩⟩;rw [ht0,hb];refine yes rfl (fP rfl (fin rfl Iy ?_ k1));rw [htl,htR];exact EG
 have n4:=cU hk4;apply Br.mk<;>intro hk5
 ·have hk5:=cU hk5;have Iy:vN M rows d=((iK M (rows.map ai) (ix d) d.c9 (tO d.b)).2,rows):=by unfold vN;rw [if_neg n0,if_neg n1,if_neg n2,if_neg n3,if_neg n4,if_pos hk5]
  refine (ky d.b hd3 YN.drew).mono ?_;rintro e u1 ⟨rfl,hu⟩;subst hu;obtain ⟨F,occ,hE,he⟩:=hBd.e;refine ⟨_,rfl,rfl,rfl,bL kd,wayL kd,wayL kd,(Cz hE hj.b ab (ix d) d.c9 (tO d.b) (hjs.mono ab)).mono ?_⟩;rintro e u2 ⟨rfl,hr⟩;obtain ⟨Hg,k2⟩:=he hr;have kk2:∀j,K2 j->u2.heap[j]? =YN.heap[j]? :=λj hj=>(k2 j hj).trans (kd j hj)
  refine ⟨_,rfl,k2 _ kw,k2 _ k3,bL kk2,wayL kk2,(ky d.b hd3 u2).mono ?_⟩;rintro e u3 ⟨rfl,hu⟩;subst hu;obtain ⟨F',occ',hM,hm⟩:=Hg.m;refine ⟨_,rfl,rfl,rfl,wayL kk2,(ML hM hj.b ab (ix d) d.c9 (tO d.b) (hjs.mono ab)).mono ?_⟩;rintro e u4 ⟨rfl,hr⟩;obtain ⟨hB4,k4⟩:=hm hr;exact ⟨_,rfl,k4 _ kw,k4 _ k3,fin cp Iy hB4 λj hj=>(k4 j hj).trans (kk2 j hj)⟩
 have n5:=cU hk5;apply Br.mk<;>intro hk6
 ·have hk6:=cU hk6;have Iy:vN M rows d=((gN M (rows.map ai) (ix d) d.c9).2,rows):=by unfold vN;rw [if_neg n0,if_neg n1,if_neg n2,if_neg n3,if_neg n4,if_neg n5,if_pos hk6]
  obtain ⟨F,occ,hE,he⟩:=hB.e;refine (CA hE hj.b ab (ix d) d.c9 (hjs.mono ab)).mono ?_;rintro e u2 ⟨rfl,hr⟩;obtain ⟨Hg,k2⟩:=he hr;obtain ⟨F',occ',hM,hm⟩:=Hg.m;refine ⟨_,_,rfl,k2 _ kw,k2 _ k3,(Rg hM hj.b ab (ix d) d.c9 (hjs.mono ab)).mono ?_⟩;rintro e u4 ⟨rfl,hr⟩;obtain ⟨hB4,k4⟩:=hm hr;exact ⟨_,_,rfl,k4 _ kw,k4 _ k3,yes cp (fin cp Iy hB4 λj hj=>(k4 j hj).trans (k2 j hj))⟩
 have n6:=cU hk6;apply Br.mk<;>intro hk7
 ·have hk7:=cU hk7;have Iy:vN M rows d=((dT M (rows.map ai) (iL d.c) (tO d.b)).2,rows):=by unfold vN;rw [if_neg n0,if_neg n1,if_neg n2,if_neg n3,if_neg n4,if_neg n5,if_neg n6,if_pos hk7]
  have hcw:eQ (iL d.c):=by have b1:=bM d.c.1 10 aF;have b2:=bM d.c.2.1 14 aF;have b3:=bM d.c.2.2 10 aF;unfold eQ iL;simp only;omega
  refine (r6 d.c hd6 YN).mono ?_;rintro e u1 ⟨rfl,x1⟩;obtain ⟨EG,k1⟩:=hB.same x1;refine ⟨_,_,_,rfl,k1 _ kw,k1 _ k3,λu2 e2 u3 e3=> ?_⟩;have xx:Ext u1 u3:=(aQ e2).ag e3 (aC _);have zx:u3.heap.size=u1.heap.size+1:=by rw [zR e3,zA e2]
  have ru:∃τ,Row u3 u1.heap.size (eg (iL d.c)) τ:=⟨_,by rw [e3,e2];exact Row.set (Row.new u1 [_,_,_] _) [_,_,_]⟩;obtain ⟨τu,ru⟩:=ru;have hB3:=EG.ext (xx.tr (Ext.dr u3));have k13:=(EG.same (xx.tr (Ext.dr u3))).2;have zd:u3.drew.heap.size=u3.heap.size:=rfl;have kb:K2 u1.heap.size\/u1.heap.size<=u1.heap.size/\u1.heap.size<u3.drew.heap.size:=.inr ⟨aC _,by omega⟩;have kk3:∀j,K2 j->u3.drew.heap[j]? =YN.heap[j]? :=λj hj=>(k13 j hj).trans (k1 j hj)
  have rud:=ru.ext (Ext.dr u3);refine (ky d.b hd3 u3.drew).mono ?_;rintro e u4 ⟨rfl,hu⟩;subst hu;obtain ⟨F,occ,hE,he⟩:=hB3.e;refine ⟨_,rfl,rfl,rfl,rfl,bL kk3,Lo.wv rud,Lo.wv rud,(se hE hj.b (iL d.c) hcw (tO d.b) (hjs.mono ab)).mono ?_⟩;rintro e u5 ⟨rfl,hr⟩;obtain ⟨hB5,k5⟩:=he hr;have kk5:∀j,K2 j->u5.heap[j]? =YN.heap[j]? :=λj hj=>(k5 j (.inl hj)).trans (kk3 j hj)
  refine ⟨_,rfl,k5 _ (.inl kw),k5 _ (.inl k3),k5 _ kb,bL kk5,Lo.wv (rud.same (k5 _ kb)),(ky d.b hd3 u5).mono ?_⟩;rintro e u6 ⟨rfl,hu⟩;subst hu;obtain ⟨F',occ',hM,hm⟩:=hB5.m;refine ⟨_,rfl,rfl,rfl,rfl,Lo.wv (rud.same (k5 _ kb)),(xp hM hj.b (iL d.c) hcw (tO d.b) (hjs.mono ab)).mono ?_⟩;rintro e u7 ⟨rfl,hr⟩;obtain ⟨hB7,k7⟩:=hm hr;exact ⟨_,rfl,k7 _ (.inl kw),k7 _ (.inl k3),k7 _ kb,fin cp Iy (hB7.mono λj hj=> .inl hj) λj hj=>(k7 j (.inl hj)).trans (kk5 j hj)⟩
 have n7:=cU hk7;apply Br.mk<;>intro Hj
 ·have Hj:=cU Hj;have Iy:vN M rows d=(M,ET rows (ix d)):=by unfold vN;rw [if_neg n0,if_neg n1,if_neg n2,if_neg n3,if_neg n4,if_neg n5,if_neg n6,if_neg n7,if_pos Hj]
  have htl:=sh (rows:=rows) (ix d) hi4.1;obtain ⟨i,hi⟩:∃i:Nat,ix d=i:=⟨(cm d.n 4).toNat,by show cm d.n 4=_;omega⟩;have hix:cm d.n 4=(i:Int):=hi;have asl:i<4:=by omega
  have ajY:=hB.ahi;obtain ⟨r,v8⟩:=bE (l:=rows) (i:=i) ab;have hii:(rows.map ki)[i]? =some (ki r):=by rw [aR,v8];rfl
  have AX:=mi (rows:=rows) (n:=i) rfl v8;rw [hix];rw [hi] at Iy htl;obtain ⟨F,occ,hE,he⟩:=hB.e;refine (I9 hE i).mono ?_;rintro e u1 ⟨rfl,hr⟩;obtain ⟨EG,k1⟩:=he hr;obtain ⟨F',occ',hM,hnK,hm⟩:=EG.mK;obtain ⟨b,hmr,hbr,AY,-,hFb,hmb,bk⟩:=hM.KD;have rk:=uh hbr AY;have inb:eA (aB b) (i:Int) 16:=rk.im (i:=(i:Int)) aF ab (by show (i:Int)<((16:Nat):Int);omega);obtain ⟨p0,p1,p2⟩:=ZP AY hbr (k:=i) ab (false,(Ja,(0,0,false)));have pb:bz (ae (aB b) ((i:Int).toNat*13))=some b:=by rw [bh];rfl
  have nK:∀j,K2 j->some b≠some j:=λj hj q=>by injection q with q;exact hnK j hj (q▸hFb)
  refine ⟨_,rfl,k1 _ kw,k1 _ k3,⟨aB b,16,16⟩,hmr.at 2 rfl,inb,fT rfl ⟨r.1,rk.at hii (ZO r),⟨aB b,16,16⟩,hmr.at 2 rfl,inb,⟨p0,p1⟩,by rw [pb];exact nK _ kw,by rw [pb];exact nK _ k3,λu2 e2=> ?_⟩⟩;obtain ⟨q1,q2⟩:=p2 u2 e2;obtain ⟨Hg,k2⟩:=hm (bk q2 q1 (by rw [gW];exact AY));have AH:qP K2 w0 u2 a M ((ET rows (i:Int)).map ai) M (ET rows (i:Int)):=by rw [htl];unfold ET;rw [dQ];exact Hg
  cases hb:r.1 with
  |true=>
   have Ql:ai r=some r.2:=by unfold ai;rw [if_pos hb]
   have ht0:(nv (rows.map ai) i).1=0:=by unfold nv;rw [AX,Ql];rfl
   rw [ht0];exact yes rfl (yes rfl (fin rfl Iy AH λj hj=>(k2 j hj).trans (k1 j hj)))
  |false=>
   have Ql:ai r=none:=by unfold ai;rw [if_neg (by rw [hb];decide)]
   have ht0:(nv (rows.map ai) i).1=6:=by unfold nv;rw [AX,Ql];rfl
   rw [ht0];exact yes rfl (fP rfl (fin rfl Iy AH λj hj=>(k2 j hj).trans (k1 j hj)))
 have n8:=cU Hj;apply Br.mk<;>intro hk9
 ·have hk9:=cU hk9;have Iy:vN M rows d=(ZQ M (rows.map ai),rows):=by unfold vN;rw [if_neg n0,if_neg n1,if_neg n2,if_neg n3,if_neg n4,if_neg n5,if_neg n6,if_neg n7,if_neg n8,if_pos hk9]
  obtain ⟨F,occ,hE,he⟩:=hB.e;refine (VM hE ab).mono ?_;rintro e u1 ⟨rfl,hr⟩;obtain ⟨EG,k1⟩:=he hr;obtain ⟨F',occ',hM,hm⟩:=EG.m;refine ⟨_,rfl,k1 _ kw,k1 _ k3,(KE hM).mono ?_⟩;rintro e u2 ⟨sx,sw,rfl,hsx,hsw,x2⟩;obtain ⟨Hg,k2⟩:=EG.same x2;obtain ⟨c1,c2,c3⟩:=aiD hj hk;have hxl:(tN (rows.map ai) 16).length<=16:=by rw [Rh];exact yR _
  have hql:M.q.l.length<=4096:=by obtain ⟨Fs,hs,-⟩:=hM.ud;obtain ⟨gq,mq,qs,-,uY,-⟩:=hs.queue;have:=uY.len;have:=uY.room;omega
  refine ⟨_,sx,sw,rfl,k2 _ kw,k2 _ k3,(Rj hsx hsw c3 hxl hql c1 c2).mono ?_⟩;rintro e u3 ⟨sl,rfl,ho,x3⟩;obtain ⟨hB3,k33⟩:=Hg.same x3;rw [VN] at ho;obtain ⟨F3,occ3,hM3,hm3⟩:=hB3.m;obtain ⟨Fw,hW,bk⟩:=hM3.world;have hl:=Ur M (rows.map ai);refine ⟨sl,rfl,k33 _ kw,k33 _ k3,(CB hW ab sl (mX M (rows.map ai)) (ho.rd aF) (KF M _) ab).mono ?_⟩;rintro e u4 ⟨rfl,hr⟩;obtain ⟨hB4,k4⟩:=hm3 (bk hr);exact ⟨_,rfl,k4 _ kw,k4 _ k3,fin cp Iy hB4 λj hj=>(k4 j hj).trans ((k33 j hj).trans ((k2 j hj).trans (k1 j hj)))⟩
 have n9:=cU hk9;apply Br.mk<;>intro YO
 ·have YO:=cU YO;have Iy:vN M rows d=(M,rows):=by unfold vN;rw [if_neg n0,if_neg n1,if_neg n2,if_neg n3,if_neg n4,if_neg n5,if_neg n6,if_neg n7,if_neg n8,if_neg n9,if_pos YO]
  obtain ⟨F,occ,hE,he⟩:=hB.e;refine (vk hE hj.b ab (ix d) d.c9).mono ?_;rintro e u1 ⟨rfl,x1⟩;have EG:=hB.ext x1;have k1:=(hB.same x1).2;refine ⟨_,_,_,_,_,_,_,rfl,k1 _ kw,k1 _ k3,λu2 e2 u3 e3=> ?_⟩;have xx:Ext u1 u3:=(aQ e2).ag e3 (aC _);have zx:u3.heap.size=u1.heap.size+1:=by rw [zR e3,zA e2]
  have hB3:=EG.ext xx;have k13:=(EG.same xx).2;have kb:(K2 u1.heap.size\/YN.heap.size<=u1.heap.size/\u1.heap.size<u1.heap.size)\/u1.heap.size<=u1.heap.size/\u1.heap.size<u3.heap.size:=.inr ⟨aC _,by omega⟩;obtain ⟨F',occ',hM,hm⟩:=hB3.m;refine (xq hM hj.b ab (ix d) d.c9).mono ?_;rintro e u4 ⟨rfl,x4⟩;obtain ⟨hB4,k4⟩:=hB3.same x4;refine ⟨_,_,_,_,_,_,_,rfl,k4 _ (.inl (.inl kw)),k4 _ (.inl (.inl k3)),k4 _ kb,λu5 e5 u6 e6=> ?_⟩;have x6:Ext u4 u6:=(aQ e5).ag e6 (aC _);obtain ⟨hB6,k6⟩:=hB4.same x6;exact yes cp (yes cp (yes cp (yes cp (fin cp Iy (hB6.mono λj hj=> .inl (.inl hj)) λj hj=>(k6 j (.inl (.inl hj))).trans ((k4 j (.inl (.inl hj))).trans ((k13 j (.inl hj)).trans (k1 j hj)))))))
 have n10:=cU YO;have Iy:vN M rows d=((kL M (rows.map ai)).1,pS M rows):=by unfold vN;rw [if_neg n0,if_neg n1,if_neg n2,if_neg n3,if_neg n4,if_neg n5,if_neg n6,if_neg n7,if_neg n8,if_neg n9,if_neg n10]
 have hNr:CC (qR M):=Nr.due ⟨hj.t,hj.q,hj.s.now⟩;obtain ⟨F,occ,hE,he⟩:=hB.e;refine (Jb hE hj.b hbm0 hbm hNr hjs hj.u).mono ?_;rintro e u1 ⟨rfl,hr,-⟩;obtain ⟨EG,k1⟩:=he hr;obtain ⟨F',occ',hM,hm⟩:=EG.m;refine ⟨_,rfl,k1 _ kw,k1 _ k3,(Rk hM hj.b hbm0 hbm hNr hjs hj.u).mono ?_⟩;rintro e u2 ⟨rfl,hr⟩;obtain ⟨Hg,k2⟩:=hm hr;refine ⟨_,rfl,k2 _ kw,k2 _ k3,fin cp Iy ?_ λj hj=>(k2 j hj).trans (k1 j hj)⟩;rw [ji];exact Hg
end
def afP{b:List Int}(h:nC b):InY b:=h
variable {R:Ending->World->Prop} {w:World} {a0 a1 a2 a3 a4 a5 a6 a7 a8 a9 aA ar au aU aV aZ bG bC bD Cf aj aq aw bt bR bH eB eO eC wh bA bQ bw wi wm vb vd wo wu wx Ch Ci Cj Ck Cm Cn Co Cp Cq Cr:Int}
section
variable {F F':Nat->Prop} {w w':World} {g s o t:Nat} {M M':Sm} {occ:Value} {L:List (Option dS)}
def EF.dU(h:EF F w g s o t M occ L){j:Nat}{cs:LV}{τ:TypeId}(hr:Row w j cs τ)(h1:E8 τ)(h2:τ≠sm)(h3:τ≠kR)(h4:τ≠Bp)(h5:τ≠Q.ku)(h6:τ≠Q.cJ)(h7:τ≠qL)(h8:τ≠tV)(h9:τ≠lM):¬F j:=by
 obtain ⟨Fs,av,r1,r2,r3,rfl⟩:=h;rintro (hi|hi|hi)
 ·exact hr.ne r1 h8 hi
 ·exact r2.j9 hr h1 h2 h3 h4 h5 h6 h7 hi
 ·obtain ⟨i,hi⟩:=qy hi;obtain ⟨x,-,hx⟩:=r3.s i j hi;exact hr.ne hx h9 rfl
end
abbrev arR:iE:=(false,(Ja,(0,0,false)))
abbrev uy:List iE:=List.replicate 16 arR
def FB:uy.map ai=noL:=rfl
def RH:bo zl 16=(uy.map ki).flatten:=rfl
def ae1:(uz≠tV/\uz≠lM)/\CR≠tV/\CR≠lM:=by decide
def jv0(ak cap bud:Int):Jv 0 (UF ak cap bud) (uy.map ai):=by
 have mO:∀y:dS,some y ∈ uy.map ai->False:=λy hy=>by
  rw [FB] at hy;have:=List.eq_of_mem_replicate hy
  cases this
 refine ⟨λy hy=>(mO y hy).elim,⟨⟨oP _,oP _⟩,aC _,⟨oP _,by show (0:Int)<=_;decide⟩,aC _⟩,aC _,λe he=> ?_,λx hx=>(by cases hx),λy hy=>(mO y hy).elim,by show 1<=min (max bud 1) 64/\min (max bud 1) 64<=64;omega⟩;have he:e ∈ l9 ak 9:=he;unfold l9 at he;obtain ⟨p,hp,rfl⟩:=aW.1 he;have hp:p ∈ uA:=qd hp;obtain ⟨k,hk⟩:=Nd.1 hp;exact (KY hk).1
def FC(ak bud cap:Int)(hc:9<=cap)(w:World):ah 9 #[ak,bud,cap] w λe w'=>
  ∃a:Ad,e=Value.tuple #[.pointer (aB a.g),.pointer (aB a.m)]/\qP (λ_=>False) w w' a (UF ak cap bud) (uy.map ai) (UF ak cap bud) uy:=by
 refine (KZ ak bud cap hc w).mono ?_;rintro e w' ⟨g,s,o,t,F,m,b,s',o',t',F',rfl,hE,hS,rm,rb,hdj,fF,fF',zm,zb,x⟩;have nm:=hE.dU rm nG.1.1 nG.1.2.1 nG.1.2.2.1 nG.1.2.2.2.1 nG.1.2.2.2.2.1 nG.1.2.2.2.2.2.1 nG.1.2.2.2.2.2.2 ae1.1.1 ae1.1.2;have nb:=hE.dU rb nG.2.1.1 nG.2.1.2.1 nG.2.1.2.2.1 nG.2.1.2.2.2.1 nG.2.1.2.2.2.2.1 nG.2.1.2.2.2.2.2.1 nG.2.1.2.2.2.2.2.2 ae1.2.1 ae1.2.2;refine ⟨⟨g,s,o,t,m,s',o',t'⟩,rfl,F,_,_,_,hE,⟨F',b,rm,hS,by rw [<-RH];exact rb,rfl,rfl⟩,λi hi q=> ?_,fF,λi hi=> ?_,λj hj=>hj.elim,x⟩
 ·rcases q with rfl|rfl|q
  ·exact nm hi
  ·exact nb hi
  ·exact hdj i hi q
 ·rcases hi with rfl|rfl|hi
  ·exact zm
  ·exact zb
  ·exact fF' i hi
abbrev dKs:List Bool:=[true,true,true,true,true,true,true,true,true,true,true,true,true,true,true,true,false]
def jJ{r:LV}(h:MixR dKs r)(i:Nat)(hi:dKs[i]? =some true):∃z,r[i]? =some (.int .i64 z)/\bN z:=by obtain ⟨v,hv,z,rfl,hz⟩:=h.2 i true hi;exact ⟨z,hv,hz⟩
def aiS{r:LV}(h:r.length=17):∃a0 a1 a2 a3 a4 a5 a6 a7 a8 a9 b0 b1 b2 b3 b4 b5 b6,r=[a0,a1,a2,a3,a4,a5,a6,a7,a8,a9,b0,b1,b2,b3,b4,b5,b6]:=by
 match r,h with
 | [a0,a1,a2,a3,a4,a5,a6,a7,a8,a9,b0,b1,b2,b3,b4,b5,b6],_=>exact ⟨a0,a1,a2,a3,a4,a5,a6,a7,a8,a9,b0,b1,b2,b3,b4,b5,b6,rfl⟩
def aeZ{r:LV}(h:MixR dKs r):∃d:Dr,r=dL d/\dIn d:=by
 obtain ⟨a0,a1,a2,a3,a4,a5,a6,a7,a8,a9,b0,b1,b2,b3,b4,b5,b6,rfl⟩:=aiS h.1;obtain ⟨z0,h0,i0⟩:=jJ h 0 rfl;obtain ⟨z1,h1,i1⟩:=jJ h 1 rfl;obtain ⟨z2,h2,i2⟩:=jJ h 2 rfl;obtain ⟨z3,h3,i3⟩:=jJ h 3 rfl;obtain ⟨z4,h4,i4⟩:=jJ h 4 rfl;obtain ⟨z5,h5,i5⟩:=jJ h 5 rfl;obtain ⟨z6,h6,i6⟩:=jJ h 6 rfl;obtain ⟨z7,h7,i7⟩:=jJ h 7 rfl;obtain ⟨z8,h8,i8⟩:=jJ h 8 rfl;obtain ⟨z9,h9,i9⟩:=jJ h 9 rfl;obtain ⟨y0,g0,j0⟩:=jJ h 10 rfl;obtain ⟨y1,g1,j1⟩:=jJ h 11 rfl;obtain ⟨y2,g2,j2⟩:=jJ h 12 rfl;obtain ⟨y3,g3,j3⟩:=jJ h 13 rfl;obtain ⟨y4,g4,j4⟩:=jJ h 14 rfl;obtain ⟨y5,g5,j5⟩:=jJ h 15 rfl;obtain ⟨v,hv,c,rfl⟩:=h.2 16 false rfl
 cases h0;cases h1;cases h2;cases h3;cases h4;cases h5;cases h6;cases h7;cases h8;cases h9;cases g0;cases g1;cases g2;cases g3;cases g4;cases g5;cases hv
 exact ⟨⟨z0,z1,z2,(z3,z4),(z5,z6,z7),(z8,z9,y0),(y1,y2,y3),(y4,y5,c)⟩,rfl,i0,i1,i2,⟨i3,i4⟩,⟨i5,i6,i7⟩,i8,i9,j0⟩
def FA:∀{z:List (LV)},(∀r ∈ z,MixR dKs r)->∃ds:List Dr,z=ds.map dL/\∀d ∈ ds,dIn d
 | [],_=>⟨[],rfl,λd hd=>(by cases hd)⟩
 |r::z,h=>by
  obtain ⟨d,rfl,hd⟩:=aeZ (h r cp)
  obtain ⟨ds,rfl,hds⟩:=FA λr hr=>h r (CU _ hr)
  refine ⟨d::ds,rfl,λx hx=> ?_⟩
  rcases cB.1 hx with rfl|hx
  ·exact hd
  ·exact hds x hx
def Yk{l:List En}(h:ju l)(k:Nat){f:En->En}(hf:∀e,(f e).1=e.1):ju (l.eraseIdx k++(l[k]?.map f).toList):=by
 cases hk:l[k]? with
 |none=>simp only [Option.map_none,Option.toList_none,q8];exact B7 h k
 |some e=>exact PU (e:=f e) (B7 h k) λ⟨x,hx,q⟩=>((mem_erase h hk x).1 hx).2 (q.trans (hf e))
def PY(D:Dk)(e:En):(da D e).2.1.1=e.1:=by unfold da;split<;>rfl
def abY{D:Dk}{l:List En}{i:Nat}(h:ju l):ju (Mv D l i).1.2/\∀x ∈(Mv D l i).1.2,∃e ∈ l,e.1=x.1:=by
 unfold Mv;split
 ·exact ⟨h,λx hx=>⟨x,hx,rfl⟩⟩
 ·rename_i e he;split
  ·exact ⟨B7 h i,λx hx=>⟨x,(wP ..).subset hx,rfl⟩⟩
  ·refine ⟨afT h he (PY D e),λx hx=> ?_⟩;rcases hX hx with hx|rfl
   ·exact ⟨x,hx,rfl⟩
   ·exact ⟨e,aX he,(PY D e).symm⟩
def G0{limit:Int}{D:Dk}{l:List En}(h:ju l):ju (fo limit D l).1.2/\∀x ∈(fo limit D l).1.2,∃e ∈ l,e.1=x.1:=by
 unfold fo;split
 ·exact ⟨h,λx hx=>⟨x,hx,rfl⟩⟩
 split
 ·exact ⟨h,λx hx=>⟨x,hx,rfl⟩⟩
 ·exact abY h
def ajK{ak limit:Int}{D:Dk}{l:List En}{p:Po}(h:ju l):ju (DK ak limit D l p).1.2:=by
 unfold DK;split
 ·exact h
 split
 ·have:=Yk h (bX (λe:En=>e.1==p) l).toNat (f:=id) λ_=>rfl
  rw [Option.map_id] at this;exact this
 split
 ·exact (G0 h).1
 ·rename_i hf _;refine PU (G0 h).1 ?_;rintro ⟨x,hx,q⟩;obtain ⟨e,he,hq⟩:=(G0 h).2 x hx;obtain ⟨k,-,h2⟩:=yu h he;have h3:e.1=p:=hq.trans q;rw [h3] at h2;omega
def M6:∀(l:List (Nat × ee)) {L:List (Option dS)} {y:dS},some y ∈ wL L l->some y ∈ L\/∃x ∈ l,y.1=x.2
 | [],L,y,h=> .inl h
 |x::l,L,y,h=>by
  rcases M6 l (L:=uE L x.1 x.2) h with h|⟨z,hz,e⟩
  ·unfold uE at h
   split at h
   ·rcases hX h with h|h
    ·exact .inl h
    ·cases h
     exact .inr ⟨x,by simp,rfl⟩
   ·exact .inl h
  ·exact .inr ⟨z,by simp [hz],e⟩
def M8{L:List (Option dS)}{n:Int}{y:dS}(h:cj L n=some y):some y ∈ L:=by
 unfold cj at h;split at h
 ·exact aX (JM.1 h)
 ·cases h
variable {R:Ending->World->Prop} {w:World} {a0 a1 a2 a3 a4 a5 a6 a7 a8 a9 aA ar au aU aV aZ bG bC bD Cf aj aq aw bt bR bH eB eO eC wh bA bQ bw wi wm vb vd wo wu wx Ch Ci Cj Ck Cm Cn Co Cp Cq Cr:Int}
end Go.Proofs.YtkkkfkopcfdmaaaGreatDoor
