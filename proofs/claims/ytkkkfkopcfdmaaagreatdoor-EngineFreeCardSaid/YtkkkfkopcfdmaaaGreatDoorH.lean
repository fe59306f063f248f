import Derived.Test.YtkkkfkopcfdmaaaGreatDoorF
import Derived.Test.YtkkkfkopcfdmaaaGreatDoorG
import Derived.Test.YtkkkfkopcfdmaaaGreatDoorD
set_option linter.all false
namespace Go.Proofs.YtkkkfkopcfdmaaaGreatDoor
open Go Go.Vc Go.RowKit Go.Proofs
set_option maxRecDepth 100000
set_option maxHeartbeats 8000000
set_option linter.unusedVariables false
variable {R:Ending->World->Prop} {w:World} {a0 a1 a2 a3 a4 a5 a6 a7 a8 a9 aw ao au aP aQ aR bM bH bI DV aq ar aA bz bR bQ fe fg eM DW bE bO bC yu yw vV vW yx yy yz DX DY DZ D3 D4 D5 D6 D7 D8 D9:Int}
def aaP.vc(h:
 Aw w #[aw,ao,au] 41 λw0=>
 Aw w0 #[aa,aa,aa] 41 λw1=>
 ah 220 #[aw] w1.drew (Ri λx3 w2=>K2 w w0 w1.drew w2 (
 af w2 (dU w 2) 0 [au]/\af w2 (dU w 1) 0 [ao]/\ah 220 #[ao] w2 (Ri λx5 w4=>K2 w w0 w2 w4 (
 af w4 (dU w 2) 0 [au]/\ah 220 #[au] w4 (Ri λx7 w6=>K2 w w0 w4 w6 (
 Sw w6 w0 #[x3,x5,x7] λw8=>
 R (Value.agg #[x3,x5,x7]) w8))))))):ah 210 #[.agg #[aw,ao,au]] w R:=
 cq bU Tryz.func210 h
def aaQ.vc(h:
 R (Value.int .i64 (if 2147483648<(if (-2147483648)>a0 then (-2147483648) else a0) then 2147483648 else (if (-2147483648)>a0 then (-2147483648) else a0))) w):ah 220 #[a0] w R:=
 cq bU Tryz.func220 h
def Wu.vc(h:
 Aw w #[aw,ao,au] 41 λw0=>
 Aw w0 #[aa,aa,aa,aa,aa,aa,aa,aa,aa,aa,aa,aa,aa,aa,aa,aa,aa,aa] 186 λw1=>
 ah 219 #[(-1:Int),aa,aa,w] w1 (λe w2=>∃(x3 x4 x5:Int),e=Value.agg #[x3,x4,x5]/\
 ah 219 #[(1:Int),aa,aa,w] w2 (λe w6=>∃(x7 x8 x9:Int),e=Value.agg #[x7,x8,x9]/\
 ah 219 #[aa,(-1:Int),aa,w] w6 (λe bN=>∃(bA bS cn:Int),e=Value.agg #[bA,bS,cn]/\
 ah 219 #[aa,(1:Int),aa,w] bN (λe bJ=>∃(cD cp cZ:Int),e=Value.agg #[cD,cp,cZ]/\
 ah 219 #[aa,aa,(-1:Int),w] bJ (λe du=>∃(cr cW dh:Int),e=Value.agg #[cr,cW,dh]/\
 ah 219 #[aa,aa,(1:Int),w] du (λe ey=>∃(dA eG dT:Int),e=Value.agg #[dA,eG,dT]/\
 Wt ey ⟨w0,0,none⟩ 18/\(∀fb,fb=aK ey (aB w0) [x3,x4,x5,x7,x8,x9,bA,bS,cn,cD,cp,cZ,cr,cW,dh,dA,eG,dT]->
 ∃(fD ik gr iM iB il eF im jT lJ gx gd kH lu kJ ow qw lK:Int),af fb (aB w0) 0 [fD,ik,gr,iM,iB,il,eF,im,jT,lJ,gx,gd,kH,lu,kJ,ow,qw,lK]/\
 R (Value.agg #[fD,ik,gr,iM,iB,il,eF,im,jT,lJ,gx,gd,kH,lu,kJ,ow,qw,lK]) fb)))))))):ah 159 #[.agg #[aw,ao,au]] w R:=
 cq bU Tryz.func159 h
def Nf.vc{c0:Addr}(h:
 Aw w #[aa,aa,aa] 41 λw0=>
 ∃(x1:Int),ld w0.drew (ae (some c0) 0)=some (.int .i64 x1)/\
 ∃(x2:Int),ld w0.drew (ae (some c0) 1)=some (.int .i64 x2)/\
 ∃(x3:Int),ld w0.drew (ae (some c0) 2)=some (.int .i64 x3)/\
 ah 220 #[x1] w0.drew (Ri λx5 w4=>Kp w w0.drew w4/\
 af w4 (ae (some c0) 2) 0 [x3]/\af w4 (ae (some c0) 1) 0 [x2]/\ah 220 #[x2] w4 (Ri λx7 w6=>Kp w w4 w6/\
 af w6 (ae (some c0) 2) 0 [x3]/\ah 220 #[x3] w6 (Ri λx9 w8=>Kp w w6 w8/\
 ah 210 #[.agg #[(ak (x5+a0)),(ak (x7+a1)),(ak (x9+a2))]] w8 (jo λbA bS cn bN=>Kp w w8 bN/\
 Sw bN w #[bA,bS,cn] λbJ=>
 R (Value.agg #[bA,bS,cn]) bJ))))):ah 219 #[a0,a1,a2,c0] w R:=
 cq bU Tryz.func219 h
def RY.vc(h:
 ah 243 #[a0] w (λe w0=>∃(b1:Bool),e=b1/\
 Br b1
 (R (2:Int) w0)
 (ah 202 #[a0] w0 (λe w2=>∃(b3:Bool),e=b3/\
 Br b3
 (R (5:Int) w2)
 (R (0:Int) w2))))):ah 223 #[a0] w R:=
 cq bU Tryz.func223 h
def RZ.vc{a0:Value}(h:
 Aw w #[aq,ar,aA] 41 λw0=>
 ah 159 #[.agg #[aq,ar,aA]] w0 (λe w1=>∃(x2 x3 x4 x5 x6 x7 x8 x9 bk bA bS cn bW cD cp cZ cA cr:Int),e=Value.agg #[x2,x3,x4,x5,x6,x7,x8,x9,bk,bA,bS,cn,bW,cD,cp,cZ,cA,cr]/\Kp w w0 w1/\
 ((0:Int)<=3/\(3:Int)<((6:Nat):Int))/\∃(cW dh dJ:Int),(([x2,x3,x4,x5,x6,x7,x8,x9,bk,bA,bS,cn,bW,cD,cp,cZ,cA,cr]:LV).drop ((3:Int).toNat*3)).take 3=[.int .i64 cW,.int .i64 dh,.int .i64 dJ]/\
 cL Tryz.prog a0 [.agg #[cW,dh,dJ]] w1 (Ri λeG eR=>Kp w w1 eR/\
 ah 202 #[eG] eR (Rb λHm cV=>Kp w eR cV/\
 Br Hm
 (R (Value.tuple #[(1:Int),true]) cV)
 (ah 303 #[.agg #[aq,ar,aA]] cV (Rs λQ2 eB=>Kp w cV eB/\
 ∃I29:Nat->Int->Int->World->Prop,
 (∃n30,aL [aq,ar,aA]/\I29 n30 (0) (7) eB)/\
 ∀(n30:Nat)(atZ:Nat->Value)(il eF:Int)(iq:World),I29 n30 il eF iq->
 Br (decide (il<((Q2.n:Nat):Int)))
 (ez Q2.a il Q2.n/\∃(lJ gx gd:Int),af iq (ae Q2.a ((il:Int).toNat*3)) 0 [lJ,gx,gd]/\
 Aw iq #[aa,aa,aa] 41 λkP=>
 Sw kP iq #[lJ,gx,gd] λjS=>
 cL Tryz.prog a0 [.agg #[lJ,gx,gd]] jS (Ri λow iR=>K2 w iq jS iR (
 ah 280 #[ow] iR (Ri λlK iH=>K2 w iq iR iH (
 Br (lK>=0)
 (∃Mj,Mj<n30/\aL [aq,ar,aA]/\I29 Mj ((ak (il+1))) ((if lK<eF then lK else eF)) iH)
 (∃Mj,Mj<n30/\aL [aq,ar,aA]/\I29 Mj ((ak (il+1))) eF iH))))))
 (Br (eF==7)
 (R (Value.tuple #[aa,false]) iq)
 (R (Value.tuple #[(ak (eF+1)),true]) iq)))))))):ah 301 #[a0,.agg #[aq,ar,aA]] w R:=
 cq ⟨[(5,⟨[(19,.int .i64),(6,.int .i64)],[],[]⟩)],[],[]⟩ Tryz.func301 h
def Wf.vc{a0:Value}(h:
 Aw w #[aq,ar,aA] 41 λw0=>
 cL Tryz.prog a0 [.agg #[aq,ar,aA]] w0 (Ri λx2 w1=>Kp w w0 w1/\
 ah 243 #[x2] w1 (Rb λb4 w3=>Kp w w1 w3/\
 Br b4
 (ah 278 #[a0,.agg #[aq,ar,aA]] w3 (Rs λs6 w5=>Kp w w3 w5/\
 R s6 w5))
 (ah 202 #[x2] w3 (Rb λb8 w7=>Kp w w3 w7/\
 Br b8
 (ah 280 #[x2] w7.drew (Ri λbk w9=>Kp w w7.drew w9/\
 af w9 w 0 [aq,ar,aA]/\ah 279 #[a0,.agg #[aq,ar,aA],bk] w9 (Rs λkh bc=>Kp w w9 bc/\
 R kh bc)))
 (R (Value.slice none 0 0) w7)))))):ah 242 #[a0,.agg #[aq,ar,aA]] w R:=
 cq bU Tryz.func242 h
def R0.vc{a0:Value}(h:
 Aw w #[aq,ar,aA] 41 λw0=>
 ah 159 #[.agg #[aq,ar,aA]] w0 (λe w1=>∃(x2 x3 x4 x5 x6 x7 x8 x9 bk bA bS cn bW cD cp cZ cA cr:Int),e=Value.agg #[x2,x3,x4,x5,x6,x7,x8,x9,bk,bA,bS,cn,bW,cD,cp,cZ,cA,cr]/\Kp w w0 w1/\
 Aw w1 #[aa,aa,aa,aa,aa,aa,aa,aa,aa,aa,aa,aa,aa,aa,aa,aa,aa,aa] 186 λef=>
 Wt ef ⟨w1,0,none⟩ 18/\Nb w1 w/\(∀eU,eU=aK ef (aB w1) [x2,x3,x4,x5,x6,x7,x8,x9,bk,bA,bS,cn,bW,cD,cp,cZ,cA,cr]->
 Aw eU.drew #[aq,ar,aA] 41 λey=>
 ∃l23:LV,Rd ey (aJ (aB w1) (0) (6) 3) l23/\ba 24 3 ey ⟨(aB eU.drew.heap.size),1,1⟩ (6-0) l23/\∀(tR:Sl)(cV:World),aX 41 3 ey ⟨(aB eU.drew.heap.size),1,1⟩ (6-0) l23 tR cV->Kp w ey cV/\cV.heap[eU.drew.heap.size]? =ey.heap[eU.drew.heap.size]?/\
 ∃I26:Nat->Int->Sl->World->Prop,
 (∃n27,aL [aq,ar,aA]/\aL [aq,ar,aA]/\I26 n27 (0) ⟨none,0,0⟩ cV)/\
 ∀(n27:Nat)(at2:Nat->Value)(gr:Int)(tZ:Sl)(gA:World),I26 n27 gr tZ gA->
 Br (decide (gr<((tR.n:Nat):Int)))
 (ez tR.a gr tR.n/\∃(eF im jT:Int),af gA (ae tR.a ((gr:Int).toNat*3)) 0 [eF,im,jT]/\
 Aw gA #[aa,aa,aa] 41 λjN=>
 Sw jN gA #[eF,im,jT] λiN=>
 cL Tryz.prog a0 [.agg #[eF,im,jT]] iN (Ri λkH oL=>Kp w iN oL/\oL.heap[eU.drew.heap.size]? =iN.heap[eU.drew.heap.size]?/\Kp gA iN oL/\
 ah 223 #[kH] oL (Ri λkJ jS=>Kp w oL jS/\jS.heap[eU.drew.heap.size]? =oL.heap[eU.drew.heap.size]?/\Kp gA oL jS/\
 Br (kJ>0)
 (Aw jS #[eF,im,jT] 41 λkO=>
 ba 24 3 kO tZ 1 [eF,im,jT]/\∀(s43:Sl)(kI:World),aX 41 3 kO tZ 1 [eF,im,jT] s43 kI->Kp w kO kI/\kI.heap[eU.drew.heap.size]? =kO.heap[eU.drew.heap.size]?/\K2 gA jS kO kI (
 ∃n32,n32<n27/\aL [aq,ar,aA]/\aL [aq,ar,aA]/\I26 n32 ((ak (gr+1))) s43 kI))
 (∃n32,n32<n27/\aL [aq,ar,aA]/\aL [aq,ar,aA]/\I26 n32 ((ak (gr+1))) tZ jS))))
 (R tZ gA)))):ah 222 #[a0,.agg #[aq,ar,aA]] w R:=
 cq ⟨[(4,⟨[(16,.int .i64),(5,.slice)],[],[]⟩)],[],[]⟩ Tryz.func222 h
def Ng.vc(h:
 Aw w #[aw,ao,au] 41 λw0=>
 ah 159 #[.agg #[aw,ao,au]] w0 (λe w1=>∃(x2 x3 x4 x5 x6 x7 x8 x9 bk bA bS cn bW cD cp cZ cA cr:Int),e=Value.agg #[x2,x3,x4,x5,x6,x7,x8,x9,bk,bA,bS,cn,bW,cD,cp,cZ,cA,cr]/\Kp w w0 w1/\
 Aw w1 #[aa,aa,aa,aa,aa,aa,aa,aa,aa,aa,aa,aa,aa,aa,aa,aa,aa,aa] 186 λef=>
 Wt ef ⟨w1,0,none⟩ 18/\Nb w1 w/\(∀eU,eU=aK ef (aB w1) [x2,x3,x4,x5,x6,x7,x8,x9,bk,bA,bS,cn,bW,cD,cp,cZ,cA,cr]->
 (0:Int)<=2/\2<=((6:Nat):Int)/\(0:Int)<=2/\(2:Int)<=2/\(0:Int)<=4/\4<=((6:Nat):Int)/\∃l22:LV,Rd eU.drew (aJ (aB w1) ((4:Int).toNat) (6) 3) l22/\ba 24 3 eU.drew ⟨(aJ (aB w1) (0) ((2:Int).toNat) 3),((2:Int).toNat-0),((2:Int).toNat-0)⟩ (6-(4:Int).toNat) l22/\∀(s23:Sl)(gC:World),aX 41 3 eU.drew ⟨(aJ (aB w1) (0) ((2:Int).toNat) 3),((2:Int).toNat-0),((2:Int).toNat-0)⟩ (6-(4:Int).toNat) l22 s23 gC->Kp w eU.drew gC/\
 R s23 gC))):ah 303 #[.agg #[aw,ao,au]] w R:=
 cq bU Tryz.func303 h
def Wv.vc{a0:Value}(h:
 Aw w #[aq,ar,aA] 41 λw0=>
 ah 159 #[.agg #[aq,ar,aA]] w0 (λe w1=>∃(x2 x3 x4 x5 x6 x7 x8 x9 bk bA bS cn bW cD cp cZ cA cr:Int),e=Value.agg #[x2,x3,x4,x5,x6,x7,x8,x9,bk,bA,bS,cn,bW,cD,cp,cZ,cA,cr]/\Kp w w0 w1/\
 ((0:Int)<=2/\(2:Int)<((6:Nat):Int))/\∃(cW dh dJ:Int),(([x2,x3,x4,x5,x6,x7,x8,x9,bk,bA,bS,cn,bW,cD,cp,cZ,cA,cr]:LV).drop ((2:Int).toNat*3)).take 3=[.int .i64 cW,.int .i64 dh,.int .i64 dJ]/\
 Aw w1 #[aa,aa,aa] 41 λeR=>
 Sw eR w1 #[cW,dh,dJ] λgC=>
 cL Tryz.prog a0 [.agg #[cW,dh,dJ]] gC (Ri λfE cV=>K2 w w1 gC cV (
 ah 144 #[fE] cV (Rb λQ4 eB=>K2 w w1 cV eB (
 Br (!Q4)
 (R (Value.slice none 0 0) eB)
 (Aw eB #[aq,ar,aA,fE,cW,dh,dJ,(3:Int)] 289 λdX=>
 R (Value.slice (aB eB) 2 2) dX))))))):ah 278 #[a0,.agg #[aq,ar,aA]] w R:=
 cq bU Tryz.func278 h
def afr.vc{a0:Addr}(h:
 ah 97 #[(4096:Int)] w (λe w0=>∃(p1:Option Addr),e=p1/\
 ∀w2,w2=w0.alloc (.cells #[p1,a0,.int .i64 (if 64<(if 1>a1 then 1 else a1) then 64 else (if 1>a1 then 1 else a1)),(0:Int),.func (.func 98) #[] #[],.slice none 0 0] 130)->
 R (Value.pointer (aB w0)) w2)):ah 40 #[a0,a1] w R:=
 cq bU Tryz.func40 h
def H2.vc{a0:Addr}(h:
 ∃(p0:Option Addr),ld w (ae (some a0) 1)=some (.pointer p0)/\
 R p0 w):ah 18 #[a0] w R:=
 cq bU Tryz.func18 h
def Dq.vc{a0:Addr}(h:
 ∃(p0:Option Addr),ld w (ae (some a0) 0)=some (.pointer p0)/\
 ah 138 #[p0] w (λe w1=>∃(s2:Sl),e=s2/\
 R s2 w1)):ah 82 #[a0] w R:=
 cq bU Tryz.func82 h
def FG.vc{a0:Addr}{f1:Fn}{p1 q1:Array Value}(h:
 ((true=true/\Wr w (ae (some a0) 4) 1)/\(∀w0,w0=aK w (ae (some a0) 4) [.func f1 p1 q1]->
 R ug w0))):ah 118 #[a0,.func f1 p1 q1] w R:=
 cq bU Tryz.func118 h
def Nh.vc{a0:Addr}(h:
 ∃(x0:Int),ld w (ae (some a0) 3)=some (.int .i64 x0)/\
 R x0 w):ah 68 #[a0] w R:=
 cq bU Tryz.func68 h
def KX.vc{a0:Addr}(h:
 Aw w #[aq,ar,aA] 41 λw0=>
 ∃(p1:Option Addr),ld w0.drew (ae (some a0) 1)=some (.pointer p1)/\
 ah 161 #[p1,.agg #[aq,ar,aA],a2] w0.drew (Ri λx3 w2=>Kp w w0.drew w2/\
 Br (x3==0)
 (ah 162 #[a0,.agg #[aq,ar,aA]] w2 (Rt λw4=>Kp w w2 w4/\
 R x3 w4))
 (R x3 w2))):ah 113 #[a0,.agg #[aq,ar,aA],a2] w R:=
 cq bU Tryz.func113 h
def KY.vc{a0:Addr}(h:
 Aw w #[aq,ar,aA] 41 λw0=>
 ∃(p1:Option Addr),ld w0 (ae (some a0) 1)=some (.pointer p1)/\
 ah 27 #[p1] w0 (Rv λv3 w2=>Kp w w0 w2/\
 ah 222 #[v3,.agg #[aq,ar,aA]] w2 (Rs λs5 w4=>Kp w w2 w4/\
 ∃I6:Nat->Int->World->Prop,
 (∃n7,aL [aq,ar,aA]/\I6 n7 (0) w4)/\
 ∀(n7:Nat)(us8:Nat->Value)(x9:Int)(bN:World),I6 n7 x9 bN->
 Br (decide (x9<((s5.n:Nat):Int)))
 (ez s5.a x9 s5.n/\∃(bS cn bW:Int),af bN (ae s5.a ((x9:Int).toNat*3)) 0 [bS,cn,bW]/\
 Aw bN #[aa,aa,aa] 41 λeu=>
 Sw eu bN #[bS,cn,bW] λcP=>
 ∃(p17:Option Addr),ld cP.drew (ae (some a0) 0)=some (.pointer p17)/\
 ∃(cA:Int),ld cP.drew (ae (some a0) 3)=some (.int .i64 cA)/\
 cL Tryz.prog v3 [.agg #[bS,cn,bW]] cP.drew (Ri λcW gn=>K2 w bN cP.drew gn (
 af gn (ae (some a0) 3) 0 [cA]/\af gn bN 0 [bS,cn,bW]/\af gn (ae (some a0) 0) 0 [.pointer p17]/\ah 223 #[cW] gn (Ri λdJ eU=>K2 w bN gn eU (
 af eU (ae (some a0) 3) 0 [cA]/\af eU bN 0 [bS,cn,bW]/\af eU (ae (some a0) 0) 0 [.pointer p17]/\ah 211 #[p17,.agg #[bS,cn,bW],(ak (cA+dJ))] eU (Rb λZn eR=>K2 w bN eU eR (
 af eR (ae (some a0) 3) 0 [cA]/\∃tj,tj<n7/\aL [aq,ar,aA]/\I6 tj ((ak (x9+1))) eR)))))))
 (R ug bN)))):ah 162 #[a0,.agg #[aq,ar,aA]] w R:=
 cq ⟨[(3,⟨[(16,.int .i64)],[],[]⟩)],[],[]⟩ Tryz.func162 h
def FH.vc{a0:Addr}(h:
 Aw w #[aq,ar,aA,bz] 289 λw0=>
 ∃(p1:Option Addr),ld w0.drew (ae (some a0) 1)=some (.pointer p1)/\
 ah 27 #[p1] w0.drew (Rv λv3 w2=>Kp w w0.drew w2/\
 af w2 (dU w 3) 0 [bz]/\af w2 w 0 [aq,ar,aA]/\cL Tryz.prog v3 [.agg #[aq,ar,aA]] w2 (Ri λx5 w4=>Kp w w2 w4/\
 af w4 (dU w 3) 0 [bz]/\Br (x5 !=bz)
 (ah 113 #[a0,.agg #[aq,ar,aA],bz] w4 (Ri λx7 w6=>Kp w w4 w6/\
 R ug w6))
 (R ug w4)))):ah 244 #[a0,.agg #[aq,ar,aA,bz]] w R:=
 cq bU Tryz.func244 h
def FI.vc{a0:Addr}(h:
 Aw w #[aq,ar,aA] 41 λw0=>
 ∃(p1:Option Addr),ld w0.drew (ae (some a0) 1)=some (.pointer p1)/\
 ah 100 #[p1,.agg #[aq,ar,aA]] w0.drew (Rb λb3 w2=>Kp w w0.drew w2/\
 Br (!b3)
 (∃(p4:Option Addr),ld w2.drew (ae (some a0) 0)=some (.pointer p4)/\
 ∃(x5:Int),ld w2.drew (ae (some a0) 3)=some (.int .i64 x5)/\
 ah 211 #[p4,.agg #[aq,ar,aA],(ak (x5+1))] w2.drew (Rb λb7 w6=>Kp w w2.drew w6/\
 af w6 (ae (some a0) 3) 0 [x5]/\R ug w6))
 (∃(p8:Option Addr),ld w2 (ae (some a0) 1)=some (.pointer p8)/\
 ah 27 #[p8] w2 (Rv λv10 w9=>Kp w w2 w9/\
 ah 242 #[v10,.agg #[aq,ar,aA]] w9 (Rs λkh bc=>Kp w w9 bc/\
 ah 159 #[.agg #[aq,ar,aA]] bc (λe bG=>∃(bW cD cp cZ cA cr cW dh dJ dA eG dT fE fD ik gr iM iB:Int),e=Value.agg #[bW,cD,cp,cZ,cA,cr,cW,dh,dJ,dA,eG,dT,fE,fD,ik,gr,iM,iB]/\Kp w bc bG/\
 ((0:Int)<=2/\(2:Int)<((6:Nat):Int))/\∃(il eF im:Int),(([bW,cD,cp,cZ,cA,cr,cW,dh,dJ,dA,eG,dT,fE,fD,ik,gr,iM,iB]:LV).drop ((2:Int).toNat*3)).take 3=[.int .i64 il,.int .i64 eF,.int .i64 im]/\
 Aw bG #[aa,aa,aa] 41 λki=>
 Sw ki bG #[il,eF,im] λjN=>
 cL Tryz.prog v10 [.agg #[aq,ar,aA]] jN.drew (Ri λgd iN=>K2 w bG jN.drew iN (
 ah 243 #[gd] iN (Rb λb40 kP=>K2 w bG iN kP (
 Br b40
 (Br (decide ((((kh.n:Nat):Int):Int)>0))
 (∃(v41:Value),ld kP (ae (some a0) 4)=some (v41)/\
 cL Tryz.prog v41 [.agg #[il,eF,im]] kP (Rb λQn kO=>K2 w bG kP kO (
 Br Qn
 (Aw kO #[aq,ar,aA,aa] 289 λkI=>
 ∃(s45:Sl),ld kI.drew (ae (some a0) 5)=some (.slice s45.a s45.n s45.c)/\
 Aw kI.drew #[il,eF,im] 41 λoM=>
 ba 24 3 oM s45 1 [il,eF,im]/\∀(EJ:Sl)(gf:World),aX 41 3 oM s45 1 [il,eF,im] EJ gf->K3 w bG kO oM gf (
 gf.heap[kI.drew.heap.size]? =oM.heap[kI.drew.heap.size]?/\
 (true=true/\Wr gf (ae (some a0) 5) 1)/\bt (ae (some a0) 5)≠some w.heap.size/\bt (ae (some a0) 5)≠some bG.heap.size/\bt (ae (some a0) 5)≠some kO.heap.size/\bt (ae (some a0) 5)≠some kI.drew.heap.size/\(∀mI,mI=aK gf (ae (some a0) 5) [EJ]->
 ∃I50:Nat->Int->World->Prop,
 (∃n51,aL [aq,ar,aA]/\aL [il,eF,im]/\aL [aq,ar,aA,aa]/\aL [il,eF,im]/\I50 n51 (0) mI)/\
 ∀(n51:Nat)(at5:Nat->Value)(iT:Int)(Hs:World),I50 n51 iT Hs->
 Br (decide (iT<((1:Nat):Int)))
 (ez (aB kO) iT 1/\∃(tk ox yA qG:Int),af Hs (ae (aB kO) ((iT:Int).toNat*4)) 0 [tk,ox,yA,qG]/\
 Aw Hs #[aa,aa,aa,aa] 289 λnN=>
 Sw nN Hs #[tk,ox,yA,qG] λpG=>
 ah 244 #[a0,.agg #[tk,ox,yA,qG]] pG (Rt λjk=>K3 w bG kO pG jk (
 jk.heap[kI.drew.heap.size]? =pG.heap[kI.drew.heap.size]?/\Kp Hs pG jk/\
 ∃n55,n55<n51/\aL [aq,ar,aA]/\aL [il,eF,im]/\aL [aq,ar,aA,aa]/\aL [il,eF,im]/\I50 n55 ((ak (iT+1))) jk)))
 (R ug Hs))))
 (∃I63:Nat->Int->World->Prop,
 (∃n64,aL [aq,ar,aA]/\aL [il,eF,im]/\I63 n64 (0) kO)/\
 ∀(n64:Nat)(atz:Nat->Value)(nR:Int)(lC:World),I63 n64 nR lC->
 Br (decide (nR<((kh.n:Nat):Int)))
 (ez kh.a nR kh.n/\∃(qH pP oy oz:Int),af lC (ae kh.a ((nR:Int).toNat*4)) 0 [qH,pP,oy,oz]/\
 Aw lC #[aa,aa,aa,aa] 289 λQp=>
 Sw Qp lC #[qH,pP,oy,oz] λnt=>
 ah 244 #[a0,.agg #[qH,pP,oy,oz]] nt (Rt λsN=>K3 w bG lC nt sN (
 ∃n68,n68<n64/\aL [aq,ar,aA]/\aL [il,eF,im]/\I63 n68 ((ak (nR+1))) sN)))
 (R ug lC)))))
 (∃I76:Nat->Int->World->Prop,
 (∃n77,aL [aq,ar,aA]/\aL [il,eF,im]/\I76 n77 (0) kP)/\
 ∀(n77:Nat)(aBs:Nat->Value)(AL:Int)(vG:World),I76 n77 AL vG->
 Br (decide (AL<((kh.n:Nat):Int)))
 (ez kh.a AL kh.n/\∃(tN v5 B8 B9:Int),af vG (ae kh.a ((AL:Int).toNat*4)) 0 [tN,v5,B8,B9]/\
 Aw vG #[aa,aa,aa,aa] 289 λw86=>
 Sw w86 vG #[tN,v5,B8,B9] λCa=>
 ah 244 #[a0,.agg #[tN,v5,B8,B9]] Ca (Rt λMo=>K3 w bG vG Ca Mo (
 ∃n81,n81<n77/\aL [aq,ar,aA]/\aL [il,eF,im]/\I76 n81 ((ak (AL+1))) Mo)))
 (R ug vG)))
 (∃I89:Nat->Int->World->Prop,
 (∃n90,aL [aq,ar,aA]/\aL [il,eF,im]/\I89 n90 (0) kP)/\
 ∀(n90:Nat)(at9:Nat->Value)(Eb:Int)(IM:World),I89 n90 Eb IM->
 Br (decide (Eb<((kh.n:Nat):Int)))
 (ez kh.a Eb kh.n/\∃(EG EH EI Mp:Int),af IM (ae kh.a ((Eb:Int).toNat*4)) 0 [EG,EH,EI,Mp]/\
 Aw IM #[aa,aa,aa,aa] 289 λQ6=>
 Sw Q6 IM #[EG,EH,EI,Mp] λsO=>
 ah 244 #[a0,.agg #[EG,EH,EI,Mp]] sO (Rt λIz=>K3 w bG IM sO Iz (
 ∃n94,n94<n90/\aL [aq,ar,aA]/\aL [il,eF,im]/\I89 n94 ((ak (Eb+1))) Iz)))
 (R ug IM)))))))))))):ah 173 #[a0,.agg #[aq,ar,aA]] w R:=
 cq ⟨[(10,⟨[(70,.int .i64)],[],[]⟩),(10,⟨[(70,.int .i64)],[],[]⟩),(10,⟨[(70,.int .i64)],[],[]⟩),(10,⟨[(70,.int .i64)],[],[]⟩)],[],[]⟩ Tryz.func173 h
def KZ.vc{a0:Addr}(h:
 ∃(x0:Int),ld w (ae (some a0) 3)=some (.int .i64 x0)/\
 (true=true/\Wr w (ae (some a0) 3) 1)/\(∀w1,w1=aK w (ae (some a0) 3) [.int .i64 (if 1099511627776<(ak (x0+1)) then 1099511627776 else (ak (x0+1)))]->
 ∃(p2:Option Addr),ld w1.drew (ae (some a0) 0)=some (.pointer p2)/\
 ∃(x3:Int),ld w1.drew (ae (some a0) 3)=some (.int .i64 x3)/\
 ∃(x4:Int),ld w1.drew (ae (some a0) 2)=some (.int .i64 x4)/\
 ah 172 #[p2,x3,x4] w1.drew (λe w5=>∃(s6:Sl),e=s6/\
 ∃I7:Nat->Int->World->Prop,
 (∃n8,I7 n8 (0) w5)/\
 ∀(n8:Nat)(us9:Nat->Value)(bk:Int)(bc:World),I7 n8 bk bc->
 Br (decide (bk<((s6.n:Nat):Int)))
 (ez s6.a bk s6.n/\∃(cn bW cD:Int),af bc (ae s6.a ((bk:Int).toNat*3)) 0 [cn,bW,cD]/\
 Aw bc #[aa,aa,aa] 41 λcP=>
 Sw cP bc #[cn,bW,cD] λcJ=>
 ah 173 #[a0,.agg #[cn,bW,cD]] cJ (Rt λdu=>Kp bc cJ du/\
 ∃HP,HP<n8/\I7 HP ((ak (bk+1))) du))
 (R (Value.int .i64 ((s6.n:Nat):Int)) bc)))):ah 119 #[a0] w R:=
 cq ⟨[(4,⟨[(30,.int .i64)],[],[]⟩)],[],[]⟩ Tryz.func119 h
open Go.dm Go.aZ Go.Code Go.fh
def eW(c:Ce):Prop:=(-2000000000<=c.1/\c.1<=2000000000)/\(-2000000000<=c.2.1/\c.2.1<=2000000000)/\-2000000000<=c.2.2/\c.2.2<=2000000000
def AZ(c:Ce):Prop:=(-1000000000<=c.1/\c.1<=1000000000)/\(-1000000000<=c.2.1/\c.2.1<=1000000000)/\-1000000000<=c.2.2/\c.2.2<=1000000000
def eW.ok{c:Ce}(h:eW c):qC c:=by unfold eW at h;unfold qC bT;omega
def AZ.wide{c:Ce}(h:AZ c):eW c:=by unfold AZ at h;unfold eW;omega
def Fj{c:Ce}(h:eW c){n:Ce}(hn:n ∈ sa c):qC n:=by unfold eW at h;unfold sa fu C4 at hn;simp only [cR,oQ,or_false] at hn;rcases hn with rfl|rfl|rfl|rfl|rfl|rfl<;>(unfold qC bT;simp only;omega)
def age{c:Ce}(h:AZ c){n:Ce}(hn:n ∈ sa c):eW n:=by unfold AZ at h;unfold sa fu C4 at hn;simp only [cR,oQ,or_false] at hn;rcases hn with rfl|rfl|rfl|rfl|rfl|rfl<;>(unfold eW;simp only;omega)
def rC(n:Int)(h: -2147483648<=n/\n<=2147483648)(w:World):ah 220 #[n] w λe w'=>e=n/\w'=w:=by apply aaQ.vc;have e1:(if (-2147483648)>n then (-2147483648) else n)=n:=if_neg ab;rw [e1,if_neg ab];exact ⟨rfl,rfl⟩
def acs(c:Ce)(h:(-2147483648<=c.1/\c.1<=2147483648)/\(-2147483648<=c.2.1/\c.2.1<=2147483648)/\-2147483648<=c.2.2/\c.2.2<=2147483648)(w:World):ah 210 #[eg c] w λe w'=>e=(eg c)/\Ext w w':=by
 apply aaP.vc;intro w0 e0 w1 e1;have x1:Ext w w1:=(aT e0).bg e1;have z0:=eN e0;have r0:Row w1 w [c.1,c.2.1,c.2.2] qD:=(by rw [e0];exact Row.new w [_,_,_] _:Row w0 w _ _).ext (aT e1);have xd:=Ext.dr w1;have r1:=r0.ext xd;refine (rC c.1 h.1 w1.drew).mono ?_;rintro e w2 ⟨rfl,rfl⟩;refine ⟨_,rfl,rfl,rfl,r1.cg (o:=2) (λj hj=>by
  match j,hj with
  |0,_=>rfl),r1.cg (o:=1) (λj hj=>by
  match j,hj with
  |0,_=>rfl),(rC c.2.1 h.2.1 w1.drew).mono ?_⟩
 rintro e w4 ⟨rfl,rfl⟩;refine ⟨_,rfl,rfl,rfl,r1.cg (o:=2) (λj hj=>by
  match j,hj with
  |0,_=>rfl),(rC c.2.2 h.2.2 w1.drew).mono ?_⟩
 rintro e w6 ⟨rfl,rfl⟩;exact ⟨_,rfl,rfl,rfl,λw8 e8=>⟨rfl,(x1.tr xd).ag e8 ab⟩⟩
def ml(a b d:Int)(c c':Ce)(he:c'=(c.1+a,c.2.1+b,c.2.2+d))(hc:eW c)(ha:(-1<=a/\a<=1)/\(-1<=b/\b<=1)/\-1<=d/\d<=1){g:Nat}{w:World}(hr:Row w g [c.1,c.2.1,c.2.2] qD):
  ah 219 #[a,b,d,g] w λe w'=>e=(eg c')/\Ext w w':=by
 subst he;apply Nf.vc;obtain ⟨⟨h1,h2⟩,⟨h3,h4⟩,h5,h6⟩:=id hc;intro w0 e0;have x0:=aT e0;have z0:=eN e0;have xd:=x0.tr (Ext.dr w0);have zd:=mN w0;have r1:=hr.ext xd;have q1:ak (c.1+a)=c.1+a:=wI;have q2:ak (c.2.1+b)=c.2.1+b:=wI;have q3:ak (c.2.2+d)=c.2.2+d:=wI;refine ⟨c.1,r1.at 0 rfl,c.2.1,r1.at 1 rfl,c.2.2,r1.at 2 rfl,(rC c.1 ab w0.drew).mono ?_⟩;rintro e w4 ⟨rfl,rfl⟩;refine ⟨_,rfl,rfl,po (r1.at 2 rfl),po (r1.at 1 rfl),(rC c.2.1 ab w0.drew).mono ?_⟩;rintro e w6 ⟨rfl,rfl⟩;refine ⟨_,rfl,rfl,po (r1.at 2 rfl),(rC c.2.2 ab w0.drew).mono ?_⟩;rintro e w8 ⟨rfl,rfl⟩;refine ⟨_,rfl,rfl,?_⟩;rw [q1,q2,q3];refine (acs (c.1+a,c.2.1+b,c.2.2+d) (by simp only;omega) w0.drew).mono ?_;rintro e bN ⟨rfl,bk⟩;exact ⟨_,_,_,rfl,bk.heap ab,λbJ vE=>⟨rfl,(xd.tr bk).ag vE (aD _)⟩⟩
abbrev dO(c:Ce):LV:=[.int .i64 c.1,.int .i64 c.2.1,.int .i64 c.2.2]
def B0(c:Ce):One (dO c):=by intro v hv;simp at hv;rcases hv with rfl|rfl|rfl<;>rfl
abbrev Dw(c:Ce):LV:=[.int .i64 (c.1-1),.int .i64 c.2.1,.int .i64 c.2.2,.int .i64 (c.1+1),.int .i64 c.2.1,.int .i64 c.2.2,.int .i64 c.1,.int .i64 (c.2.1-1),.int .i64 c.2.2,.int .i64 c.1,.int .i64 (c.2.1+1),.int .i64 c.2.2,.int .i64 c.1,.int .i64 c.2.1,.int .i64 (c.2.2-1),.int .i64 c.1,.int .i64 c.2.1,.int .i64 (c.2.2+1)]
def FQ(c:Ce):One (Dw c):=by intro v hv;simp only [Dw,cR,oQ,or_false] at hv;rcases hv with rfl|rfl|rfl|rfl|rfl|rfl|rfl|rfl|rfl|rfl|rfl|rfl|rfl|rfl|rfl|rfl|rfl|rfl<;>rfl
def acu(c:Ce):Dw c=((sa c).map dO).flatten:=rfl
def ed{cs vs:LV}(h:vs.length=cs.length):aW cs 0 vs=vs:=by rw [dw _ _ _ ab];simp [<-h]
def Ka{a b c a' b' c':Int}(h1:a=a')(h2:b=b')(h3:c=c'):((a,b,c):Ce)=(a',b',c'):=by rw [h1,h2,h3]
set_option maxRecDepth 100000 in
def jn(c:Ce)(hc:eW c)(w:World):ah 159 #[eg c] w λe w'=>e=Value.agg (Dw c).toArray/\Ext w w':=by apply Wu.vc;intro w0 e0 w1 e1;have x1:Ext w w1:=(aT e0).bg e1;have z0:=eN e0;have r0:Row w1 w [c.1,c.2.1,c.2.2] qD:=(by rw [e0];exact Row.new w [_,_,_] _:Row w0 w _ _).ext (aT e1);have rb:Row w1 w0 [aa,aa,aa,aa,aa,aa,aa,aa,aa,aa,aa,aa,aa,aa,aa,aa,aa,aa] 186:=Row.nw e1;refine (ml (-1) 0 0 c (c.1-1,c.2.1,c.2.2) (Ka ab ab ab) hc aG r0).mono ?_;rintro e w2 ⟨rfl,x2⟩;refine ⟨_,_,_,rfl,(ml 1 0 0 c (c.1+1,c.2.1,c.2.2) (Ka ab ab ab) hc aG (r0.ext x2)).mono ?_⟩;rintro e w6 ⟨rfl,x6⟩;have y6:=x2.tr x6;refine ⟨_,_,_,rfl,(ml 0 (-1) 0 c (c.1,c.2.1-1,c.2.2) (Ka ab ab ab) hc aG (r0.ext y6)).mono ?_⟩;rintro e bN ⟨rfl,bk⟩;have y10:=y6.tr bk;refine ⟨_,_,_,rfl,(ml 0 1 0 c (c.1,c.2.1+1,c.2.2) (Ka ab ab ab) hc aG (r0.ext y10)).mono ?_⟩;rintro e bJ ⟨rfl,bW⟩;have y14:=y10.tr bW;refine ⟨_,_,_,rfl,(ml 0 0 (-1) c (c.1,c.2.1,c.2.2-1) (Ka ab ab ab) hc aG (r0.ext y14)).mono ?_⟩;rintro e du ⟨rfl,cA⟩;have y18:=y14.tr cA;refine ⟨_,_,_,rfl,(ml 0 0 1 c (c.1,c.2.1,c.2.2+1) (Ka ab ab ab) hc aG (r0.ext y18)).mono ?_⟩;rintro e ey ⟨rfl,dJ⟩;have y22:=y18.tr dJ;have r22:=rb.ext y22;refine ⟨_,_,_,rfl,⟨rfl,r22.wr cj⟩,λfb yI=> ?_⟩;have yI:fb=aK ey (aB w0.heap.size) (Dw c):=yI;rw [r22.aK (vs:=Dw c) cj (FQ c),ed cj] at yI;have hr':Row fb w0 (Dw c) 186:=r22.st yI;exact ⟨_,_,_,_,_,_,_,_,_,_,_,_,_,_,_,_,_,_,hr'.cg (λj hj=>by rw [eD]),rfl,(x1.tr y22).ag yI ab⟩
def xl(b:Int)(w:World):ah 243 #[b] w λe w'=>e=Value.bool (b==3)/\w'=w:=by apply Nw.vc;exact ⟨rfl,rfl⟩
def pc(b:Int)(w:World):ah 202 #[b] w λe w'=>e=Value.bool (qU b)/\w'=w:=by
 apply WK.vc;unfold qU;refine Br.mk (λh=>⟨?_,rfl⟩) (λh=>⟨?_,rfl⟩)
 ·have h1:=dn h;rw [decide_eq_true h1,pW]
 ·have h1:=dn h;rw [decide_eq_false h1,CP]
def C6(b:Int)(w:World):ah 144 #[b] w λe w'=>e=Value.bool (kg b)/\w'=w:=by
 apply K9.vc;unfold kg;refine Br.mk (λh=>⟨?_,rfl⟩) (λh=>(pc b w).mono ?_)
 ·have h1:=dn h;rw [decide_eq_true h1,Bool.true_or]
 ·rintro e w' ⟨rfl,rfl⟩;have h1:=dn h;rw [decide_eq_false h1,Bool.false_or];exact ⟨_,rfl,rfl,rfl⟩
def Gd(b:Int)(w:World):ah 223 #[b] w λe w'=>e=Value.int .i64 (jL b)/\w'=w:=by
 apply RY.vc;refine (xl b w).mono ?_;rintro e w0 ⟨rfl,rfl⟩;unfold jL;refine ⟨_,rfl,Br.mk (λh=> ?_) (λh=>(pc b w0).mono ?_)⟩
 ·rw [if_pos (by simpa using h)];exact ⟨rfl,rfl⟩
 ·rintro e w2 ⟨rfl,rfl⟩;rw [if_neg (by simpa using h)];refine ⟨_,rfl,Br.mk (λh=> ?_) (λh=> ?_)⟩
  ·rw [if_pos h];exact ⟨rfl,rfl⟩
  ·rw [if_neg (by rw [h];decide)];exact ⟨rfl,rfl⟩
def Tl(v:Value)(V:Ce->Int)(w:World):Prop:=∃D:Nat->Prop,(∀i,D i->i<w.heap.size)/\∀w',(∀i,D i->w'.heap[i]? =w.heap[i]?)->∀c,qC c->cL Tryz.prog v [eg c] w' λe w''=>e=Value.int .i64 (V c)/\Ext w' w''
def Tl.ext{v:Value}{V:Ce->Int}{w w':World}(h:Tl v V w)(x:Ext w w'):Tl v V w':=by obtain ⟨D,h1,h2⟩:=h;exact ⟨D,λi hi=>kB (h1 i hi) x.size,λw'' hk=>h2 w'' λi hi=>(hk i hi).trans (x.heap (h1 i hi))⟩
def Tl.at{v:Value}{V:Ce->Int}{w:World}(h:Tl v V w){c:Ce}(hc:qC c):cL Tryz.prog v [eg c] w λe w'=>e=Value.int .i64 (V c)/\Ext w w':=by obtain ⟨D,h1,h2⟩:=h;exact h2 w (λ_ _=>rfl) c hc
def ep{v:Value}{l:LV}{w:World}{R R':Ending->World->Prop}(h:cL Tryz.prog v l w R)(k:∀e w',R e w'->R' e w'):cL Tryz.prog v l w R':=dG h k
abbrev mV(x:Go.fh.Cg):LV:=[.int .i64 x.1.1,.int .i64 x.1.2.1,.int .i64 x.1.2.2,.int .i64 x.2]
def acv{E k n:Nat}{w w':World}{s s':Sl}{news:LV}(h:aX E k w s n news s' w')(hc:s.c<s.n+n):Ext w w':=by
 cases h with
 |fits hf=>omega
 |Cp=>exact (Ext.dr w).tr (Ext.al _ _)
set_option maxRecDepth 100000 in
def Sv{v:Value}{V:Ce->Int}{w:World}(hV:Tl v V w)(c:Ce)(hc:eW c):
  ah 222 #[v,eg c] w λe w'=>∃s:Sl,e=s/\aF w qD 3 w' s ((sy V c).map dO)/\Ext w w':=by
 apply R0.vc;intro w0 e0;have x0:=aT e0;have z0:=eN e0;refine (jn c hc w0).mono ?_;rintro e w1 ⟨rfl,x1⟩;have z1:=x1.size;refine ⟨_,_,_,_,_,_,_,_,_,_,_,_,_,_,_,_,_,_,rfl,x1.heap ab,λef VM=> ?_⟩;have cW:=aT VM;have z20:=eN VM;have hr:Row ef w1 [aa,aa,aa,aa,aa,aa,aa,aa,aa,aa,aa,aa,aa,aa,aa,aa,aa,aa] 186:=Row.nw VM;refine ⟨⟨rfl,hr.wr cj⟩,λe=>by
  have:w1.heap.size=w.heap.size:=by simpa [bt] using e
  omega,λeU HE ey HC=> ?_⟩
 have HE:eU=aK ef (aB w1.heap.size) (Dw c):=HE;rw [hr.aK (vs:=Dw c) cj (FQ c),ed cj] at HE;have qE:Row eU w1 (Dw c) 186:=hr.st HE;have dh:Ext w eU:=(x0.tr (x1.tr cW)).ag HE ab;have z21:=IQ HE;have xd:=Ext.dr eU;have zd:=mN eU;have dJ:=aT HC;have z22:=eN HC;have awv:Row ey eU.drew.heap.size (dO c) qD:=Row.nw HC;have aww:=dh.tr (xd.tr dJ);have awx:=qE.ext (xd.tr dJ);have ho:aF w qD 3 ey ⟨aB eU.drew.heap.size,1,1⟩ [dO c]:=aF.jG ab awv cj (aD _) rfl cj;have ha:=ho.HU (bytes:=24) (more:=(sa c).map dO) ab (λr hr=>by obtain ⟨y,-,rfl⟩:=aY.1 hr;rfl) (λr hr=>by obtain ⟨y,-,rfl⟩:=aY.1 hr;exact B0 y) (by simp [sa]) (by simp [sa]);obtain ⟨hp,bu⟩:=ha;refine ⟨((sa c).map dO).flatten,?_,hp,λtR cV ag9=> ?_⟩
 ·rw [eo];intro i u hu;exact awx.at i (by rw [acu];exact hu)
 obtain ⟨ZM,aDG,-,-,-⟩:=bu tR cV ag9;have dT:Ext ey cV:=acv ag9 (show (1:Nat)<1+(6-0) by decide);have z25:=dT.size;have apY:Ext w cV:=aww.tr dT;have ZM:aF w qD 3 cV tR ((c::sa c).map dO):=ZM;have jj:=ZM.rd (show 0<3 by decide);have aDH:tR.n=7:=jj.n;refine ⟨dT.heap ab,dT.heap ab,λn x tZ gA=>∃j:Nat,x=j/\j+n=7/\aF cV qD 3 gA tZ ((((c::sa c).take j).filter λn=>decide (0<jL (V n))).map dO)/\Ext cV gA,⟨7,rfl,rfl,0,rfl,rfl,aF.nil,Ext.cu _⟩,?_⟩;rintro n us x tZ gA ⟨j,rfl,hj,aej,iB⟩;have z31:=iB.size;apply Br.mk<;>intro hb
 ·replace hb:=nG hb;obtain ⟨y,hy⟩:=bB (l:=c::sa c) (i:=j) (by have:(c::sa c).length=7:=rfl;omega);have hym:y ∈ c::sa c:=aU hy;have oky:qC y:=by
   rcases cR.1 hym with rfl|h
   ·exact hc.ok
   ·exact Fj hc h
  have hy':((c::sa c).map dO)[j]? =some (dO y):=by rw [aV,hy];rfl
  have wW:(c::sa c).take (j+1)=(c::sa c).take j++ [y]:=by rw [dP,hy];rfl
  refine ⟨jj.iz (i:=(j:Int)) aG ab hb,_,_,_,(jj.ext iB).cg hy',λjN e36 iN ZW=> ?_⟩;have gx:Ext gA iN:=(aT e36).ag ZW (aD _);have z37:=Db e36 ZW;refine ep ((hV.ext (apY.tr (iB.tr gx))).at oky) ?_;rintro e oL ⟨rfl,gd⟩;have z38:=gd.size;refine ⟨_,rfl,gd.heap ab,gd.heap ab,gd.heap ab,(Gd (V y) oL).mono ?_⟩;rintro e jS ⟨rfl,rfl⟩;have wk:=nY (j:=j);refine ⟨_,rfl,rfl,rfl,rfl,?_⟩;have apZ:=aej.ext (gx.tr gd);apply Br.mk<;>intro hd
  ·intro kO Za;subst Za;have alS:tZ.n<=7:=by have h1:=(aej.rd (show 0<3 by decide)).n;have h2:=zf (λn=>decide (0<jL (V n))) ((c::sa c).take j);rw [aN] at h1;rw [dI] at h2;omega
   obtain ⟨DU,hres8⟩:=apZ.iO (bytes:=24) (news:=dO y) (.cells #[y.1,y.2.1,y.2.2] qD) ab rfl (B0 y) ab ab;refine ⟨DU,λs43 kI aek=> ?_⟩;obtain ⟨f8,yM,hn8,x8,Hh,-⟩:=hres8 s43 kI aek;have xa:=Ext.al jS (.cells #[y.1,y.2.1,y.2.2] qD);have akt:∀b,tZ.bj=some b->cV.heap.size<=b/\b<gA.heap.size:=λb hb=>aej.own.lt hb
   have kp:∀j,(j<cV.heap.size\/gA.heap.size<=j)->j<jS.heap.size->kI.heap[j]? =(jS.alloc (.cells #[y.1,y.2.1,y.2.2] qD)).heap[j]? :=λj hj hj2=>by rw [Hh j (λhb=>by have:=akt j hb;omega) hj2,xa.heap hj2]
   refine ⟨kp _ (.inl ab) ab,kp _ (.inl ab) ab,kp _ (.inr ab) ab,f8,n-1,by omega,rfl,rfl,j+1,wk,by omega,?_,(Below.trans (iB.tr (gx.tr gd)) x8:Below cV cV kI)⟩;rw [wW,qd,bX,Jh (by simpa using hd)];exact yM
  ·refine ⟨n-1,by omega,rfl,rfl,j+1,wk,by omega,?_,iB.tr (gx.tr gd)⟩;rw [wW,qd,bX,Ji (by simpa using hd)];simpa using apZ
 ·replace hb:=nT hb;have hj7:(c::sa c).take j=c::sa c:=fz (by have:(c::sa c).length=7:=rfl;omega);rw [hj7] at aej;exact ⟨tZ,rfl,aej.low ab,apY.tr iB⟩
def RG(c:Ce):((Dw c).drop ((2:Int).toNat*3)).take 3=dO (fu c):=rfl
set_option maxRecDepth 100000 in
def Wg{v:Value}{V:Ce->Int}{w:World}(hV:Tl v V w)(c:Ce)(hc:eW c):
  ah 278 #[v,eg c] w λe w'=>∃s:Sl,e=s/\aF w kW 4 w' s ((Kb V c).map mV)/\Ext w w':=by
 apply Wv.vc;intro w0 e0;have x0:=aT e0;have z0:=eN e0;refine (jn c hc w0).mono ?_;rintro e w1 ⟨rfl,x1⟩;have z1:=x1.size;have okl:qC (fu c):=Fj hc (by simp [sa]);refine ⟨_,_,_,_,_,_,_,_,_,_,_,_,_,_,_,_,_,_,rfl,x1.heap ab,by decide,_,_,_,RG c,λeR VK gC Iu=> ?_⟩;have eG:Ext w1 gC:=(aT VK).ag Iu (aD _);have z24:=Db VK Iu;have alT:=x0.tr (x1.tr eG);refine ep ((hV.ext alT).at okl) ?_;rintro e cV ⟨rfl,dT⟩;have z25:=dT.size;refine ⟨_,rfl,dT.heap ab,dT.heap ab,(C6 (V (fu c)) cV).mono ?_⟩;rintro e eB ⟨rfl,rfl⟩;unfold Kb;refine ⟨_,rfl,rfl,rfl,Br.mk (λh=> ?_) (λh=>λdX Qk=> ?_)⟩
 ·rw [if_neg (by simpa using h)];exact ⟨⟨none,0,0⟩,rfl,aF.nil,alT.tr dT⟩
 ·rw [if_pos (by simpa using h)];have hr:Row dX eB (([(c,V (fu c)),(fu c,3)]:List Go.fh.Cg).map mV).flatten kW:=Row.nw Qk;exact ⟨⟨aB eB.heap.size,2,2⟩,rfl,aF.jG ab hr (aD _) (aD _) rfl (by intro r hr;simp at hr;rcases hr with rfl|rfl<;>rfl),(alT.tr dT).bg Qk⟩
variable {R:Ending->World->Prop} {w:World} {a0 a1 a2 a3 a4 a5 a6 a7 a8 a9 aw ao au aP aQ aR bM bH bI DV aq ar aA bz bR bQ fe fg eM DW bE bO bC yu yw vV vW yx yy yz DX DY DZ D3 D4 D5 D6 D7 D8 D9:Int}
def MS.vc{a0:Value}(h:
 Aw w #[aq,ar,aA] 41 λw0=>
 ah 301 #[a0,.agg #[aq,ar,aA]] w0 (λe w1=>∃(x2:Int)(b3:Bool),e=Value.tuple #[x2,b3]/\Kp w w0 w1/\
 ∃J4:World->Prop,
 (Br (a2>0)
 (Br (!b3)
 (Aw w1 #[aq,ar,aA,aa] 289 λw5=>
 R (Value.slice (aB w1) 1 1) w5)
 (Br (a2>0)
 (Br (x2 !=a2)
 (ah 302 #[x2] w1.drew (Ri λx7 w6=>Kp w w1.drew w6/\
 af w6 w 0 [aq,ar,aA]/\Aw w6 #[aq,ar,aA,x7] 289 λw8=>
 R (Value.slice (aB w6) 1 1) w8))
 (aL [aq,ar,aA]/\J4 w1))
 (aL [aq,ar,aA]/\J4 w1)))
 (Br (a2>0)
 (Br (x2 !=a2)
 (ah 302 #[x2] w1.drew (Ri λbk w9=>Kp w w1.drew w9/\
 af w9 w 0 [aq,ar,aA]/\Aw w9 #[aq,ar,aA,bk] 289 λbc=>
 R (Value.slice (aB w9) 1 1) bc))
 (aL [aq,ar,aA]/\J4 w1))
 (aL [aq,ar,aA]/\J4 w1)))/\
 ∀akp:Nat->Value,∀(bG:World),J4 bG->
 ah 159 #[.agg #[aq,ar,aA]] bG (λe bJ=>∃(cD cp cZ cA cr cW dh dJ dA eG dT fE fD ik gr iM iB il:Int),e=Value.agg #[cD,cp,cZ,cA,cr,cW,dh,dJ,dA,eG,dT,fE,fD,ik,gr,iM,iB,il]/\Kp w bG bJ/\
 ((0:Int)<=2/\(2:Int)<((6:Nat):Int))/\∃(eF im jT:Int),(([cD,cp,cZ,cA,cr,cW,dh,dJ,dA,eG,dT,fE,fD,ik,gr,iM,iB,il]:LV).drop ((2:Int).toNat*3)).take 3=[.int .i64 eF,.int .i64 im,.int .i64 jT]/\
 Aw bJ #[aa,aa,aa] 41 λjN=>
 Sw jN bJ #[eF,im,jT] λiN=>
 ∃J38:World->Prop,
 (cL Tryz.prog a0 [.agg #[eF,im,jT]] iN (Ri λlu kP=>K2 w bJ iN kP (
 Br (lu==0)
 (ah 302 #[(1:Int)] kP.drew (Ri λow iR=>K2 w bJ kP.drew iR (
 af iR (aB bJ) 0 [eF,im,jT]/\Aw iR #[eF,im,jT,ow] 289 λiH=>
 R (Value.slice (aB iR) 1 1) iH)))
 (ah 202 #[lu] kP (Rb λQm kI=>K2 w bJ kP kI (
 Br Qm
 (R (Value.slice none 0 0) kI)
 (Br (a2>=7)
 (R (Value.slice none 0 0) kI)
 (aL [aq,ar,aA]/\aL [eF,im,jT]/\J38 kI))))))))/\
 ∀apQ:Nat->Value,∀(mw:World),J38 mw->
 ah 303 #[.agg #[aq,ar,aA]] mw (Rs λTT gf=>K2 w bJ mw gf (
 ∃I50:Nat->Int->Sl->World->Prop,
 (∃n51,aL [aq,ar,aA]/\aL [eF,im,jT]/\I50 n51 (0) ⟨none,0,0⟩ gf)/\
 ∀(n51:Nat)(at5:Nat->Value)(iT:Int)(EE:Sl)(AK:World),I50 n51 iT EE AK->
 Br (decide (iT<((TT.n:Nat):Int)))
 (ez TT.a iT TT.n/\∃(ox yA qG:Int),af AK (ae TT.a ((iT:Int).toNat*3)) 0 [ox,yA,qG]/\
 Aw AK #[aa,aa,aa] 41 λnN=>
 Sw nN AK #[ox,yA,qG] λpG=>
 cL Tryz.prog a0 [.agg #[ox,yA,qG]] pG (Ri λtY jk=>K3 w bJ AK pG jk (
 Br (tY==0)
 (ah 302 #[(ak (a2+1))] jk.drew (Ri λrJ tX=>K3 w bJ AK jk.drew tX (
 af tX AK 0 [ox,yA,qG]/\Aw tX #[ox,yA,qG,rJ] 289 λrI=>
 ba 32 4 rI EE 1 [ox,yA,qG,rJ]/\∀(s67:Sl)(tM:World),aX 289 4 rI EE 1 [ox,yA,qG,rJ] s67 tM->K4 w bJ AK tX rI tM (
 ∃n56,n56<n51/\aL [aq,ar,aA]/\aL [eF,im,jT]/\I50 n56 ((ak (iT+1))) s67 tM))))
 (∃n56,n56<n51/\aL [aq,ar,aA]/\aL [eF,im,jT]/\I50 n56 ((ak (iT+1))) EE jk))))
 (R EE AK)))))):ah 279 #[a0,.agg #[aq,ar,aA],a2] w R:=
 cq ⟨[(14,⟨[(66,.int .i64),(11,.slice)],[],[]⟩)],[(12,⟨[],[],[]⟩),(6,⟨[],[],[]⟩)],[]⟩ Tryz.func279 h
def agu{E k m n c:Nat}{w w':World}{a:Option Addr}{s':Sl}{xs news:LV}{rows:List (LV)}(h:aX E k w ⟨a,m,c⟩ n news s' w')(hc:c<m+n)(hx:xs.length=m*k)(jj:Rd w a xs)(dq:xs++news=rows.flatten)(hw:∀r ∈ rows,r.length=k)(hl:news.length=n*k):aF w E k w' s' rows/\Ext w w':=by
 cases h with
 |fits hf=>simp only at hf;omega
 |Cp hg fP rest cap e1 e2 e3 e4=>
  have ho:fP=xs:=by
   apply jB;intro i;rcases jA i xs.length with hi|hi
   ·have h1:=jj i xs[i] (dv hi);have hi':i<fP.length:=by simp only at e1;omega
    have h2:=e2 i fP[i] (dv hi');rw [h1] at h2;rw [dv hi,dv hi'];exact h2.symm
   ·rw [jX hi,jX (by simp only at e1;omega)]
  subst ho;have DR:=Row.new w.drew (fP++news++rest) E;refine ⟨aF.jG (aD _) DR (Nat.le_of_eq e4.symm) e3 ?_ hw,(Ext.dr w).tr (Ext.al _ _)⟩;rw [<-dq];have dD:(fP++news).length=(m+n)*k:=by rw [cS,hx,hl,oX]
  rw [C1 (by simp only;omega),fz (by simp only;omega)]
def Fk(b:Int)(w:World):ah 280 #[b] w λe w'=>e=Value.int .i64 (hZ b)/\w'=w:=by
 apply No.vc;refine (pc b w).mono ?_;rintro e w0 ⟨rfl,rfl⟩;unfold hZ;refine ⟨_,rfl,Br.mk (λh=> ?_) (λh=> ?_)⟩
 ·have h:qU b=false:=by simpa using h
  rw [h,if_neg aG];exact ⟨rfl,rfl⟩
 ·have h:qU b=true:=by simpa using h
  rw [h,if_pos rfl];unfold qU at h;simp only [fy,cX] at h;rw [wI];exact ⟨rfl,rfl⟩
def MT{c:Ce}(h:eW c){n:Ce}(hn:n ∈ dy c):qC n/\n ∈ sa c:=by
 have:n ∈ sa c:=by
  unfold dy at hn;unfold sa;simp only [cR,oQ,or_false] at hn ⊢;rcases hn with h|h|h|h
  ·exact .inl h
  ·exact .inr (.inl h)
  ·exact .inr (.inr (.inr (.inr (.inl h))))
  ·exact .inr (.inr (.inr (.inr (.inr h))))
 exact ⟨Fj h this,this⟩
def Vz{w:World}{g:Nat}{cs:LV}{τ:TypeId}(hr:Row w g cs τ)(o:Nat){xs:LV}(h:∀i,i<xs.length->cs[o+i]? =xs[i]?):Rd w (dU g o) xs:=λi v hv=>by
 rw [bo,hr.ld]
 have hi:=(cK.1 hv).1
 rw [h i hi];exact hv
def ze(c:Ce)(hc:eW c)(w:World):ah 303 #[eg c] w λe w'=>∃s:Sl,e=s/\aF w qD 3 w' s ((dy c).map dO)/\Ext w w':=by
 apply Ng.vc;intro w0 e0;have x0:=aT e0;have z0:=eN e0;refine (jn c hc w0).mono ?_;rintro e w1 ⟨rfl,x1⟩;have z1:=x1.size;refine ⟨_,_,_,_,_,_,_,_,_,_,_,_,_,_,_,_,_,_,rfl,x1.heap ab,λef VM=> ?_⟩;have cW:=aT VM;have hr:Row ef w1 [aa,aa,aa,aa,aa,aa,aa,aa,aa,aa,aa,aa,aa,aa,aa,aa,aa,aa] 186:=Row.nw VM;refine ⟨⟨rfl,hr.wr cj⟩,λe=>by
  have:w1.heap.size=w.heap.size:=by simpa [bt] using e
  omega,λeU HE=> ?_⟩
 have HE:eU=aK ef (aB w1.heap.size) (Dw c):=HE;rw [hr.aK (vs:=Dw c) cj (FQ c),ed cj] at HE;have qE:Row eU w1 (Dw c) 186:=hr.st HE;have dh:Ext w eU:=(x0.tr (x1.tr cW)).ag HE ab;have xd:=Ext.dr eU;have hr3:=qE.ext xd;have x21d:=dh.tr xd;have zz:w1.heap.size<eU.drew.heap.size:=hr3.lt;have dD:(dO ((c.1,c.2.1,c.2.2-1):Ce)++dO (c.1,c.2.1,c.2.2+1)).length=6:=rfl;have h1:One (dO ((c.1,c.2.1,c.2.2-1):Ce)++dO (c.1,c.2.1,c.2.2+1)):=by
  intro v hv;rcases c5.1 hv with hv|hv
  ·exact B0 _ v hv
  ·exact B0 _ v hv
 have rd0:Rd eU.drew (aB w1.heap.size) (dO ((c.1-1,c.2.1,c.2.2):Ce)++dO (c.1+1,c.2.1,c.2.2)):=Vz hr3 0 (λi hi=>by
  have hi:i<6:=hi;have:i=0\/i=1\/i=2\/i=3\/i=4\/i=5:=by omega
  rcases this with rfl|rfl|rfl|rfl|rfl|rfl<;>rfl)
 refine ⟨by decide,by decide,by decide,by decide,by decide,by decide,dO ((c.1,c.2.1,c.2.2-1):Ce)++dO (c.1,c.2.1,c.2.2+1),Vz (o:=12) hr3 (λi hi=>by
  have hi:i<6:=hi;have:i=0\/i=1\/i=2\/i=3\/i=4\/i=5:=by omega
  rcases this with rfl|rfl|rfl|rfl|rfl|rfl<;>rfl),⟨λhf=>absurd hf (show ¬(2+2<=2) by decide),λ_=>⟨_,rfl,rd0⟩,λhg=>⟨growslice_fits hg (show (2+2)*24<=140737488355328 by decide),show ((2+2:Nat):Int)<=9223372036854775807 by decide⟩,rfl,h1⟩,λs23 gC bu=> ?_⟩
 obtain ⟨ho,eG⟩:=agu (rows:=(dy c).map dO) (xs:=dO ((c.1-1,c.2.1,c.2.2):Ce)++dO (c.1+1,c.2.1,c.2.2)) bu (show 2<2+2 by decide) rfl rd0 rfl (by intro r hr;obtain ⟨y,-,rfl⟩:=aY.1 hr;rfl) rfl;exact ⟨eG.heap ab,s23,rfl,ho.low ab,x21d.tr eG⟩
def Fi(V:Ce->Int):∀(l:List Ce)(m:Int),0<=m/\m<=7->0<=l.foldl (λm n=>if 0<=hZ (V n) then min m (hZ (V n)) else m) m/\l.foldl (λm n=>if 0<=hZ (V n) then min m (hZ (V n)) else m) m<=7
 | [],m,h=>h
 |n::l,m,h=>by
  rw [tc]
  refine Fi V l _ ?_
  split<;>omega
def YX(c:Ce):((Dw c).drop ((3:Int).toNat*3)).take 3=dO (C4 c):=rfl
def RF{v:Value}{V:Ce->Int}{w:World}(hV:Tl v V w)(c:Ce)(hc:eW c):
  ah 301 #[v,eg c] w λe w'=>e=Value.tuple #[.int .i64 (hX V c).1,.bool (hX V c).2]/\Ext w w':=by
 apply RZ.vc;intro w0 e0;have x0:=aT e0;have z0:=eN e0;refine (jn c hc w0).mono ?_;rintro e w1 ⟨rfl,x1⟩;have z1:=x1.size;have oko:qC (C4 c):=Fj hc (by simp [sa]);refine ⟨_,_,_,_,_,_,_,_,_,_,_,_,_,_,_,_,_,_,rfl,x1.heap ab,by decide,_,_,_,YX c,ep ((hV.ext (x0.tr x1)).at oko) ?_⟩;rintro e eR ⟨rfl,dA⟩;have z23:=dA.size;have aqu:=x0.tr (x1.tr dA);refine ⟨_,rfl,dA.heap ab,(pc (V (C4 c)) eR).mono ?_⟩;rintro e cV ⟨rfl,rfl⟩;unfold hX;refine ⟨_,rfl,rfl,Br.mk (λh=> ?_) (λh=>(ze c hc cV).mono ?_)⟩
 ·rw [if_pos h];exact ⟨rfl,aqu⟩
 rintro e eB ⟨Q2,rfl,ho,fD⟩;have z27:=fD.size;rw [if_neg (by rw [h];decide)];have jj:=ho.rd (show 0<3 by decide);have hn:Q2.n=4:=jj.n;refine ⟨Q2,rfl,fD.heap ab,λn x m wr=>∃j:Nat,x=j/\j+n=4/\m=((dy c).take j).foldl (λm n=>if 0<=hZ (V n) then min m (hZ (V n)) else m) 7/\Ext eB wr,⟨4,rfl,0,rfl,rfl,rfl,Ext.cu _⟩,?_⟩;rintro n us x m wr ⟨j,rfl,hj,rfl,xr⟩;have zr:=xr.size;have xr0:=aqu.tr (fD.tr xr);apply Br.mk<;>intro hb
 ·replace hb:=nG hb;obtain ⟨y,hy⟩:=bB (l:=dy c) (i:=j) (by have:(dy c).length=4:=rfl;omega);have oky:=(MT hc (aU hy)).1;have hy':((dy c).map dO)[j]? =some (dO y):=by rw [aV,hy];rfl
  have wW:(dy c).take (j+1)=(dy c).take j++ [y]:=by rw [dP,hy];rfl
  have wk:=nY (j:=j);refine ⟨jj.iz (i:=(j:Int)) aG ab hb,_,_,_,(jj.ext xr).cg hy',λkP e39 jS TS=> ?_⟩;have lu:Ext wr jS:=(aT e39).ag TS (aD _);have z40:=Db e39 TS;refine ep ((hV.ext (xr0.tr lu)).at oky) ?_;rintro e iR ⟨rfl,kJ⟩;have z41:=kJ.size;refine ⟨_,rfl,kJ.heap ab,kJ.heap ab,(Fk (V y) iR).mono ?_⟩;rintro e iH ⟨rfl,rfl⟩;refine ⟨_,rfl,rfl,rfl,Br.mk (λh2=> ?_) (λh2=> ?_)⟩
  ·have h2:=dn h2;refine ⟨n-1,by omega,rfl,j+1,wk,by omega,?_,xr.tr (lu.tr kJ)⟩;rw [wW,pk,tc,List.foldl_nil,if_pos h2];split<;>omega
  ·have h2:=dn h2;refine ⟨n-1,by omega,rfl,j+1,wk,by omega,?_,xr.tr (lu.tr kJ)⟩;rw [wW,pk,tc,List.foldl_nil,if_neg h2]
 ·replace hb:=nT hb;have ht:(dy c).take j=dy c:=fz (by have:(dy c).length=4:=rfl;omega);rw [ht];have hle:(dy c).foldl (λm n=>if 0<=hZ (V n) then min m (hZ (V n)) else m) 7=KK V (dy c):=rfl;have lr:=Fi V (dy c) 7 aG;rw [hle] at lr ⊢;apply Br.mk<;>intro h2
  ·rw [if_pos (by simpa using h2)];exact ⟨rfl,xr0⟩
  ·rw [if_neg (by simpa using h2),wI];exact ⟨rfl,xr0⟩
def afe(x:Go.fh.Cg):One (mV x):=by intro v hv;simp at hv;rcases hv with rfl|rfl|rfl|rfl<;>rfl
def KJ{w:World}{g:Nat}{B:Nat}(x:Go.fh.Cg)(hr:Row w g (mV x) kW)(hB:B<=g):aF B kW 4 w ⟨aB g,1,1⟩ ([x].map mV):=aF.jG hB hr cj (aD _) rfl cj
def RE{v:Value}{V:Ce->Int}{w:World}(hV:Tl v V w)(c:Ce)(hc:eW c)(level:Int)(hl:0<=level/\level<=7):
  ah 279 #[v,eg c,level] w λe w'=>∃s:Sl,e=s/\aF w kW 4 w' s ((lW V c level).map mV)/\Ext w w':=by
 apply MS.vc;intro w0 e0;have x0:=aT e0;have z0:=eN e0;have r0:Row w0 w (dO c) qD:=Row.nw e0;refine (RF (hV.ext x0) c hc).mono ?_;rintro e w1 ⟨rfl,x1⟩;have z1:=x1.size;have kG:=x0.tr x1;have atb:bT (hX V c).1:=by
  have:=Fi V (dy c) 7 aG;have hle:(dy c).foldl (λm n=>if 0<=hZ (V n) then min m (hZ (V n)) else m) 7=KK V (dy c):=rfl;rw [hle] at this;unfold hX bT;split
  ·simp
  ·split
   ·simp
   ·simp only;omega
 have caseA:0<level->(hX V c).2=false->lW V c level=[(c,0)]:=λh1 h2=>by unfold lW;rw [if_pos ⟨h1,h2⟩]
 have caseB:0<level->¬(hX V c).2=false->(hX V c).1≠level->lW V c level=[(c,jb (hX V c).1)]:=λh1 h2 h3=>by unfold lW;rw [if_neg (λq=>h2 q.2),if_pos ⟨h1,h3⟩]
 have armB:0<level->¬(hX V c).2=false->(hX V c).1≠level->ah 302 #[.int .i64 (hX V c).1] w1.drew (λe w6=>∃(x7:Int),e=x7/\w6.heap[w.heap.size]? =w1.drew.heap[w.heap.size]?/\
   af w6 (aB w.heap.size) 0 [c.1,c.2.1,c.2.2]/\∀w8:World,w8=w6.alloc (.cells #[c.1,c.2.1,c.2.2,x7] kW)->
   (λe w'=>∃s:Sl,e=Ending.returned s/\aF w kW 4 w' s ((lW V c level).map mV)/\Ext w w') (.returned (.slice (aB w6.heap.size) 1 1)) w8):=by
  intro h1 h2 h3;refine (lX (hX V c).1 w1.drew atb).mono ?_;rintro e w6 ⟨rfl,rfl⟩;refine ⟨_,rfl,rfl,Lo.wv (r0.ext (x1.tr (Ext.dr w1))),λw8 e8=> ?_⟩;have hr:Row w8 w1.drew.heap.size (mV (c,jb (hX V c).1)) kW:=Row.nw e8;have zd:=mN w1;refine ⟨⟨aB w1.drew.heap.size,1,1⟩,rfl,?_,(kG.tr (Ext.dr w1)).bg e8⟩;rw [caseB h1 h2 h3];exact KJ _ hr ab
 refine ⟨_,_,rfl,x1.heap ab,λwj=>wj=w1/\lW V c level=(if V (fu c)=0 then [(fu c,jb 1)] else if qU (V (fu c))=true\/7<=level then [] else ((dy c).filter λn=>decide (V n=0)).map λn=>(n,jb (level+1))),?_,?_⟩
 ·have fine:(¬0<level\/(¬(hX V c).2=false/\(hX V c).1=level))->lW V c level=(if V (fu c)=0 then [(fu c,jb 1)] else if qU (V (fu c))=true\/7<=level then [] else ((dy c).filter λn=>decide (V n=0)).map λn=>(n,jb (level+1))):=λh=>by unfold lW;rw [if_neg (λq=>h.elim (λh=>h q.1) λh=>h.1 q.2),if_neg (λq=>h.elim (λh=>h q.1) λh=>q.2 h.2)]
  refine Br.mk (λh1=>Br.mk (λh2=>λw5 e5=> ?_) (λh2=>Br.mk (λ_=>Br.mk (λh3=> ?_) (λh3=>⟨rfl,rfl,?_⟩)) (λh3=> ?_))) (λh1=>Br.mk (λh3=> ?_) (λh3=>⟨rfl,rfl,?_⟩))
  ·have h1:=dn h1;have hr:Row w5 w1 (mV (c,0)) kW:=Row.nw e5;refine ⟨⟨aB w1.heap.size,1,1⟩,rfl,?_,kG.bg e5⟩;rw [caseA h1 (by simpa using h2)];exact KJ _ hr ab
  ·exact armB (by simpa using h1) (by simpa using h2) (by simpa using h3)
  ·exact fine (.inr ⟨by simpa using h2,by simpa using h3⟩)
  ·rw [h1] at h3;cases h3
  ·rw [h1] at h3;cases h3
  ·exact fine (.inl (by simpa using h1))
 rintro us bG ⟨rfl,hW⟩;rw [hW];refine (jn c hc bG).mono ?_;rintro e bJ ⟨rfl,bW⟩;have Y9:=bW.size;have okl:qC (fu c):=Fj hc (by simp [sa]);refine ⟨_,_,_,_,_,_,_,_,_,_,_,_,_,_,_,_,_,_,rfl,bW.heap ab,by decide,_,_,_,RG c,λjN e36 iN ZW=> ?_⟩;have gx:Ext bJ iN:=(aT e36).ag ZW (aD _);have z37:=Db e36 ZW;have rl:Row iN bJ (dO (fu c)) qD:=by rw [ZW];exact Row.set (by rw [e36];exact Row.new bJ [_,_,_] _) _
 have AJ:=kG.tr (bW.tr gx);refine ⟨λwj=>Ext iN wj/\¬V (fu c)=0/\¬(qU (V (fu c))=true\/7<=level),ep ((hV.ext AJ).at okl) ?_,?_⟩
 ·rintro e kP ⟨rfl,kH⟩;have z39:=kH.size;refine ⟨_,rfl,kH.heap ab,kH.heap ab,Br.mk (λh=>(lX 1 kP.drew (by unfold bT;omega)).mono ?_) (λh=>(pc (V (fu c)) kP).mono ?_)⟩
  ·rintro e iR ⟨rfl,rfl⟩;have h:=dn h;refine ⟨_,rfl,rfl,rfl,Lo.wv (rl.ext (kH.tr (Ext.dr kP))),λiH e43=> ?_⟩;have hr:Row iH kP.drew.heap.size (mV (fu c,jb 1)) kW:=Row.nw e43;have zd:=mN kP;refine ⟨⟨aB kP.drew.heap.size,1,1⟩,rfl,?_,(AJ.tr (kH.tr (Ext.dr kP))).bg e43⟩;rw [if_pos h];exact KJ _ hr ab
  ·rintro e kI ⟨rfl,rfl⟩;have h:=dn h;rw [if_neg h];refine ⟨_,rfl,rfl,rfl,Br.mk (λh2=> ?_) (λh2=>Br.mk (λh3=> ?_) (λh3=>⟨rfl,rfl,kH,h,?_⟩))⟩
   ·rw [if_pos (.inl h2)];exact ⟨⟨none,0,0⟩,rfl,aF.nil,AJ.tr kH⟩
   ·rw [if_pos (.inr (by simpa using h3))];exact ⟨⟨none,0,0⟩,rfl,aF.nil,AJ.tr kH⟩
   ·rintro (q|q)
    ·rw [q] at h2;cases h2
    ·simp at h3;omega
 rintro us mw ⟨qF,h1,h2⟩;have z47:=qF.size;rw [if_neg h1,if_neg h2];have atc:=AJ.tr qF;refine (ze c hc mw).mono ?_;rintro e gf ⟨TT,rfl,atd,yL⟩;have z48:=yL.size;have Iv:=atc.tr yL;have jj:=atd.rd (show 0<3 by decide);have aA5:TT.n=4:=jj.n;refine ⟨TT,rfl,yL.heap ab,yL.heap ab,λn x EE wr=>∃j:Nat,x=j/\j+n=4/\aF gf kW 4 wr EE (((((dy c).take j).filter λn=>decide (V n=0)).map λn=>((n,jb (level+1)):Go.fh.Cg)).map mV)/\Ext gf wr,⟨4,rfl,rfl,0,rfl,rfl,aF.nil,Ext.cu _⟩,?_⟩;rintro n us x EE wr ⟨j,rfl,hj,ho,xr⟩;have zr:=xr.size;have xr0:=Iv.tr xr;apply Br.mk<;>intro hb
 ·replace hb:=nG hb;obtain ⟨y,hy⟩:=bB (l:=dy c) (i:=j) (by have:(dy c).length=4:=rfl;omega);have oky:=(MT hc (aU hy)).1;have hy':((dy c).map dO)[j]? =some (dO y):=by rw [aV,hy];rfl
  have wW:(dy c).take (j+1)=(dy c).take j++ [y]:=by rw [dP,hy];rfl
  have wk:=nY (j:=j);refine ⟨jj.iz (i:=(j:Int)) aG ab hb,_,_,_,(jj.ext xr).cg hy',λnN e60 pG e61=> ?_⟩;have vU:Ext wr pG:=(aT e60).ag e61 (aD _);have z61:=Db e60 e61;have ry:Row pG wr (dO y) qD:=by rw [e61];exact Row.set (by rw [e60];exact Row.new wr [_,_,_] _) _
  refine ep ((hV.ext (xr0.tr vU)).at oky) ?_;rintro e jk ⟨rfl,ov⟩;have z62:=ov.size;refine ⟨_,rfl,ov.heap ab,ov.heap ab,ov.heap ab,Br.mk (λh3=> ?_) (λh3=> ?_)⟩
  ·have wl:ak (level+1)=level+1:=wI;rw [wl];refine (lX (level+1) jk.drew (by unfold bT;omega)).mono ?_;rintro e tX ⟨rfl,rfl⟩;have xd:=vU.tr (ov.tr (Ext.dr jk));have zd:=mN jk;refine ⟨_,rfl,rfl,rfl,rfl,Lo.wv (ry.ext (ov.tr (Ext.dr jk))),λrI e66=> ?_⟩;subst e66;have ho':=ho.ext xd;have aA6:EE.n<=4:=by have h1:=(ho.rd (show 0<4 by decide)).n;have h2:=zf (λn=>decide (V n=0)) ((dy c).take j);rw [aN,aN] at h1;rw [dI] at h2;omega
   obtain ⟨DU,hres8⟩:=ho'.iO (bytes:=32) (news:=mV (y,jb (level+1))) (.cells #[y.1,y.2.1,y.2.2,(jb (level+1))] kW) ab rfl (afe _) ab ab;refine ⟨DU,λs67 tM ath=> ?_⟩;obtain ⟨f8,yM,hn8,x8,Hh,-⟩:=hres8 s67 tM ath;have xa:=Ext.al jk.drew (.cells #[y.1,y.2.1,y.2.2,(jb (level+1))] kW);have akt:∀b,EE.bj=some b->gf.heap.size<=b/\b<wr.heap.size:=λb hb=>ho.own.lt hb
   have kp:∀j,(j<gf.heap.size\/wr.heap.size<=j)->j<jk.drew.heap.size->tM.heap[j]? =(jk.drew.alloc (.cells #[y.1,y.2.1,y.2.2,(jb (level+1))] kW)).heap[j]? :=λj hj hj2=>by rw [Hh j (λhb=>by have:=akt j hb;omega) hj2,xa.heap hj2]
   refine ⟨kp _ (.inl ab) ab,kp _ (.inl ab) ab,kp _ (.inr ab) ab,f8,n-1,by omega,rfl,rfl,j+1,wk,by omega,?_,(Below.trans (xr.tr xd) x8:Below gf gf tM)⟩;rw [wW,qd,bX,bX,Jh (by simpa using h3)];exact yM
  ·refine ⟨n-1,by omega,rfl,rfl,j+1,wk,by omega,?_,xr.tr (vU.tr ov)⟩;rw [wW,qd,bX,bX,Ji (by simpa using h3)];simpa using ho.ext (vU.tr ov)
 ·replace hb:=nT hb;have ht:(dy c).take j=dy c:=fz (by have:(dy c).length=4:=rfl;omega);rw [ht] at ho;exact ⟨EE,rfl,ho.low ab,xr0⟩
def aaD{b:Int}(h:qU b=true):0<=hZ b/\hZ b<=7:=by grind [hZ,qU]
def RH{v:Value}{V:Ce->Int}{w:World}(hV:Tl v V w)(c:Ce)(hc:eW c):
  ah 242 #[v,eg c] w λe w'=>∃s:Sl,e=s/\aF w kW 4 w' s ((gF V c).map mV)/\Ext w w':=by
 apply Wf.vc;intro w0 e0;have x0:=aT e0;have z0:=eN e0;have r0:Row w0 w (dO c) qD:=Row.nw e0;refine ep ((hV.ext x0).at hc.ok) ?_;rintro e w1 ⟨rfl,x1⟩;have z1:=x1.size;have kG:=x0.tr x1;refine ⟨_,rfl,x1.heap ab,(xl (V c) w1).mono ?_⟩;rintro e w3 ⟨rfl,rfl⟩;unfold gF;refine ⟨_,rfl,rfl,Br.mk (λh=> ?_) (λh=>(pc (V c) w3).mono ?_)⟩
 ·rw [if_pos (by simpa using h)];refine (Wg (hV.ext kG) c hc).mono ?_;rintro e w5 ⟨s,rfl,ho,x5⟩;exact ⟨s,rfl,x5.heap ab,s,rfl,ho.low ab,kG.tr x5⟩
 ·rintro e w7 ⟨rfl,rfl⟩;rw [if_neg (by simpa using h)];refine ⟨_,rfl,rfl,Br.mk (λh2=>(Fk (V c) w7.drew).mono ?_) (λh2=> ?_)⟩
  ·rintro e w9 ⟨rfl,rfl⟩;rw [h2,if_pos rfl];have xd:=kG.tr (Ext.dr w7);have zd:=mN w7;refine ⟨_,rfl,rfl,Lo.wv (r0.ext (x1.tr (Ext.dr w7))),(RE (hV.ext xd) c hc (hZ (V c)) (aaD h2)).mono ?_⟩;rintro e bc ⟨s,rfl,ho,bA⟩;exact ⟨s,rfl,bA.heap ab,s,rfl,ho.low ab,xd.tr bA⟩
  ·rw [h2,if_neg aG];exact ⟨⟨none,0,0⟩,rfl,aF.nil,kG⟩
open Go.fZ
abbrev Bi:TypeId:=130
structure Sm where
 ai:Int
 cap:Int
 T:Tb
 ch:List Go.fh.Cg
 q:QS
 dp:Int
 now:Int
 lh:List Ce
abbrev smC(g o:Nat)(M:Sm)(occ:Value)(sd:Sl):LV:=[g,o,.int .i64 M.dp,.int .i64 M.now,occ,.slice sd.a sd.n sd.c]
def SF(F:Nat->Prop)(w:World)(s o t:Nat)(M:Sm)(occ:Value):Prop:=
 ∃g m qs Fw sd,Row w s (smC g o M occ sd) Bi/\Q.wO w g m qs M.q/\Lk M.q/\WF Fw w o t M.ai M.cap M.T M.ch/\aF 0 qD 3 w sd (M.lh.map dO)/\(∀i,Q.jg g m qs i->¬Fw i)/\F=λi=>i=s\/Q.jg g m qs i\/Fw i\/sd.bj=some i
section
variable {F F':Nat->Prop} {w w':World} {s o t:Nat} {M M':Sm} {occ:Value}
def SF.lt(h:SF F w s o t M occ){i:Nat}(hi:F i):i<w:=by
 obtain ⟨g,m,qs,Fw,sd,h1,h2,-,h3,h4,-,rfl⟩:=h;rcases hi with rfl|hi|hi|hi
 ·exact h1.lt
 ·exact h2.lt i hi
 ·exact h3.lt hi
 ·exact (h4.own.lt hi).2
def SF.same(h:SF F w s o t M occ)(hk:∀i,F i->w'.heap[i]? =w.heap[i]?):SF F w' s o t M occ:=by obtain ⟨g,m,qs,Fw,sd,h1,h2,hq,h3,h4,h5,rfl⟩:=h;obtain ⟨kvs,m1,m2⟩:=h2.map;exact ⟨g,m,qs,Fw,sd,h1.same (hk _ (.inl rfl)),⟨h2.row.same (hk _ (.inr (.inl (.inl rfl)))),aF.dc h2.own λb hb=>hk b (.inr (.inl (.inr (.inr hb)))),kvs,m1.same (hk _ (.inr (.inl (.inr (.inl rfl))))),m2⟩,hq,h3.same λi hi=>hk i (.inr (.inr (.inl hi))),aF.dc h4 λb hb=>hk b (.inr (.inr (.inr hb))),h5,rfl⟩
def SF.ext(h:SF F w s o t M occ)(x:Ext w w'):SF F w' s o t M occ:=h.same λ_ hi=>x.heap (h.lt hi)
def SF.dR(h:SF F w s o t M occ){j:Nat}{cs:LV}{τ:TypeId}(hr:Row w j cs τ)(h1:E4 τ)(h2:τ≠rR)(h3:τ≠kW)(h4:τ≠Bi)(h5:τ≠Q.kq)(h6:τ≠Q.cQ)(hj:∀(g:Nat)(sd:Sl),Row w s (smC g o M occ sd) Bi->sd.bj≠some j):¬F j:=by
 obtain ⟨g,m,qs,Fw,sd,r1,r2,-,r3,r4,-,rfl⟩:=h;rintro (hi|hi|hi|hi)
 ·exact hr.ne r1 h4 hi
 ·exact r2.dR hr h5 h6 hi
 ·exact r3.dR hr h1 h2 h3 hi
 ·exact hj g sd r1 hi
def SF.ka(h:SF F w s o t M occ){j:Nat}{cs:LV}{τ:TypeId}(hr:Row w j cs τ)(h1:E4 τ)(h2:τ≠rR)(h3:τ≠kW)(h4:τ≠Bi)(h5:τ≠Q.kq)(h6:τ≠Q.cQ)(h7:τ≠qD):¬F j:=by
 obtain ⟨g,m,qs,Fw,sd,r1,r2,-,r3,r4,-,rfl⟩:=h;rintro (hi|hi|hi|hi)
 ·exact hr.ne r1 h4 hi
 ·exact r2.dR hr h5 h6 hi
 ·exact r3.dR hr h1 h2 h3 hi
 ·obtain ⟨cs',hr'⟩:=bh r4 aG hi;exact hr.ne hr' h7 rfl
abbrev mW(F:Nat->Prop)(w:World)(s o t:Nat)(M:Sm)(occ:Value)(w':World):Prop:=∃F',SF F' w' s o t M occ/\aO F F' w w'
def SF.world(h:SF F w s o t M occ):∃Fw,WF Fw w o t M.ai M.cap M.T M.ch/\(∀i,Fw i->F i)/\∀{w':World} {T':Tb} {ch':List Go.fh.Cg},HS Fw w o t M.ai M.cap T' ch' w'->mW F w s o t {M with T:=T',ch:=ch'} occ w':=by
 obtain ⟨g,m,qs,Fw,sd,h1,h2,hq,h3,h4,h5,rfl⟩:=h;refine ⟨Fw,h3,λi hi=> .inr (.inr (.inl hi)),?_⟩;rintro w' T' ch' ⟨F',h',ht⟩;have n1:=h3.dR h1 aG aG aG;have n2:∀i,Q.jg g m qs i->¬Fw i:=h5;have n4:∀b,sd.bj=some b->¬Fw b:=λb hb=>by obtain ⟨cs',hr'⟩:=bh h4 aG hb;exact h3.dR hr' aG aG aG
 refine ⟨_,⟨g,m,qs,F',sd,ht.mod.row h1 n1,h2.dc ht.mod n2,hq,h',ht.mod.iC h4 n4,?_,rfl⟩,ht.mod.mono λi _ hi=> .inr (.inr (.inl hi)),λi hi=> ?_⟩
 ·exact λi hi hf=>ht.apart (G:=Q.jg g m qs) (λi hi hg=>h5 i hg hi) (λi hi=>h2.lt i hi) i hf hi
 ·rcases hi with hi|hi|hi|hi
  ·exact .inl (.inl hi)
  ·exact .inl (.inr (.inl hi))
  ·exact (ht.sub i hi).imp (λh=> .inr (.inr (.inl h))) id
  ·exact .inl (.inr (.inr (.inr hi)))
def SF.queue(h:SF F w s o t M occ):∃g m qs,Q.wO w g m qs M.q/\Lk M.q/\(∃sd,Row w s (smC g o M occ sd) Bi)/\(∀i,Q.jg g m qs i->F i)/\∀{w':World} {qs':Sl} {q':QS},Q.wO w' g m qs' q'->Lk q'->aO (Q.jg g m qs) (Q.jg g m qs') w w'->mW F w s o t {M with q:=q'} occ w':=by
 obtain ⟨g,m,qs,Fw,sd,h1,h2,hq,h3,h4,h5,rfl⟩:=h;refine ⟨g,m,qs,h2,hq,⟨sd,h1⟩,λi hi=> .inr (.inl hi),?_⟩;rintro w' qs' q' h' hq' ht;have n1:=h2.dR h1 aG aG;have n3:∀i,Fw i->¬Q.jg g m qs i:=λi hi hf=>h5 i hf hi
 have n4:=h2.abK h4 aG aG aG;refine ⟨_,⟨g,m,qs',Fw,sd,ht.mod.row h1 n1,h',hq',h3.dc ht.mod n3,ht.mod.iC h4 n4,?_,rfl⟩,ht.mod.mono λi _ hi=> .inr (.inl hi),λi hi=> ?_⟩
 ·exact λi hi hf=>ht.apart (G:=Fw) (λi hi hg=>h5 i hi hg) (λi hi=>h3.lt hi) i hi hf
 ·rcases hi with hi|hi|hi|hi
  ·exact .inl (.inl hi)
  ·exact (ht.sub i hi).imp (λh=> .inr (.inl h)) id
  ·exact .inl (.inr (.inr (.inl hi)))
  ·exact .inl (.inr (.inr (.inr hi)))
def SF.row(h:SF F w s o t M occ):∃g sd,Row w s (smC g o M occ sd) Bi/\aF 0 qD 3 w sd (M.lh.map dO)/\F s/\(∀b,sd.bj=some b->F b)/\∀{w':World} {M':Sm} {occ':Value} {sd':Sl},M'.ai=M.ai->M'.cap=M.cap->M'.T=M.T->M'.ch=M.ch->M'.q=M.q->Mod (λi=>i=s\/sd.bj=some i) w w'->Row w' s (smC g o M' occ' sd') Bi->aF 0 qD 3 w' sd' (M'.lh.map dO)->(∀b,sd'.bj=some b->sd.bj=some b\/w.heap.size<=b)->mW F w s o t M' occ' w':=by
 obtain ⟨g,m,qs,Fw,sd,h1,h2,hq,h3,h4,h5,rfl⟩:=h;refine ⟨g,sd,h1,h4,.inl rfl,λb hb=> .inr (.inr (.inr hb)),?_⟩;rintro w' M' occ' sd' e1 e2 e3 e4 e5 hm hr hd eQ;have q1:=h2.dR h1 aG aG;have q2:=h2.abK h4 aG aG aG;have r1:=h3.dR h1 aG aG aG;have r2:∀b,sd.bj=some b->¬Fw b:=λb hb=>by obtain ⟨cs',hr'⟩:=bh h4 aG hb;exact h3.dR hr' aG aG aG
 refine ⟨_,⟨g,m,qs,Fw,sd',hr,by rw [e5];exact h2.dc hm λi hi hf=>hf.elim (λe=>q1 (e▸hi)) (λe=>q2 _ e hi),by rw [e5];exact hq,by rw [e1,e2,e3,e4];exact h3.dc hm λi hi hf=>hf.elim (λe=>r1 (e▸hi)) (λe=>r2 _ e hi),hd,h5,rfl⟩,hm.mono λi _ hi=>hi.elim .inl (λe=> .inr (.inr (.inr e))),λi hi=> ?_⟩;rcases hi with hi|hi|hi|hi
 ·exact .inl (.inl hi)
 ·exact .inl (.inr (.inl hi))
 ·exact .inl (.inr (.inr (.inl hi)))
 ·exact (eQ i hi).imp (λh=> .inr (.inr (.inr h))) id
end
def aaS{l:List En}(hg:um l)(c:Ce)(b:Int):um (fj l c b).1:=by
 unfold fj;split
 ·exact hg
 ·split
  ·exact hg
  ·split
   ·exact hg
   ·intro e he;rcases c5.1 he with he|he
    ·exact hg e ((wJ ..).subset he)
    ·simp only [Option.mem_toList,CJ] at he;obtain ⟨y,hy,rfl⟩:=he;exact UO (hg y (aU hy)).1 (hg y (aU hy)).2 c b
section
variable {P P':Nat->Prop} {w w' v v':World} {s s1 s2 s3 s4:Sl} {T:Tb} {ch:List Cg} {ai cap:Int}
end
def uH(M:Sm)(c:Ce)(b:Int):Sm:={M with T:=(M.T.1,(fj M.T.2 c b).1),ch:=wsC M.T.2 M.ch c b,q:=if (fj M.T.2 c b).2=0 then Gc (fx (fj M.T.2 c b).1) M.now M.q c else M.q}
def da(M:Sm)(x:Go.fh.Cg):Sm:=if fx M.T.2 x.1=x.2 then M else uH M x.1 x.2
def zY(O:Ce->Bool)(M:Sm)(c:Ce):Bool:=decide (fx M.T.2 c=3) &&(!(gF (fx M.T.2) c).isEmpty && O (fu c))
def mZ(O:Ce->Bool)(M:Sm)(c:Ce):Sm:=
 if E5 M.T.2 c=false then {M with q:=(pM M.q c (M.now+1)).1}
 else if zY O M c=true then da {M with lh:=M.lh++ [fu c]} (c,0)
 else (gF (fx M.T.2) c).foldl da M
def su(M:Sm):Int:=min (M.now+1) 1099511627776
def xO(M:Sm):Sm:={M with now:=su M,q:=(Ll M.q (su M) M.dp).1}
def rL(M:Sm):List Ce:=(Ll M.q (su M) M.dp).2
def FZ(O:Ce->Bool)(M:Sm):Sm:=(rL M).foldl (mZ O) (xO M)
section
variable {F F':Nat->Prop} {w w':World} {s o t:Nat} {M M':Sm} {occ:Value}
def SF.tl(h:SF F w s o t M occ):Tl (.func (.func 83) #[t] #[]) (fx M.T.2) w:=by obtain ⟨Fw,hW,-,-⟩:=h.world;exact ⟨Fw,λi hi=>hW.lt hi,λw' hk c hc=>hW.am3 hk c hc⟩
def am4:Lk ⟨4096,0,[]⟩:=⟨by decide,by decide,List.Pairwise.nil,List.nodup_nil⟩
def CW{Fw:Nat->Prop}{ai cap:Int}{T:Tb}{ch:List Go.fh.Cg}(h:WF Fw w o t ai cap T ch)(dp:Int):ah 40 #[o,dp] w λe w'=>∃s F,e=Value.pointer (aB s)/\SF F w' s o t ⟨ai,cap,T,ch,⟨4096,0,[]⟩,min (max dp 1) 64,0,[]⟩ (.func (.func 98) #[] #[])/\Ext w w'/\(∀i,F i->Fw i\/w.heap.size<=i):=by
 apply afr.vc;refine (Q.Ga 4096 w).mono ?_;rintro e w0 ⟨g,m,rfl,hq,x0,hg,hm⟩;refine ⟨_,rfl,λw2 e2=> ?_⟩;have eb:(if 64<(if 1>dp then 1 else dp) then 64 else (if 1>dp then 1 else dp))=min (max dp 1) 64:=by split<;>split<;>omega
 rw [eb] at e2;have x2:=aT e2;have hr:Row w2 w0 (smC g o ⟨ai,cap,T,ch,⟨4096,0,[]⟩,min (max dp 1) 64,0,[]⟩ (.func (.func 98) #[] #[]) ⟨none,0,0⟩) Bi:=Row.nw e2;refine ⟨w0.heap.size,_,rfl,⟨g,m,⟨none,0,0⟩,Fw,⟨none,0,0⟩,hr,hq.ext x2,am4,h.ext (x0.tr x2),aF.nil,?_,rfl⟩,x0.tr x2,λi hi=> ?_⟩
 ·rintro i (hi|hi|hi) hf
  ·have:=h.lt hf;omega
  ·have:=h.lt hf;omega
  ·cases hi
 ·have:=x0.size;rcases hi with hi|(hi|hi|hi)|hi|hi
  ·exact .inr ab
  ·exact .inr ab
  ·exact .inr ab
  ·cases hi
  ·exact .inl hi
  ·cases hi
def gW(h:SF F w s o t M occ):ah 18 #[s] w λe w'=>e=Value.pointer (aB o)/\w'=w:=by obtain ⟨g,sd,h1,-⟩:=h.row;apply H2.vc;exact ⟨_,h1.at 1 rfl,rfl,rfl⟩
def wL(h:SF F w s o t M occ):ah 82 #[s] w λe w'=>∃s':Sl,e=s'/\aF w Q.cQ 4 w' s' (M.q.l.map gj)/\Ext w w':=by obtain ⟨g,m,qs,hq,bq,⟨sd,hr⟩,-⟩:=h.queue;apply Dq.vc;refine ⟨_,hr.at 0 rfl,(Q.abp hq bq).mono ?_⟩;rintro e w' ⟨s',rfl,ho,x⟩;exact ⟨s',rfl,s',rfl,ho,x⟩
def zK(h:SF F w s o t M occ)(f:Fn)(a b:Array Value):ah 118 #[s,.func f a b] w λe w'=>e=ug/\mW F w s o t M (.func f a b) w'/\Mod (λi=>i=s) w w':=by
 obtain ⟨g,sd,hr,ho,-,-,bu⟩:=h.row;apply FG.vc;obtain ⟨p1,p2⟩:=hr.jm (j:=4) (v:=.func f a b) (by simp [smC]) rfl;refine ⟨⟨rfl,p1⟩,λw0 e0=>⟨rfl,?_⟩⟩;obtain ⟨q1,q2⟩:=p2 w0 e0;have hso:∀b,sd.bj=some b->b≠s:=λb hb=>by obtain ⟨cs',hr'⟩:=bh ho aG hb;exact hr'.ne hr aG
 exact ⟨bu (M':=M) rfl rfl rfl rfl rfl (q2.mono λi _ hi=> .inl hi) q1 (q2.iC ho hso) (λb hb=> .inl hb),q2⟩
def Oi(b:Int):0<=jL b/\jL b<=5:=by
 unfold jL;split
 ·decide
 ·split<;>decide
def abq{V:Ce->Int}{c:Ce}(hc:eW c):∀n ∈ sy V c,qC n:=λn hn=>by
 unfold sy at hn
 rcases cR.1 (kA.1 hn).1 with rfl|h
 ·exact hc.ok
 ·exact Fj hc h
def JA(V:Ce->Int)(c:Ce):(sy V c).length<=7:=zf _ _
abbrev Gb(V:Ce->Int)(now:Int)(q:QS)(n:Ce):QS:=(pM q n (now+jL (V n))).1
def xP(V:Ce->Int)(now:Int):∀(l:List Ce)(q:QS),q.lost<=(l.foldl (Gb V now) q).lost/\(l.foldl (Gb V now) q).lost<=q.lost+l.length
 | [],q=>⟨pf _,by simp⟩
 |n::l,q=>by
  have h1:=xP V now l (Gb V now q n)
  have h2:=JB q n (now+jL (V n))
  have h3:(Gb V now q n).lost=(pM q n (now+jL (V n))).1.lost:=rfl
  simp only [tc,c8]
  omega
set_option maxRecDepth 100000 in
def Xf(h:SF F w s o t M occ)(c:Ce)(hc:eW c)(hl:0<=M.q.lost/\M.q.lost<=900000)(ahg:0<=M.now/\M.now<=1099511627776):
  ah 162 #[s,eg c] w λe w'=>e=ug/\mW F w s o t {M with q:=Gc (fx M.T.2) M.now M.q c} occ w':=by
 apply KY.vc;intro w0 e0;have x0:=aT e0;have z0:=eN e0;have h0:=h.ext x0;obtain ⟨g,sd,hr,-,hFs,-⟩:=h0.row;obtain ⟨Fw,hW,-,-⟩:=h0.world;refine ⟨_,hr.at 1 rfl,(gw hW).mono ?_⟩;rintro e w2 ⟨rfl,hw⟩;subst hw;refine ⟨_,rfl,rfl,(Sv h0.tl c hc).mono ?_⟩;rintro e w4 ⟨s5,rfl,ho,x4⟩;have z4:=x4.size;have jj:=ho.rd (show 0<3 by decide);have hn5:=jj.n;have h4:=h0.ext x4;have hL:=JA (fx M.T.2) c;have bq:=abq (V:=fx M.T.2) hc;unfold Gc;generalize hLe:sy (fx M.T.2) c=L at*;rw [aN] at hn5;refine ⟨s5,rfl,x4.heap ab,λn x bN=>∃(j:Nat)(F':Nat->Prop),x=j/\j+n=L.length/\SF F' bN s o t {M with q:=(L.take j).foldl (Gb (fx M.T.2) M.now) M.q} occ/\aO F F' w4 bN,⟨L.length,rfl,0,F,rfl,by omega,h4,aO.refl _ _⟩,?_⟩;rintro n us x bN ⟨j,F',rfl,hj,hS,hT⟩;have Y6:=hT.mod.size;have hF:∀i,F i->i<w.heap.size:=λi hi=>h.lt hi
 have hrd10:RdK bN s5 3 (L.map dO):=hT.mod.rdK aG jj λ_ b hb hf=>by have:=(ho.own.lt hb).1;have:=hF b hf;omega
 apply Br.mk<;>intro hb
 ·replace hb:=nG hb;obtain ⟨y,hy⟩:=bB (l:=L) (i:=j) ab;have oky:=bq y (aU hy);have hy':(L.map dO)[j]? =some (dO y):=by rw [aV,hy];rfl
  have wW:L.take (j+1)=L.take j++ [y]:=by rw [dP,hy];rfl
  have hlost:=xP (fx M.T.2) M.now (L.take j) M.q;have aB0:(L.take j).length<=7:=by rw [dI];omega
  generalize hqj:(L.take j).foldl (Gb (fx M.T.2) M.now) M.q=qj at*;refine ⟨hrd10.iz (i:=(j:Int)) aG ab hb,_,_,_,hrd10.cg hy',λeu pQ cP HM=> ?_⟩;have cp:Ext bN cP:=(aT pQ).ag HM (aD _);have z16:=Db pQ HM;have auL:Row cP bN (dO y) qD:=by rw [HM];exact Row.set (by rw [pQ];exact Row.new bN [_,_,_] _) _
  have xd:=cp.tr (Ext.dr cP);have zd:=mN cP;have ao5:=hS.ext xd;obtain ⟨g',m,qs,hq,uZ,⟨sd',hr'⟩,eQ,bu⟩:=ao5.queue;refine ⟨_,hr'.at 0 rfl,_,hr'.at 3 rfl,ep (ao5.tl.at oky) ?_⟩;rintro e gn ⟨rfl,cr⟩;have z19:=cr.size;have ahh:=hr'.ext cr;have ao6:=(auL.ext (Ext.dr cP)).ext cr;have hd:=Oi (fx M.T.2 y);have wr:ak (M.now+jL (fx M.T.2 y))=M.now+jL (fx M.T.2 y):=wI;refine ⟨_,rfl,cr.heap ab,cr.heap ab,po (ahh.at 3 rfl),Lo.wv ao6,po (ahh.at 0 rfl),(Gd (fx M.T.2 y) gn).mono ?_⟩;rintro e eU ⟨rfl,hw⟩;subst hw;refine ⟨_,rfl,rfl,rfl,po (ahh.at 3 rfl),Lo.wv ao6,po (ahh.at 0 rfl),?_⟩;rw [wr];refine (Q.Oj (hq.ext cr) uZ (by simp only at hlost ⊢;omega) y (M.now+jL (fx M.T.2 y))).mono ?_;rintro e eR ⟨rfl,qs',hq',ht⟩;have wk:=nY (j:=j);have ht':aO (Q.jg g' m qs) (Q.jg g' m qs') cP.drew eR:=(aO.aH cr).trans ht;obtain ⟨F2,Uj,HD⟩:=bu hq' (uZ.add y _) ht';have hsF:¬Q.jg g' m qs s:=(hq).dR hr' aG aG;have auM:=ht'.mod.row hr' hsF;have nf:∀i,(w.heap.size<=i/\i<w4.heap.size\/bN.heap.size<=i)->i<cP.drew.heap.size->eR.heap[i]? =eU.heap[i]? :=λi h1 h2=>(HD.mod.same i h2 (λhf=>by
   rcases h1 with ⟨h1,VA⟩|h1
   ·rcases hT.sub i hf with q|q
    ·have:=hF i q;omega
    ·omega
   ·have:=hS.lt hf;omega)).trans (cr.heap h2).symm
  refine ⟨_,rfl,nf _ (.inl ab) ab,nf _ (.inr ab) ab,po (auM.at 3 rfl),n-1,by omega,rfl,j+1,F2,wk,by omega,?_,(hT.trans (aO.aH xd)).trans HD⟩;rw [wW,pk,hqj];exact Uj
 ·replace hb:=nT hb;rw [fz ab] at hS;exact ⟨rfl,F',hS,(aO.aH (x0.tr x4)).trans hT⟩
end
section
variable {F F':Nat->Prop} {w w':World} {s o t:Nat} {M M':Sm} {occ:Value}
def mW.trans{F1:Nat->Prop}{w1:World}(h:aO F F1 w w1)(k:mW F1 w1 s o t M occ w'):mW F w s o t M occ w':=by obtain ⟨F2,h2,t2⟩:=k;exact ⟨F2,h2,h.trans t2⟩
structure rK(M:Sm)(n:Nat):Prop where
 l:0<=M.q.lost/\M.q.lost<=n
 c:M.ch.length<=n
 now:0<=M.now/\M.now<=1099511627776
 d:M.lh.length<=n
def rK.mono{n m:Nat}(h:rK M n)(hm:n<=m):rK M m:=⟨⟨h.l.1,by have:=h.l.2;omega⟩,gD h.c hm,h.now,gD h.d hm⟩
def abO(l:List En)(ch:List Go.fh.Cg)(c:Ce)(b:Int):(wsC l ch c b).length<=ch.length+1:=ae9 l ch c b
def S4(V:Ce->Int)(now:Int)(q:QS)(c:Ce):q.lost<=(Gc V now q c).lost/\(Gc V now q c).lost<=q.lost+7:=by have h1:=xP V now (sy V c) q;have h2:=JA V c;have h3:Gc V now q c=(sy V c).foldl (Gb V now) q:=rfl;rw [h3];omega
def rK.edit{n:Nat}(h:rK M n)(c:Ce)(b:Int):rK (uH M c b) (n+7):=by
 have h1:=abO M.T.2 M.ch c b;have h2:=S4 (fx (fj M.T.2 c b).1) M.now M.q c;have h3:=h.l;have h4:=h.c;unfold uH;have h5:=h.d;refine ⟨?_,?_,h.now,by simp only;omega⟩
 ·simp only;split<;>omega
 ·simp only;omega
def rK.change{n:Nat}(h:rK M n)(x:Go.fh.Cg):rK (da M x) (n+7):=by
 unfold da;split
 ·exact h.mono ab
 ·exact h.edit _ _
def ya(h:SF F w s o t M occ)(c:Ce)(hc:eW c)(b:Int)(hk:rK M 800000):
  ah 113 #[s,eg c,b] w λe w'=>e=Value.int .i64 (fj M.T.2 c b).2/\mW F w s o t (uH M c b) occ w':=by
 apply KX.vc;intro w0 e0;have x0:Ext w w0.drew:=(aT e0).tr (Ext.dr w0);have z0:w0.drew.heap.size=w.heap.size+1:=by show w0.heap.size=_;rw [e0];simp
 have zd:=mN w0;have h0:=h.ext x0;obtain ⟨g,sd,hr,-⟩:=h0.row;obtain ⟨Fw,hW,eQ,bu⟩:=h0.world;have hlc:=hk.c;have hll:=hk.l;refine ⟨_,(hr.at 1 rfl),(V8 hW c hc.ok b ab).mono ?_⟩;rintro e w2 ⟨rfl,hw⟩;obtain ⟨F2,h2,t2⟩:=bu hw;have hF:∀{i},w.heap.size<=i->i<w0.drew.heap.size->w2.heap[i]? =w0.drew.heap[i]? :=λh1 h3=>t2.mod.same _ h3 λhf=>by have:=h.lt hf;omega
 unfold uH;refine ⟨_,rfl,hF (aD _) ab,Br.mk (λhb=> ?_) (λhb=> ?_)⟩
 ·rw [if_pos (by simpa using hb)];refine (Xf h2 c hc (by simp only;omega) hk.now).mono ?_;rintro e w4 ⟨rfl,F4,h4,t4⟩;have hz:=t2.mod.size;have hnf:¬F2 w:=λhf=>by
   rcases t2.sub _ hf with q|q
   ·have:=h.lt q;omega
   ·omega
  exact ⟨rfl,t4.mod.same _ ab hnf,rfl,F4,h4,(aO.aH x0).trans (t2.trans t4)⟩
 ·rw [if_neg (by simpa using hb)];exact ⟨rfl,F2,h2,(aO.aH x0).trans t2⟩
def qk(h:SF F w s o t M occ)(x:Go.fh.Cg)(hc:eW x.1)(hk:rK M 800000):
  ah 244 #[s,.agg (mV x).toArray] w λe w'=>e=ug/\mW F w s o t (da M x) occ w':=by
 apply FH.vc;intro w0 e0;have VH:Row w0 w (mV x) kW:=Row.nw e0;have x0:Ext w w0.drew:=(aT e0).tr (Ext.dr w0);have z0:w0.drew.heap.size=w.heap.size+1:=by show w0.heap.size=_;rw [e0];simp
 have hb:=VH.ext (Ext.dr w0);have h0:=h.ext x0;obtain ⟨g,sd,hr,-⟩:=h0.row;obtain ⟨Fw,hW,-,-⟩:=h0.world;refine ⟨_,(hr.at 1 rfl),(gw hW).mono ?_⟩;rintro e w2 ⟨rfl,hw⟩;subst hw;refine ⟨_,rfl,rfl,hb.cg (o:=3) (λj hj=>by
  match j,hj with
  |0,_=>rfl),hb.cg (o:=0) (λj hj=>by
  match j,hj with
  |0,_=>rfl
  |1,_=>rfl
  |2,_=>rfl),ep (h0.tl.at hc.ok) ?_⟩
 rintro e w4 ⟨rfl,x4⟩;have z4:=x4.size;have AW:=x0.tr x4;unfold da;refine ⟨_,rfl,x4.heap ab,(hb.ext x4).cg (o:=3) (λj hj=>by
  match j,hj with
  |0,_=>rfl),Br.mk (λj8=> ?_) (λj8=> ?_)⟩
 ·rw [if_neg (by simpa using j8)];refine (ya (h.ext AW) x.1 hc x.2 hk).mono ?_;rintro e w6 ⟨rfl,F6,h6,t6⟩;exact ⟨_,rfl,t6.mod.same _ ab (λhf=>by have:=h.lt hf;omega),rfl,F6,h6,(aO.aH AW).trans t6⟩
 ·rw [if_pos (by simpa using j8)];exact ⟨rfl,F,h.ext AW,aO.aH AW⟩
end
def Oc(occ:Value)(O:Ce->Bool)(F:Nat->Prop)(w:World):Prop:=∃D:Nat->Prop,(∀i,D i->i<w.heap.size/\¬F i)/\∀w',(∀i,D i->w'.heap[i]? =w.heap[i]?)->∀c,qC c->cL Tryz.prog occ [eg c] w' λe w''=>e=Value.bool (O c)/\Ext w' w''
section
variable {F F':Nat->Prop} {w w':World} {s o t:Nat} {M M':Sm} {occ:Value} {O:Ce->Bool}
def Oc.uK(h:Oc occ O F w)(ht:aO F F' w w'):Oc occ O F' w':=by
 obtain ⟨D,h1,h2⟩:=h;refine ⟨D,λi hi=>⟨kB (h1 i hi).1 ht.mod.size,λhf=> ?_⟩,λw'' hk=>h2 w'' λi hi=>(hk i hi).trans (ht.mod.same i (h1 i hi).1 (h1 i hi).2)⟩;rcases ht.sub i hf with q|q
 ·exact (h1 i hi).2 q
 ·have:=(h1 i hi).1;omega
def Oc.ext(h:Oc occ O F w)(x:Ext w w'):Oc occ O F w':=h.uK (aO.aH x)
def Oc.at(h:Oc occ O F w){c:Ce}(hc:qC c):cL Tryz.prog occ [eg c] w λe w'=>e=Value.bool (O c)/\Ext w w':=by obtain ⟨D,h1,h2⟩:=h;exact h2 w (λ_ _=>rfl) c hc
def rK.fold{n:Nat}:∀{M:Sm} (l:List Go.fh.Cg),rK M n->rK (l.foldl da M) (n+7*l.length)
 |M,[],h=>h
 |M,x::l,h=>(rK.fold l (h.change x)).mono (by simp only [c8];omega)
def Oz(V:Ce->Int)(c:Ce):(gF V c).length<=4:=by
 unfold gF Kb lW;split
 ·split<;>simp
 ·split
  ·split
   ·simp
   ·split
    ·simp
    ·split
     ·simp
     ·split
      ·simp
      ·rw [aN];exact zf _ _
  ·simp
def YS(V:Ce->Int)(c:Ce):∀x ∈ gF V c,x.1=c\/x.1 ∈ sa c:=by grind [dy,sa,gF,Kb,lW]
set_option maxRecDepth 100000 in
def O0(h:SF F w s o t M occ)(hO:Oc occ O F w)(c:Ce)(hc:AZ c)(hk:rK M 700000):
  ah 173 #[s,eg c] w λe w'=>e=ug/\mW F w s o t (mZ O M c) occ w':=by
 apply FI.vc;have hc':=id hc;unfold AZ at hc';intro w0 e0;have x0:Ext w w0.drew:=(aT e0).tr (Ext.dr w0);have z0:w0.drew.heap.size=w.heap.size+1:=by show w0.heap.size=_;rw [e0];simp
 have h0:=h.ext x0;obtain ⟨g,sd,hr,hdr,-,hsdF,bu⟩:=h0.row;obtain ⟨Fw,hW,-,-⟩:=h0.world;refine ⟨_,(hr.at 1 rfl),(uo hW c hc.wide.ok (afa ab ab)).mono ?_⟩;rintro e w2 ⟨rfl,x2⟩;have z2:=x2.size;have AI:=x0.tr x2;have aw8:qC (fu c):=Fj hc.wide (by simp [sa]);refine ⟨_,rfl,x2.heap ab,Br.mk (λhb=> ?_) (λhb=> ?_)⟩
 ·have xd:=x2.tr (Ext.dr w2);have zd:=mN w2;have ahg:=hk.now;have wr:ak (M.now+1)=M.now+1:=wI;obtain ⟨g',m,qs,hq,uZ,⟨sd',hr'⟩,eQ,hresq⟩:=(h0.ext xd).queue;refine ⟨_,hr'.at 0 rfl,_,hr'.at 3 rfl,?_⟩;rw [wr];have hll:=hk.l;refine (Q.Oj hq uZ ab c (M.now+1)).mono ?_;rintro e w6 ⟨rfl,qs',hq',ht⟩;obtain ⟨F2,Uj,HD⟩:=hresq hq' (uZ.add c _) ht;have hsF:¬Q.jg g' m qs s:=hq.dR hr' aG aG;refine ⟨_,rfl,HD.mod.same _ ab (λhf=>by have:=h.lt hf;omega),po ((ht.mod.row hr' hsF).at 3 rfl),rfl,?_⟩;unfold mZ;rw [if_pos (by simpa using hb)];exact ⟨F2,Uj,(aO.aH (x0.tr xd)).trans HD⟩
 have aw9:¬E5 M.T.2 c=false:=by simpa using hb
 have qE:=hr.ext x2;refine ⟨_,(qE.at 1 rfl),(gw (hW.ext x2)).mono ?_⟩;rintro e w9 ⟨rfl,hw9⟩;subst hw9;refine ⟨_,rfl,rfl,(RH (h0.tl.ext x2) c hc.wide).mono ?_⟩;rintro e bc ⟨kh,rfl,ho,bA⟩;have z11:=bA.size;have jj:=ho.rd (show 0<4 by decide);have axa:=jj.n;have hLlen:=Oz (fx M.T.2) c;have hLw:∀x ∈ gF (fx M.T.2) c,eW x.1:=λx hx=>by
  rcases YS _ _ x hx with q|q
  ·rw [q];exact hc.wide
  ·exact age hc q
 have hU:mZ O M c=if zY O M c=true then da {M with lh:=M.lh++ [fu c]} (c,0) else (gF (fx M.T.2) c).foldl da M:=by unfold mZ;rw [if_neg aw9]
 have hH:zY O M c=(decide (fx M.T.2 c=3) &&(!(gF (fx M.T.2) c).isEmpty && O (fu c))):=rfl;generalize gF (fx M.T.2) c=L at*;rw [aN] at axa;refine ⟨kh,rfl,bA.heap ab,(jn c hc.wide bc).mono ?_⟩;rintro e bG ⟨rfl,cn⟩;have z13:=cn.size;refine ⟨_,_,_,_,_,_,_,_,_,_,_,_,_,_,_,_,_,_,rfl,cn.heap ab,by decide,_,_,_,RG c,λki e35 jN e36=> ?_⟩;have lJ:Ext bG jN:=(aT e35).ag e36 (aD _);have z36:=Db e35 e36;have xd:=Ext.dr jN;have zd:=mN jN;have aiU:=cn.tr (lJ.tr xd);have aqo:=AI.tr (bA.tr aiU);refine ep ((h.ext aqo).tl.at hc.wide.ok) ?_;rintro e iN ⟨rfl,gx⟩;have z37:=gx.size;have AJ:=aqo.tr gx;have QQ:=aiU.tr gx;refine ⟨_,rfl,gx.heap ab,gx.heap ab,(xl (fx M.T.2 c) iN).mono ?_⟩;rintro e kP ⟨rfl,alz⟩;subst alz;have axb:=qE.ext (bA.tr QQ);refine ⟨_,rfl,rfl,rfl,Br.mk (λhf=>Br.mk (λhp=> ?_) (λhp=> ?_)) (λhf=> ?_)⟩
 ·refine ⟨_,axb.at 4 rfl,ep ((hO.ext AJ).at aw8) ?_⟩;rintro e kO ⟨rfl,ow⟩;have z42:=ow.size;have QR:=AJ.tr ow;have hpn:(!L.isEmpty)=true:=by
   have:0<L.length:=by simp only [cX,gt_iff_lt] at hp;omega
   cases L with
   |nil=>simp at this
   |cons=>rfl
  have hf3:decide (fx M.T.2 c=3)=true:=by simpa using hf
  refine ⟨_,rfl,ow.heap ab,ow.heap ab,Br.mk (λhh=> ?_) (λhh=> ?_)⟩
  ·have hHt:zY O M c=true:=by rw [hH,hf3,hpn,hh];rfl
   intro kI e44;have lK:=aT e44;have z44:=eN e44;have rch:Row kI kO (mV (c,0)) kW:=Row.nw e44;have al3:=Ext.dr kI;have aEf:=mN kI;have aqp:=QR.tr (lK.tr al3);have az6:=x2.tr ((bA.tr QQ).tr (ow.tr (lK.tr al3)));obtain ⟨g2,sd2,aek,hdr44,hFs,hsdF2,hres44⟩:=(h.ext aqp).row;refine ⟨sd2,aek.at 5 rfl,λoM e46=> ?_⟩;subst e46;have tL:sd2.n=M.lh.length:=by have:=(hdr44.rd (show 0<3 by decide)).n;rwa [aN] at this
   have hkd:=hk.d;obtain ⟨DU,hres8⟩:=hdr44.iO (bytes:=24) (news:=dO (fu c)) (.cells #[.int .i64 (fu c).1,.int .i64 (fu c).2.1,.int .i64 (fu c).2.2] qD) (iI _) rfl (B0 _) ab ab;refine ⟨DU,λEJ gf axc=> ?_⟩;obtain ⟨f8,yM,hn8,x8,Hh,iQ⟩:=hres8 EJ gf axc;have xa:=Ext.al kI.drew (.cells #[.int .i64 (fu c).1,.int .i64 (fu c).2.1,.int .i64 (fu c).2.2] qD);have hsdlt:∀b,sd2.bj=some b->b<w.heap.size:=λb hb=>h.lt (hsdF2 b hb)
   have kp:∀j,w.heap.size<=j->j<kI.drew.heap.size->gf.heap[j]? =(kI.drew.alloc (.cells #[.int .i64 (fu c).1,.int .i64 (fu c).2.1,.int .i64 (fu c).2.2] qD)).heap[j]? :=λj h1 h2=>by rw [Hh j (λhb=>by have:=hsdlt j hb;omega) h2,xa.heap h2]
   have aEg:=h.lt hFs;have m48:Mod (λj=>sd2.bj=some j) kI.drew gf:=Mod.xg x8 Hh;have axf:¬sd2.bj=some s:=λe=>by obtain ⟨cs',hr'⟩:=bh hdr44 aG e;exact hr'.ne aek aG rfl
   have aiV:=m48.row aek axf;obtain ⟨p1,p2⟩:=aiV.jm (j:=5) (v:=.slice EJ.a EJ.n EJ.c) (by simp [smC]) rfl;have z48:=m48.size;have pb:∀j:Nat,s<j->bt (ae (some ⟨s,0,none⟩) 5)≠some j:=λj hj e=>by
    rw [de] at e;have:s=j:=by simpa [bt] using e
    omega
   refine ⟨kp _ ab ab,kp _ ab ab,kp _ ab ab,f8,⟨rfl,p1⟩,pb _ ab,pb _ ab,pb _ ab,pb _ ab,λmI e49=> ?_⟩;obtain ⟨q1,q2⟩:=p2 mI e49;have ho9:∀b,EJ.bj=some b->b≠s:=λb hb=>by obtain ⟨cs',hr'⟩:=bh yM aG hb;exact hr'.ne aiV aG
   have m49:Mod (λj=>j=s\/sd2.bj=some j) kI.drew mI:=(m48.mono λi _ hi=> .inr hi).trans (q2.mono λi _ hi=> .inl hi);obtain ⟨F3,hS3,hT3⟩:=hres44 (M':={M with lh:=M.lh++ [fu c]}) rfl rfl rfl rfl rfl m49 q1 (by rw [bX];exact q2.iC yM ho9) (λb hb=>by
    rcases iQ with e|e
    ·exact .inl (by rw [<-e];exact hb)
    ·rw [e] at hb;cases hb;exact .inr (oZ _))
   have z49:=q2.size;have axh:Row mI kI.drew.heap.size (dO (fu c)) qD:=q2.row (Row.same (Row.new kI.drew [_,_,_] qD) f8) ab;have Zg:¬F3 kI.drew.heap.size:=hS3.dR axh am5.1 aG aG aG aG aG (λg sd r1 hb=>by
    have e1:=(r1.at 5 rfl).symm.trans (q1.at 5 rfl);have e2:sd.a=EJ.a:=by injection e1 with e1;injection e1
    have e3:sd.bj=EJ.bj:=by unfold Sl.bj;rw [e2]
    rw [e3] at hb;rcases iQ with e|e
    ·have:=hsdlt _ (by rw [<-e];exact hb);omega
    ·rw [e] at hb;simp at hb)
   have hch49:Row mI kO (mV (c,0)) kW:=m49.row (rch.ext al3) (λq=>by
    rcases q with q|q
    ·omega
    ·have:=hsdlt _ q;omega)
   have hF3:∀i,F3 i->i<w.heap.size\/kI.heap.size<=i:=λi hi=>(hT3.sub i hi).imp (λq=>h.lt q) id
   refine ⟨λn x wr=>(x=0/\n=1/\wr=mI)\/(x=1/\n=0/\mW F3 mI s o t (da {M with lh:=M.lh++ [fu c]} (c,0)) occ wr),⟨1,rfl,rfl,rfl,rfl,.inl ⟨rfl,rfl,rfl⟩⟩,?_⟩;rintro n us x wr (⟨rfl,rfl,rfl⟩|⟨rfl,rfl,hS⟩)
   ·refine Br.mk (λ_=> ?_) (λq=>by simp at q);refine ⟨⟨rfl,by decide,by decide⟩,_,_,_,_,Lo.wv hch49,λnN e60 pG e61=> ?_⟩;have vU:Ext wr pG:=(aT e60).ag e61 (aD _);have z61:=Db e60 e61;refine (qk (hS3.ext vU) (c,0) hc.wide ⟨by have:=hk.l;simp only;omega,by have:=hk.c;simp only;omega,hk.now,by have:=hk.d;simp only [cS,List.length_singleton];omega⟩).mono ?_;rintro e jk ⟨rfl,F4,hS4,hT4⟩;have nf:∀i,(w.heap.size<=i/\i<kI.heap.size\/wr.heap.size<=i)->i<pG.heap.size->jk.heap[i]? =pG.heap[i]? :=λi h1 h2=>hT4.mod.same i h2 λhf=>by
     rcases h1 with ⟨h1,VA⟩|h1
     ·rcases hF3 i hf with q|q<;>omega
     ·have:=hS3.lt hf;omega
    refine ⟨rfl,nf _ (.inl ab) ab,nf _ (.inl ab) ab,nf _ (.inl ab) ab,hT4.mod.same _ ab Zg,nf _ (.inr ab) ab,0,by omega,rfl,rfl,rfl,rfl,.inr ⟨rfl,rfl,F4,hS4,(aO.aH vU).trans hT4⟩⟩
   ·refine Br.mk (λq=>by simp at q) (λ_=> ?_);rw [hU,if_pos hHt];exact ⟨rfl,mW.trans ((aO.aH aqp).trans hT3) hS⟩
  ·have hHf:¬zY O M c=true:=by rw [hH,hh,Bool.and_false,Bool.and_false];decide
   refine ⟨λn x wr=>∃(j:Nat)(F':Nat->Prop),x=j/\j+n=L.length/\SF F' wr s o t ((L.take j).foldl da M) occ/\aO F F' kO wr,⟨L.length,rfl,rfl,0,F,rfl,by omega,h.ext QR,aO.refl _ _⟩,?_⟩;rintro n us x wr ⟨j,F',rfl,hj,hS,hT⟩;have zr:=hT.mod.size;have hzw42:=(QR).size;have HJ:RdK wr kh 4 (L.map mV):=hT.mod.rdK aG (jj.ext (QQ.tr ow)) λ_ b hb hf=>by have:=(ho.own.lt hb).1;have:=h.lt hf;omega
   have nf:∀{w2:World} {F2:Nat->Prop} {w1:World},Ext wr w1->aO F' F2 w1 w2->∀i,(w.heap.size<=i/\i<kO.heap.size\/wr.heap.size<=i)->i<w1.heap.size->w2.heap[i]? =w1.heap[i]? :=λx1 t2 i h1 h2=>t2.mod.same i h2 λhf=>by
    rcases h1 with ⟨h1,VA⟩|h1
    ·rcases hT.sub i hf with q|q
     ·have:=h.lt q;omega
     ·omega
    ·have:=hS.lt hf;omega
   apply Br.mk<;>intro hb
   ·replace hb:=nG hb;obtain ⟨y,hy⟩:=bB (l:=L) (i:=j) ab;have hy':(L.map mV)[j]? =some (mV y):=by rw [aV,hy];rfl
    have wW:L.take (j+1)=L.take j++ [y]:=by rw [dP,hy];rfl
    have wk:=nY (j:=j);refine ⟨HJ.iz (i:=(j:Int)) aG ab hb,_,_,_,_,HJ.cg hy',λw86 e86 Ca e87=> ?_⟩;have ve:Ext wr Ca:=(aT e86).ag e87 (aD _);have z87:=Db e86 e87;refine (qk (hS.ext ve) y (hLw y (aU hy)) ((hk.fold (L.take j)).mono (by rw [dI];omega))).mono ?_;rintro e Mo ⟨rfl,F2,Uj,HD⟩;refine ⟨rfl,nf ve HD _ (.inl ab) ab,nf ve HD _ (.inl ab) ab,nf ve HD _ (.inr ab) ab,n-1,by omega,rfl,rfl,j+1,F2,wk,by omega,?_,(hT.trans (aO.aH ve)).trans HD⟩;rw [wW,pk];exact Uj
   ·replace hb:=nT hb;rw [fz ab] at hS;rw [hU,if_neg hHf];exact ⟨rfl,F',hS,(aO.aH QR).trans hT⟩
 ·have hHf:¬zY O M c=true:=by
   have:L=[]:=by
    have:¬0<L.length:=by simp only [fk,gt_iff_lt] at hp;omega
    exact EZ.1 ab
   rw [hH,this];simp
  refine ⟨λn x wr=>∃(j:Nat)(F':Nat->Prop),x=j/\j+n=L.length/\SF F' wr s o t ((L.take j).foldl da M) occ/\aO F F' kP wr,⟨L.length,rfl,rfl,0,F,rfl,by omega,h.ext AJ,aO.refl _ _⟩,?_⟩;rintro n us x wr ⟨j,F',rfl,hj,hS,hT⟩;have zr:=hT.mod.size;have hzw39:=(AJ).size;have HJ:RdK wr kh 4 (L.map mV):=hT.mod.rdK aG (jj.ext QQ) λ_ b hb hf=>by have:=(ho.own.lt hb).1;have:=h.lt hf;omega
  have nf:∀{w2:World} {F2:Nat->Prop} {w1:World},Ext wr w1->aO F' F2 w1 w2->∀i,(w.heap.size<=i/\i<kP.heap.size\/wr.heap.size<=i)->i<w1.heap.size->w2.heap[i]? =w1.heap[i]? :=λx1 t2 i h1 h2=>t2.mod.same i h2 λhf=>by
   rcases h1 with ⟨h1,VA⟩|h1
   ·rcases hT.sub i hf with q|q
    ·have:=h.lt q;omega
    ·omega
   ·have:=hS.lt hf;omega
  apply Br.mk<;>intro hb
  ·replace hb:=nG hb;obtain ⟨y,hy⟩:=bB (l:=L) (i:=j) ab;have hy':(L.map mV)[j]? =some (mV y):=by rw [aV,hy];rfl
   have wW:L.take (j+1)=L.take j++ [y]:=by rw [dP,hy];rfl
   have wk:=nY (j:=j);refine ⟨HJ.iz (i:=(j:Int)) aG ab hb,_,_,_,_,HJ.cg hy',λw86 e86 Ca e87=> ?_⟩;have ve:Ext wr Ca:=(aT e86).ag e87 (aD _);have z87:=Db e86 e87;refine (qk (hS.ext ve) y (hLw y (aU hy)) ((hk.fold (L.take j)).mono (by rw [dI];omega))).mono ?_;rintro e Mo ⟨rfl,F2,Uj,HD⟩;refine ⟨rfl,nf ve HD _ (.inl ab) ab,nf ve HD _ (.inl ab) ab,nf ve HD _ (.inr ab) ab,n-1,by omega,rfl,rfl,j+1,F2,wk,by omega,?_,(hT.trans (aO.aH ve)).trans HD⟩;rw [wW,pk];exact Uj
  ·replace hb:=nT hb;rw [fz ab] at hS;rw [hU,if_neg hHf];exact ⟨rfl,F',hS,(aO.aH AJ).trans hT⟩
 ·have hHf:¬zY O M c=true:=by
   have:¬fx M.T.2 c=3:=by simpa using hf
   rw [hH,decide_eq_false this];simp
  refine ⟨λn x wr=>∃(j:Nat)(F':Nat->Prop),x=j/\j+n=L.length/\SF F' wr s o t ((L.take j).foldl da M) occ/\aO F F' kP wr,⟨L.length,rfl,rfl,0,F,rfl,by omega,h.ext AJ,aO.refl _ _⟩,?_⟩;rintro n us x wr ⟨j,F',rfl,hj,hS,hT⟩;have zr:=hT.mod.size;have hzw39:=(AJ).size;have HJ:RdK wr kh 4 (L.map mV):=hT.mod.rdK aG (jj.ext QQ) λ_ b hb hf=>by have:=(ho.own.lt hb).1;have:=h.lt hf;omega
  have nf:∀{w2:World} {F2:Nat->Prop} {w1:World},Ext wr w1->aO F' F2 w1 w2->∀i,(w.heap.size<=i/\i<kP.heap.size\/wr.heap.size<=i)->i<w1.heap.size->w2.heap[i]? =w1.heap[i]? :=λx1 t2 i h1 h2=>t2.mod.same i h2 λhf=>by
   rcases h1 with ⟨h1,VA⟩|h1
   ·rcases hT.sub i hf with q|q
    ·have:=h.lt q;omega
    ·omega
   ·have:=hS.lt hf;omega
  apply Br.mk<;>intro hb
  ·replace hb:=nG hb;obtain ⟨y,hy⟩:=bB (l:=L) (i:=j) ab;have hy':(L.map mV)[j]? =some (mV y):=by rw [aV,hy];rfl
   have wW:L.take (j+1)=L.take j++ [y]:=by rw [dP,hy];rfl
   have wk:=nY (j:=j);refine ⟨HJ.iz (i:=(j:Int)) aG ab hb,_,_,_,_,HJ.cg hy',λw86 e86 Ca e87=> ?_⟩;have ve:Ext wr Ca:=(aT e86).ag e87 (aD _);have z87:=Db e86 e87;refine (qk (hS.ext ve) y (hLw y (aU hy)) ((hk.fold (L.take j)).mono (by rw [dI];omega))).mono ?_;rintro e Mo ⟨rfl,F2,Uj,HD⟩;refine ⟨rfl,nf ve HD _ (.inl ab) ab,nf ve HD _ (.inl ab) ab,nf ve HD _ (.inr ab) ab,n-1,by omega,rfl,rfl,j+1,F2,wk,by omega,?_,(hT.trans (aO.aH ve)).trans HD⟩;rw [wW,pk];exact Uj
  ·replace hb:=nT hb;rw [fz ab] at hS;rw [hU,if_neg hHf];exact ⟨rfl,F',hS,(aO.aH AJ).trans hT⟩
end
section
variable {F F':Nat->Prop} {w w':World} {s o t:Nat} {M M':Sm} {occ:Value} {O:Ce->Bool}
def IP(l:List Ce):Prop:=∀y ∈ l,AZ y
def rK.upd{n:Nat}(h:rK M n)(O:Ce->Bool)(c:Ce):rK (mZ O M c) (n+40):=by
 have h1:=h.l;have h2:=JB M.q c (M.now+1);unfold mZ;split
 ·exact ⟨by simp only;omega,by have:=h.c;simp only;omega,h.now,by have:=h.d;simp only;omega⟩
 ·split
  ·have:rK {M with lh:=M.lh++ [fu c]} (n+1):=⟨by simp only;omega,by have:=h.c;simp only;omega,h.now,by have:=h.d;simp only [cS,List.length_singleton];omega⟩;exact (this.change _).mono ab
  ·have:=Oz (fx M.T.2) c;exact (h.fold _).mono ab
def rK.Xc{n:Nat}(O:Ce->Bool):∀{M:Sm} (l:List Ce),rK M n->rK (l.foldl (mZ O) M) (n+40*l.length)
 |M,[],h=>h
 |M,x::l,h=>(rK.Xc O l (h.upd O x)).mono (by simp only [c8];omega)
def UW{q:QS}{now b:Int}(hb:1<=b/\b<=64):(Ll q now b).2.length<=64:=by unfold Ll iG;rw [aN,dI];omega
def Ju(h:SF F w s o t M occ)(hO:Oc occ O F w)(hd:IP (rL M))(hk:rK M 600000)(hb:1<=M.dp/\M.dp<=64):
  ah 119 #[s] w λe w'=>e=Value.int .i64 (rL M).length/\mW F w s o t (FZ O M) occ w':=by
 obtain ⟨g,sd,hr,ho,-,-,bu⟩:=h.row;apply KZ.vc;have ahg:=hk.now;have wr:ak (M.now+1)=M.now+1:=wI;have en:(if 1099511627776<M.now+1 then 1099511627776 else M.now+1)=su M:=by unfold su;split<;>omega
 obtain ⟨p1,p2⟩:=hr.jm (j:=3) (v:=.int .i64 (su M)) (by simp [smC]) rfl;refine ⟨M.now,hr.at 3 rfl,⟨rfl,p1⟩,λw1 e1=> ?_⟩;rw [wr,en] at e1;obtain ⟨q1,q2⟩:=p2 w1 e1;have hso:∀b,sd.bj=some b->b≠s:=λb hb=>by obtain ⟨cs',hr'⟩:=bh ho aG hb;exact hr'.ne hr aG
 obtain ⟨F1,h1,t1⟩:=bu (M':={M with now:=su M}) (occ':=occ) (sd':=sd) rfl rfl rfl rfl rfl (q2.mono λi _ hi=> .inl hi) q1 (q2.iC ho hso) (λb hb=> .inl hb);have xd:=Ext.dr w1;have t1d:=t1.trans (aO.aH xd);obtain ⟨g',m,qs,hq,uZ,⟨sd',hr'⟩,eQ,hresq⟩:=(h1.ext xd).queue;refine ⟨_,hr'.at 0 rfl,_,hr'.at 3 rfl,_,hr'.at 2 rfl,(Q.abC hq uZ (su M) M.dp).mono ?_⟩;rintro e w5 ⟨s6,rfl,qs',vb,hq',ht⟩;obtain ⟨F5,h5,t5⟩:=hresq hq' (uZ.due _ _) ht;have h5:SF F5 w5 s o t (xO M) occ:=h5;have T5:=t1d.trans t5;have hO5:=hO.uK T5;have jj:=vb.rd (show 0<3 by decide);have Uk:(rL M).length<=64:=UW hb;have jj:RdK w5 s6 3 ((rL M).map dO):=jj;have vb:aF w1.drew.heap.size qD 3 w5 s6 ((rL M).map dO):=vb;have hk5:rK (xO M) 600000:=⟨hk.l,hk.c,by show 0<=su M/\su M<=_;unfold su;omega,hk.d⟩;obtain ⟨g1,sd1,r1,-,-,f1,-⟩:=(h1.ext xd).row;have hsq:¬Q.jg g' m qs s:=hq.dR hr' aG aG;have r5:=ht.mod.row r1 hsq;have hsF:∀b,s6.bj=some b->¬F5 b:=λb hb=>by
  obtain ⟨cs6,hr6⟩:=bh vb aG hb;refine h5.dR hr6 am5.1 aG aG aG aG aG (λg sd r2 j8=> ?_);have e1:=(r2.at 5 rfl).symm.trans (r5.at 5 rfl);have e2:sd.a=sd1.a:=by injection e1 with e1;injection e1
  have e3:sd.bj=sd1.bj:=by unfold Sl.bj;rw [e2]
  have q1:=h1.lt (f1 b (by rw [<-e3];exact j8));have q2:=(vb.own.lt hb).1;have q3:=mN w1;omega
 unfold FZ;generalize rL M=L at*;generalize xO M=M0 at*;have hn6:=jj.n;rw [aN] at hn6;refine ⟨s6,rfl,λn x wr=>∃(j:Nat)(F':Nat->Prop),x=j/\j+n=L.length/\SF F' wr s o t ((L.take j).foldl (mZ O) M0) occ/\aO F5 F' w5 wr,⟨L.length,0,F5,rfl,by omega,h5,aO.refl _ _⟩,?_⟩;rintro n us x TR ⟨j,F',rfl,hj,hS,hT⟩;have zr:=hT.mod.size;have HJ:RdK TR s6 3 (L.map dO):=hT.mod.rdK aG jj λ_ b hb hf=>hsF b hb hf
 apply Br.mk<;>intro hb
 ·replace hb:=nG hb;obtain ⟨y,hy⟩:=bB (l:=L) (i:=j) ab;have hy':(L.map dO)[j]? =some (dO y):=by rw [aV,hy];rfl
  have wW:L.take (j+1)=L.take j++ [y]:=by rw [dP,hy];rfl
  have wk:=nY (j:=j);have hsm:=hd y (aU hy);refine ⟨HJ.iz (i:=(j:Int)) aG ab hb,_,_,_,HJ.cg hy',λcP HM cJ yr=> ?_⟩;have cZ:Ext TR cJ:=(aT HM).ag yr (aD _);have z17:=Db HM yr;refine (O0 (hS.ext cZ) ((hO5.uK hT).ext cZ) y hsm ((hk5.Xc O (L.take j)).mono (by rw [dI];omega))).mono ?_;rintro e du ⟨rfl,F2,Uj,HD⟩;refine ⟨rfl,HD.mod.same _ ab (λhf=>by have:=hS.lt hf;omega),n-1,by omega,j+1,F2,wk,by omega,?_,(hT.trans (aO.aH cZ)).trans HD⟩;rw [wW,pk];exact Uj
 ·replace hb:=nT hb;rw [fz ab] at hS;exact ⟨by rw [hn6],F',hS,T5.trans hT⟩
end
variable {R:Ending->World->Prop} {w:World} {a0 a1 a2 a3 a4 a5 a6 a7 a8 a9 aw ao au aP aQ aR bM bH bI DV aq ar aA bz bR bQ fe fg eM DW bE bO bC yu yw vV vW yx yy yz DX DY DZ D3 D4 D5 D6 D7 D8 D9:Int}
def vO.vc{a0:Addr}(h:
 Aw w #[aq,ar,aA] 28 λw0=>
 Aw w0 #[aa,aa,aa,aa,aa,aa,aa,aa,false] 70 λw1=>
 Sw w1 w0 #[aq,ar,aA,aa,aa,aa,a2,a3,false] λw2=>
 ah 43 #[.slice (aJ (ae (some a0) 1) (0) (16) 1) (16-0) (16-0),.pointer none] w2 (Ri λx4 w3=>K2 w w0 w2 w3 (
 ah 44 #[.agg #[aq,ar,aA,aa,aa,aa,a2,a3,false]] w3 (Rb λb6 w5=>K2 w w0 w3 w5 (
 Br (!b6)
 (R (Value.tuple #[(-1:Int),(1:Int)]) w5)
 (Br (x4<0)
 (R (Value.tuple #[(-1:Int),(8:Int)]) w5)
 (ah 45 #[a0,.agg #[aq,ar,aA,aa,aa,aa,a2,a3,false]] w5 (Rb λb8 w7=>K2 w w0 w5 w7 (
 Br (!b8)
 (R (Value.tuple #[(-1:Int),(11:Int)]) w7)
 (ah 47 #[a0] w7.drew (Rv λv10 w9=>K2 w w0 w7.drew w9 (
 af w9 (aB w0) 0 [aq,ar,aA,aa,aa,aa,a2,a3,false]/\ah 48 #[.agg #[aq,ar,aA,aa,aa,aa,a2,a3,false]] w9 (wE λbS cn bW cD cp cZ bc=>K2 w w0 w9 bc (
 ah 46 #[v10,.agg #[bS,cn,bW,cD,cp,cZ]] bc (Rb λb19 du=>K2 w w0 bc du (
 Br b19
 (R (Value.tuple #[(-1:Int),(12:Int)]) du)
 (ah 47 #[a0] du.drew (Rv λv21 ef=>K2 w w0 du.drew ef (
 af ef (aB w0) 0 [aq,ar,aA,aa,aa,aa,a2,a3,false]/\ah 48 #[.agg #[aq,ar,aA,aa,aa,aa,a2,a3,false]] ef (wE λdA eG dT fE fD ik ey=>K2 w w0 ef ey (
 ah 49 #[v21,.agg #[dA,eG,dT,fE,fD,ik]] ey (Rb λZj dX=>K2 w w0 ey dX (
 Sw dX w0 #[aq,ar,aA,aa,aa,aa,a2,a3,Zj] λgA=>
 Aw gA.drew #[aq,ar,aA,aa,aa,aa,a2,a3,Zj,aa,aa,false] 111 λlA=>
 (0:Int)<=x4/\x4<((16:Nat):Int)/\(true=true/\Wr lA (ae (ae (some a0) 1) ((x4:Int).toNat*1)) 1)/\bt (ae (ae (some a0) 1) ((x4:Int).toNat*1))≠some w.heap.size/\bt (ae (ae (some a0) 1) ((x4:Int).toNat*1))≠some w0.heap.size/\bt (ae (ae (some a0) 1) ((x4:Int).toNat*1))≠some gA.drew.heap.size/\(∀eP,eP=aK lA (ae (ae (some a0) 1) ((x4:Int).toNat*1)) [.pointer (aB gA.drew.heap.size)]->
 R (Value.tuple #[x4,aa]) eP)))))))))))))))))))))))):ah 11 #[a0,.agg #[aq,ar,aA],a2,a3] w R:=
 cq bU Tryz.func11 h
def xY.vc{a0:Addr}(h:
 ∃(p0 p1 p2 p3 p4 p5 p6 p7 p8 p9 Kn ZC pI QK p14 Uh:Option Addr),af w (ae (some a0) 1) 0 [.pointer p0,p1,p2,p3,p4,p5,p6,p7,p8,p9,Kn,ZC,pI,QK,p14,Uh]/\
 ∃I16:Nat->Int->Sl->World->Prop,
 (∃II,I16 II (0) ⟨none,0,0⟩ w)/\
 ∀(II:Nat)(auC:Nat->Value)(cr:Int)(vH:Sl)(eU:World),I16 II cr vH eU->
 Br (cr<16)
 (((0:Int)<=cr/\cr<((16:Nat):Int))/\∃(VG:Option Addr),([.pointer p0,p1,p2,p3,p4,p5,p6,p7,p8,p9,Kn,ZC,pI,QK,p14,Uh]:LV)[(cr:Int).toNat*1]? =some (.pointer VG)/\
 Br (!(VG).isNone)
 (Aw eU #[cr] 3 λgC=>
 ba 8 1 gC vH 1 [cr]/\∀(s25:Sl)(fb:World),aX 3 1 gC vH 1 [cr] s25 fb->Kp eU gC fb/\
 ∃QL,QL<II/\I16 QL ((ak (cr+1))) s25 fb)
 (∃QL,QL<II/\I16 QL ((ak (cr+1))) vH eU))
 (R vH eU)):ah 12 #[a0] w R:=
 cq ⟨[(3,⟨[(10,.int .i64),(3,.slice)],[],[]⟩)],[],[]⟩ Tryz.func12 h
def xX.vc{a0:Addr}(h:
 ah 50 #[a0,a1] w (λe w0=>∃(p1:Option Addr),e=p1/\
 Br (p1).isNone
 (R (6:Int) w0)
 ((0:Int)<=a1/\a1<((16:Nat):Int)/\(true=true/\Wr w0 (ae (ae (some a0) 1) ((a1:Int).toNat*1)) 1)/\(∀w2,w2=aK w0 (ae (ae (some a0) 1) ((a1:Int).toNat*1)) [.pointer none]->
 R (0:Int) w2)))):ah 13 #[a0,a1] w R:=
 cq bU Tryz.func13 h
def SW.vc(h:
 Aw w #[aw,ao,au,aP] 94 λw0=>
 ah 39 #[aw,ao,au] w0.drew (λe w1=>∃(p2:Option Addr),e=p2/\Kp w w0.drew w1/\
 af w1 (dU w 3) 0 [aP]/\ah 40 #[p2,aP] w1 (λe w3=>∃(p4:Option Addr),e=p4/\Kp w w1 w3/\
 Aw w3 #[p4,.pointer none,.pointer none,.pointer none,.pointer none,.pointer none,.pointer none,.pointer none,.pointer none,.pointer none,.pointer none,.pointer none,.pointer none,.pointer none,.pointer none,.pointer none,.pointer none] 56 λw5=>
 R (Value.pointer (aB w3)) w5))):ah 38 #[.agg #[aw,ao,au,aP]] w R:=
 cq bU Tryz.func38 h
def zH.vc{a0:Addr}(h:
 ∃(p0:Option Addr),ld w (ae (some a0) 0)=some (.pointer p0)/\
 R p0 w):ah 41 #[a0] w R:=
 cq bU Tryz.func41 h
def zU.vc{a0:Sl}(h:
 ∃I0:Nat->Int->World->Prop,
 (∃n1,I0 n1 (0) w)/\
 ∀(n1:Nat)(wg:Nat->Value)(x3:Int)(w4:World),I0 n1 x3 w4->
 Br (decide (x3<((a0.n:Nat):Int)))
 (ez a0.a x3 a0.n/\∃(p6:Option Addr),ld w4 (ae a0.a ((x3:Int).toNat*1))=some (.pointer p6)/\
 aS (amJ none p6) (Br (amK none p6)
 (R x3 w4)
 (∃n5,n5<n1/\I0 n5 ((ak (x3+1))) w4)))
 (R (Value.int .i64 (-1)) w4)):ah 43 #[a0,.pointer (none:Option Addr)] w R:=
 cq ⟨[(2,⟨[(8,.int .i64)],[],[]⟩)],[],[]⟩ Tryz.func43 h
def aa4.vc{bI:Bool}(h:
 Aw w #[aw,ao,au,aP,aQ,aR,bM,bH,bI] 70 λw0=>
 Br (bM>=2)
 (Br (bM<=131072)
 (Br (bH>=1)
 (Br (bH<=262144)
 (ah 99 #[.agg #[aw,ao,au],(70368744177664:Int)] w0 (Rb λb2 w1=>Kp w w0 w1/\
 Br b2
 (ah 99 #[.agg #[aP,aQ,aR],(262144:Int)] w1 (Rb λb4 w3=>Kp w w1 w3/\
 R b4 w3))
 (R false w1)))
 (R false w0))
 (R false w0))
 (R false w0))
 (R false w0)):ah 44 #[.agg #[aw,ao,au,aP,aQ,aR,bM,bH,bI]] w R:=
 cq bU Tryz.func44 h
def vL.vc{a0:Addr}{eM:Bool}(h:
 Aw w #[aq,ar,aA,bz,bR,bQ,fe,fg,eM] 70 λw0=>
 ∃(p1:Option Addr),ld w0.drew (ae (some a0) 0)=some (.pointer p1)/\
 ah 18 #[p1] w0.drew (λe w2=>∃(p3:Option Addr),e=p3/\Kp w w0.drew w2/\
 af w2 w 0 [aq,ar,aA]/\ah 101 #[.agg #[aq,ar,aA]] w2 (jo λx5 x6 x7 w4=>Kp w w2 w4/\
 ah 100 #[p3,.agg #[x5,x6,x7]] w4 (Rb λb9 w8=>Kp w w4 w8/\
 R b9 w8)))):ah 45 #[a0,.agg #[aq,ar,aA,bz,bR,bQ,fe,fg,eM]] w R:=
 cq bU Tryz.func45 h
def H3.vc{a0:Value}(h:
 Aw w #[aq,ar,aA,bz,bR,bQ] 107 λw0=>
 ah 102 #[a0,.agg #[aq,ar,aA,bz,bR,bQ],.func (.func 103) #[] #[]] w0 (Rb λb2 w1=>Kp w w0 w1/\
 R b2 w1)):ah 46 #[a0,.agg #[aq,ar,aA,bz,bR,bQ]] w R:=
 cq bU Tryz.func46 h
def xI.vc{a0:Addr}(h:
 ∃(p0:Option Addr),ld w (ae (some a0) 0)=some (.pointer p0)/\
 ah 18 #[p0] w (λe w1=>∃(p2:Option Addr),e=p2/\
 ah 27 #[p2] w1 (λe w3=>∃(v4:Value),e=v4/\
 R v4 w3))):ah 47 #[a0] w R:=
 cq bU Tryz.func47 h
def H0.vc{bI:Bool}(h:
 Aw w #[aw,ao,au,aP,aQ,aR,bM,bH,bI] 70 λw0=>
 Aw w0 #[aa,aa,aa,aa,aa,aa] 107 λw1=>
 ah 104 #[.agg #[aw,ao,au],bM,bH] w1 (wE λx3 x4 x5 x6 x7 x8 w2=>K2 w w0 w1 w2 (
 Sw w2 w0 #[x3,x4,x5,x6,x7,x8] λw9=>
 R (Value.agg #[x3,x4,x5,x6,x7,x8]) w9))):ah 48 #[.agg #[aw,ao,au,aP,aQ,aR,bM,bH,bI]] w R:=
 cq bU Tryz.func48 h
def K1.vc{a0:Value}(h:
 Aw w #[aq,ar,aA,bz,bR,bQ] 107 λw0=>
 ah 105 #[.agg #[aq,ar,aA,bz,bR,bQ]] w0 (wE λx2 x3 x4 x5 x6 x7 w1=>Kp w w0 w1/\
 ah 46 #[a0,.agg #[x2,x3,x4,x5,x6,x7]] w1 (Rb λb9 w8=>Kp w w1 w8/\
 R b9 w8))):ah 49 #[a0,.agg #[aq,ar,aA,bz,bR,bQ]] w R:=
 cq bU Tryz.func49 h
def BR.vc{a0:Addr}(h:
 Br (a1<0)
 (R (Value.pointer none) w)
 (Br (a1>=16)
 (R (Value.pointer none) w)
 ((0:Int)<=a1/\a1<((16:Nat):Int)/\∃(p0:Option Addr),ld w (ae (ae (some a0) 1) ((a1:Int).toNat*1))=some (.pointer p0)/\
 R p0 w))):ah 50 #[a0,a1] w R:=
 cq bU Tryz.func50 h
def N0.vc(h:
 Aw w #[aw,ao,au] 28 λw0=>
 Br (decide (((if au<(if ao<aw then ao else aw) then au else (if ao<aw then ao else aw)):Int)>=(ak (0-a1))))
 (R (Value.bool (decide (((if au>(if ao>aw then ao else aw) then au else (if ao>aw then ao else aw)):Int)<=a1))) w0)
 (R false w0)):ah 99 #[.agg #[aw,ao,au],a1] w R:=
 cq bU Tryz.func99 h
def afn.vc(h:
 Aw w #[aw,ao,au] 28 λw0=>
 Aw w0 #[aa,aa,aa] 41 λw1=>
 ah 152 #[aw] w1.drew (Ri λx3 w2=>K2 w w0 w1.drew w2 (
 af w2 (dU w 2) 0 [au]/\af w2 (dU w 1) 0 [ao]/\ah 152 #[ao] w2 (Ri λx5 w4=>K2 w w0 w2 w4 (
 af w4 (dU w 2) 0 [au]/\ah 152 #[au] w4 (Ri λx7 w6=>K2 w w0 w4 w6 (
 Sw w6 w0 #[x3,x5,x7] λw8=>
 R (Value.agg #[x3,x5,x7]) w8))))))):ah 101 #[.agg #[aw,ao,au]] w R:=
 cq bU Tryz.func101 h
def WD.vc{a0:Value}{a2:Value}(h:
 Aw w #[aq,ar,aA,bz,bR,bQ] 107 λw0=>
 ah 153 #[a0,.agg #[aq,ar,aA,bz,bR,bQ],a2] w0 (λe w1=>∃(x2 x3 x4:Int)(b5:Bool),e=Value.tuple #[.agg #[x2,x3,x4],b5]/\Kp w w0 w1/\
 Aw w1 #[aa,aa,aa] 41 λw6=>
 Sw w6 w1 #[x2,x3,x4] λw7=>
 R b5 w7)):ah 102 #[a0,.agg #[aq,ar,aA,bz,bR,bQ],a2] w R:=
 cq bU Tryz.func102 h
def Wn.vc(h:
 Aw w #[aw,ao,au] 28 λw0=>
 Aw w0 #[aa,aa,aa,aa,aa,aa] 107 λw1=>
 Aw w1 #[aa,aa,aa] 28 λw2=>
 Sw w2 w1 #[(ak (Int.tdiv (if 0>a1 then 0 else a1) 2)),aa,(ak (Int.tdiv (if 0>a1 then 0 else a1) 2))] λw3=>
 (ah 154 #[.agg #[aw,ao,au],.agg #[(ak (Int.tdiv (if 0>a1 then 0 else a1) 2)),aa,(ak (Int.tdiv (if 0>a1 then 0 else a1) 2))]] w3.drew (jo λx5 x6 x7 w4=>K3 w w0 w1 w3.drew w4 (
 af w4 w 0 [aw,ao,au]/\ah 145 #[.agg #[aw,ao,au],.agg #[(ak (Int.tdiv (if 0>a1 then 0 else a1) 2)),.int .i64 (if 0>a2 then 0 else a2),(ak (Int.tdiv (if 0>a1 then 0 else a1) 2))]] w4 (jo λx9 bk bA w8=>K3 w w0 w1 w4 w8 (
 Sw w8 w0 #[x5,x6,x7,x9,bk,bA] λcU=>
 R (Value.agg #[x5,x6,x7,x9,bk,bA]) cU)))))/\(ah 154 #[.agg #[aw,ao,au],.agg #[(ak (Int.tdiv (if 0>a1 then 0 else a1) 2)),aa,(ak (Int.tdiv (if 0>a1 then 0 else a1) 2))]] w3.drew (jo λbW cD cp bG=>K3 w w0 w1 w3.drew bG (
 af bG w 0 [aw,ao,au]/\ah 145 #[.agg #[aw,ao,au],.agg #[(ak (Int.tdiv (if 0>a1 then 0 else a1) 2)),.int .i64 (if 0>a2 then 0 else a2),(ak (Int.tdiv (if 0>a1 then 0 else a1) 2))]] bG (jo λcA cr cW cJ=>K3 w w0 w1 bG cJ (
 Sw cJ w0 #[bW,cD,cp,cA,cr,cW] λeU=>
 R (Value.agg #[bW,cD,cp,cA,cr,cW]) eU)))))):ah 104 #[.agg #[aw,ao,au],a1,a2] w R:=
 cq bU Tryz.func104 h
def M8.vc(h:
 Aw w #[aw,ao,au,aP,aQ,aR] 107 λw0=>
 Aw w0 #[aa,aa,aa,aa,aa,aa] 107 λw1=>
 ah 156 #[ao,(1:Int)] w1.drew (Ri λx3 w2=>K2 w w0 w1.drew w2 (
 af w2 (dU w 3) 0 [aP,aQ,aR]/\af w2 w 0 [aw,ao,au]/\ah 155 #[.agg #[aw,ao,au],(1:Int),x3] w2 (jo λx5 x6 x7 w4=>K2 w w0 w2 w4 (
 af w4 (dU w 3) 0 [aP,aQ,aR]/\ah 155 #[.agg #[aP,aQ,aR],(1:Int),ao] w4 (jo λx9 bk bA w8=>K2 w w0 w4 w8 (
 Sw w8 w0 #[x5,x6,x7,x9,bk,bA] λcU=>
 R (Value.agg #[x5,x6,x7,x9,bk,bA]) cU))))))):ah 105 #[.agg #[aw,ao,au,aP,aQ,aR]] w R:=
 cq bU Tryz.func105 h
def agf.vc(h:
 Aw w #[aw,ao,au] 28 λw0=>
 Aw w0 #[aq,ar,aA] 28 λw1=>
 Aw w1 #[aa,aa,aa] 28 λw2=>
 ah 203 #[.agg #[aw,ao,au],.func (.func 204) #[] #[.pointer (aB w0)]] w2 (jo λx4 x5 x6 w3=>K2 w w1 w2 w3 (
 Sw w3 w1 #[x4,x5,x6] λw7=>
 R (Value.agg #[x4,x5,x6]) w7))):ah 145 #[.agg #[aw,ao,au],.agg #[aq,ar,aA]] w R:=
 cq bU Tryz.func145 h
def PR.vc(h:
 ah 214 #[a0] w (λe w0=>∃(x1:Int),e=x1/\
 R (Value.int .i64 ((x1:Int).fdiv (2 ^(min (16:Int).toNat 64)))) w0)):ah 152 #[a0] w R:=
 cq bU Tryz.func152 h
def R6.vc{a0:Value}{a2:Value}(h:
 aS (kU a0) (
 Aw w #[a0] 65 λw0=>
 Aw w0 #[aq,ar,aA,bz,bR,bQ] 107 λw1=>
 aS (kU a2) (
 Aw w1 #[a2] 180 λw2=>
 Aw w2 #[aa,aa,aa] 41 λw3=>
 Aw w3 #[false] 4 λw4=>
 ah 215 #[.agg #[aq,ar,aA,bz,bR,bQ]] w4 (Rv λv6 w5=>K5 w w0 w1 w2 w3 w4 w5 (
 ∃(xs7:List (LV))(Rd8 F9:Nat->Prop)(Eg:Nat->(Nat->Prop)->Int->Int->Int->Bool->World->Prop)(X11:Option Nat->(Nat->Prop)->Int->Int->Int->Bool->World->Prop),
 (∀x ∈ xs7,∃(bS cn bW:Int),x=[.agg #[.int .i64 bS,.int .i64 cn,.int .i64 bW]])/\
 (∀(n15:Nat)(F16:Nat->Prop)(cZ cA cr:Int)(b20:Bool)(eU ey:World),Eg n15 F16 cZ cA cr b20 eU->Below w5 eU ey->(∀i,F16 i->ey.heap[i]? =eU.heap[i]?)->Eg n15 F16 cZ cA cr b20 ey)/\
 (∀(n23:Option Nat)(F24:Nat->Prop)(dT fE fD:Int)(Q4:Bool)(dX fw:World),X11 n23 F24 dT fE fD Q4 dX->Below w5 dX fw->(∀i,F24 i->fw.heap[i]? =dX.heap[i]?)->X11 n23 F24 dT fE fD Q4 fw)/\
 (∀(VC:Nat)(F32:Nat->Prop)(eF im jT:Int)(b36:Bool)(iN:World),Eg VC F32 eF im jT b36 iN->∀i,F32 i->i<iN.heap.size/\i≠w5.heap.size/\i≠w5.heap.size+1)/\
 (∀(n38:Option Nat)(F39:Nat->Prop)(lu kJ ow:Int)(Qn:Bool)(kI:World),X11 n38 F39 lu kJ ow Qn kI->∀i,F39 i->i<kI.heap.size/\i≠w5.heap.size/\i≠w5.heap.size+1)/\
 (∀i,Rd8 i->i<w5.heap.size/\¬F9 i/\i≠w.heap.size/\i≠w0.heap.size/\i≠w1.heap.size/\i≠w2.heap.size/\i≠w3.heap.size/\True)/\
 (∀yP:World,M1 w5 w5 yP->Iter Tryz.prog (v6) yP Rd8 xs7/\aL [a0]/\aL [aq,ar,aA,bz,bR,bQ]/\aL [a2]/\Eg 0 F9 (0) (0) (0) false yP)/\
 (∀(n46:Nat)(F47:Nat->Prop)(aEB:Nat->Value)(HN vh nE:Int)(b52:Bool)(iT qx mz:Int)(qy:World),xs7[n46]? =some [.agg #[.int .i64 iT,.int .i64 qx,.int .i64 mz]]->Eg n46 F47 HN vh nE b52 qy->
 Aw qy #[aa,aa,aa] 41 λCj=>
 Sw Cj qy #[iT,qx,mz] λyO=>
 Below qy qy yO/\∀nQ:World,Rec (w5.heap.size+1) yO nQ->Eg n46 F47 HN vh nE b52 nQ->
 cL Tryz.prog a0 [.agg #[iT,qx,mz]] nQ.drew (Ri λvU nN=>K6 w w0 w1 w2 w3 qy nQ.drew nN (
 af nN (aB w1) 0 [a2]/\cL Tryz.prog a2 [vU] nN (Rb λb63 jk=>K6 w w0 w1 w2 w3 qy nN jk (
 Br b63
 (Sw jk w2 #[iT,qx,mz] λtX=>
 Sw tX w3 #[true] λIx=>
 true=true/\∃F66:Nat->Prop,(aL [a0]/\aL [aq,ar,aA,bz,bR,bQ]/\aL [a2]/\X11 none F66 iT qx mz true Ix)/\Step (λi=>(F47 i\/i ∈([w.heap.size,w0.heap.size,w1.heap.size,w2.heap.size,w3.heap.size]:List Nat))\/qy.heap.size<=i) (λi=>F66 i\/i ∈([w.heap.size,w0.heap.size,w1.heap.size,w2.heap.size,w3.heap.size]:List Nat)) nQ Ix)
 (∃F67:Nat->Prop,(aL [a0]/\aL [aq,ar,aA,bz,bR,bQ]/\aL [a2]/\Eg (n46+1) F67 HN vh nE b52 jk)/\Step (λi=>(F47 i\/i ∈([w.heap.size,w0.heap.size,w1.heap.size,w2.heap.size,w3.heap.size]:List Nat))\/qy.heap.size<=i) (λi=>F67 i\/i ∈([w.heap.size,w0.heap.size,w1.heap.size,w2.heap.size,w3.heap.size]:List Nat)) nQ jk))))))/\
 (∀(F68:Nat->Prop)(aED:Nat->Value)(pP oy oz:Int)(b73:Bool)(nt:World),Eg xs7.length F68 pP oy oz b73 nt->nt.heap[w5.heap.size]? =some (.deferred (some []))->
 Sw nt w2 #[aa,aa,aa] λsN=>
 Sw sN w3 #[false] λkL=>
 kL.heap[w5.heap.size]? =some (.deferred (some []))/\∀vd:World,Rec w5 kL vd->
 R (Value.tuple #[.agg #[aa,aa,aa],false]) vd)/\
 (∀(F78:Nat->Prop)(auF:Nat->Value)(yC vF tN:Int)(b83:Bool)(LS:World),X11 none F78 yC vF tN b83 LS->LS.heap[w5.heap.size]? =some (.deferred (some []))->
 LS.heap[w5.heap.size]? =some (.deferred (some []))/\∀w85:World,Rec w5 LS w85->
 R (Value.tuple #[.agg #[yC,vF,tN],b83]) w85)))))):ah 153 #[a0,.agg #[aq,ar,aA,bz,bR,bQ],a2] w R:=
 cq ⟨[],[],[(3,⟨[],[(3,[.int .i64,.int .i64,.int .i64]),(4,[.bool])],[]⟩,[.agg [.int .i64,.int .i64,.int .i64]])]⟩ Tryz.func153 h
def agh.vc(h:
 Aw w #[aw,ao,au] 28 λw0=>
 Aw w0 #[aq,ar,aA] 28 λw1=>
 Aw w1 #[aa,aa,aa] 28 λw2=>
 ah 203 #[.agg #[aw,ao,au],.func (.func 216) #[] #[.pointer (aB w0)]] w2 (jo λx4 x5 x6 w3=>K2 w w1 w2 w3 (
 Sw w3 w1 #[x4,x5,x6] λw7=>
 R (Value.agg #[x4,x5,x6]) w7))):ah 154 #[.agg #[aw,ao,au],.agg #[aq,ar,aA]] w R:=
 cq bU Tryz.func154 h
def acz.vc(h:
 Aw w #[aw,ao,au] 28 λw0=>
 Aw w0 #[a1] 3 λw1=>
 Aw w1 #[a2] 3 λw2=>
 Aw w2 #[aa,aa,aa] 28 λw3=>
 ah 203 #[.agg #[aw,ao,au],.func (.func 217) #[] #[.pointer (aB w0),.pointer (aB w1)]] w3 (jo λx5 x6 x7 w4=>K2 w w2 w3 w4 (
 Sw w4 w2 #[x5,x6,x7] λw8=>
 R (Value.agg #[x5,x6,x7]) w8))):ah 155 #[.agg #[aw,ao,au],a1,a2] w R:=
 cq bU Tryz.func155 h
def Yr.vc(h:
 ah 214 #[a0] w (λe w0=>∃(x1:Int),e=x1/\
 ah 214 #[a1] w0 (λe w2=>∃(x3:Int),e=x3/\
 ah 214 #[(ak (x1-x3))] w2 (λe w4=>∃(x5:Int),e=x5/\
 R x5 w4)))):ah 156 #[a0,a1] w R:=
 cq bU Tryz.func156 h
def acw.vc(h:
 R ((ak ((if 2147483648<(if (-2147483648)>a0 then (-2147483648) else a0) then 2147483648 else (if (-2147483648)>a0 then (-2147483648) else a0))*2 ^(min (16:Int).toNat 64)))) w):ah 174 #[a0] w R:=
 cq bU Tryz.func174 h
def tE.vc{a0:Sl}{a1:Value}(h:
 ∃I0:Nat->Int->World->Prop,
 (∃n1,I0 n1 (0) w)/\
 ∀(n1:Nat)(wg:Nat->Value)(x3:Int)(w4:World),I0 n1 x3 w4->
 Br (decide (x3<((a0.n:Nat):Int)))
 (ez a0.a x3 a0.n/\∃(p6:Option Addr),ld w4 (ae a0.a ((x3:Int).toNat*1))=some (.pointer p6)/\
 cL Tryz.prog a1 [.pointer p6] w4 (λe w7=>∃(b8:Bool),e=b8/\
 Br b8
 (R x3 w7)
 (∃n5,n5<n1/\I0 n5 ((ak (x3+1))) w7)))
 (R (Value.int .i64 (-1)) w4)):ah 175 #[a0,a1] w R:=
 cq ⟨[(2,⟨[(8,.int .i64)],[],[]⟩)],[],[]⟩ Tryz.func175 h
def acy.vc(h:
 Aw w #[aw,ao,au] 28 λw0=>
 Br (a1<0)
 (R (0:Int) w0)
 (Br (a1>=3)
 (R (0:Int) w0)
 (ah 245 #[w] w0 (λe w1=>∃(p2 p3 p4:Option Addr),e=Value.agg #[p2,p3,p4]/\
 ((0:Int)<=a1/\a1<((3:Nat):Int))/\∃(p5:Option Addr),([.pointer p2,p3,p4]:LV)[(a1:Int).toNat*1]? =some (.pointer p5)/\
 aS (dK p5) (∃(x6:Int),ld w1 p5=some (.int .i64 x6)/\
 R x6 w1))))):ah 178 #[.agg #[aw,ao,au],a1] w R:=
 cq bU Tryz.func178 h
def acx.vc{a1:Value}(h:
 Aw w #[aw,ao,au] 28 λw0=>
 Aw w0 #[aa,aa,aa] 28 λw1=>
 ah 245 #[w] w1 (λe w2=>∃(p3 p4 p5:Option Addr),e=Value.agg #[p3,p4,p5]/\Kp w0 w1 w2/\
 ∃I6:Nat->Int->World->Prop,
 (∃n7,aL [aa,aa,aa]/\I6 n7 (0) w2)/\
 ∀(n7:Nat)(us8:Nat->Value)(x9:Int)(bN:World),I6 n7 x9 bN->
 Br (x9<3)
 (((0:Int)<=x9/\x9<((3:Nat):Int))/\∃(pI:Option Addr),([.pointer p3,p4,p5]:LV)[(x9:Int).toNat*1]? =some (.pointer pI)/\
 aS (dK pI) (∃(cn:Int),ld bN pI=some (.int .i64 cn)/\
 cL Tryz.prog a1 [x9,cn] bN (Ri λcD bJ=>Kp w0 bN bJ/\
 aS (dK pI) (((pI).isSome=true/\Wr bJ pI 1)/\Nq pI w0/\(∀cP,cP=aK bJ pI [cD]->
 ∃tj,tj<n7/\aL [aa,aa,aa]/\I6 tj ((ak (x9+1))) cP)))))
 (∃(cZ cA cr:Int),af bN w 0 [cZ,cA,cr]/\
 Sw bN w0 #[cZ,cA,cr] λef=>
 R (Value.agg #[cZ,cA,cr]) ef))):ah 203 #[.agg #[aw,ao,au],a1] w R:=
 cq ⟨[(2,⟨[(8,.int .i64)],[],[]⟩)],[],[]⟩ Tryz.func203 h
def Yv.vc{c0:Addr}(h:
 ∃(x0 x1 x2:Int),af w (some c0) 0 [x0,x1,x2]/\
 ah 178 #[.agg #[x0,x1,x2],a0] w (λe w3=>∃(x4:Int),e=x4/\
 ah 205 #[a1,x4] w3 (λe w5=>∃(x6:Int),e=x6/\
 R x6 w5))):ah 204 #[a0,a1,c0] w R:=
 cq bU Tryz.func204 h
def Yq.vc(h:
 ah 214 #[a0] w (λe w0=>∃(x1:Int),e=x1/\
 ah 214 #[a1] w0 (λe w2=>∃(x3:Int),e=x3/\
 ah 214 #[(ak (x1+x3))] w2 (λe w4=>∃(x5:Int),e=x5/\
 R x5 w4)))):ah 205 #[a0,a1] w R:=
 cq bU Tryz.func205 h
def Yo.vc(h:
 R (Value.int .i64 (if 140737488355328<(if (-140737488355328)>a0 then (-140737488355328) else a0) then 140737488355328 else (if (-140737488355328)>a0 then (-140737488355328) else a0))) w):ah 214 #[a0] w R:=
 cq bU Tryz.func214 h
def R5.vc(h:
 Aw w #[aw,ao,au,aP,aQ,aR] 107 λw0=>
 R (Value.func (.func 265) #[] #[w]) w0):ah 215 #[.agg #[aw,ao,au,aP,aQ,aR]] w R:=
 cq bU Tryz.func215 h
def Yx.vc{c0:Addr}(h:
 ∃(x0 x1 x2:Int),af w (some c0) 0 [x0,x1,x2]/\
 ah 178 #[.agg #[x0,x1,x2],a0] w (λe w3=>∃(x4:Int),e=x4/\
 ah 156 #[a1,x4] w3 (λe w5=>∃(x6:Int),e=x6/\
 R x6 w5))):ah 216 #[a0,a1,c0] w R:=
 cq bU Tryz.func216 h
def TC.vc{c0:Addr}{c1:Addr}(h:
 ∃(x0:Int),ld w (some c0)=some (.int .i64 x0)/\
 Br (a0==x0)
 (∃(x1:Int),ld w (some c1)=some (.int .i64 x1)/\
 ah 214 #[x1] w (λe w2=>∃(x3:Int),e=x3/\
 R x3 w2))
 (R a1 w)):ah 217 #[a0,a1,c0,c1] w R:=
 cq bU Tryz.func217 h
def Yt.vc{a0:Addr}(h:
 Aw w #[.pointer none,.pointer none,.pointer none] 306 λw0=>
 Wt w0.drew ⟨w,0,none⟩ 3/\(∀w1,w1=aK w0.drew w [.pointer (ae (some a0) 0),.pointer (ae (some a0) 1),.pointer (ae (some a0) 2)]->
 ∃(p2 p3 p4:Option Addr),af w1 w 0 [.pointer p2,p3,p4]/\
 R (Value.agg #[p2,p3,p4]) w1)):ah 245 #[a0] w R:=
 cq bU Tryz.func245 h
def Tz.vc(h:
 ah 214 #[a0] w (λe w0=>∃(x1:Int),e=x1/\
 R (Value.int .i64 (oU .i64 x1 65535)) w0)):ah 258 #[a0] w R:=
 cq bU Tryz.func258 h
def LK.vc{a0:Value}{c0:Addr}(h:
 ∃(x0 x1 x2 x3 x4 x5:Int),af w (some c0) 0 [x0,x1,x2,x3,x4,x5]/\
 ah 266 #[.agg #[x0,x1,x2,x3,x4,x5]] w (λe w6=>∃(x7 x8 x9 bk bA bS:Int)(Hl:Bool),e=Value.tuple #[.agg #[x7,x8,x9],.agg #[bk,bA,bS],Hl]/\
 Aw w6 #[aa,aa,aa] 41 λbJ=>
 Aw bJ #[aa,aa,aa] 41 λeu=>
 Sw eu w6 #[x7,x8,x9] λcP=>
 Sw cP bJ #[bk,bA,bS] λcJ=>
 ∃I18:Nat->Int->World->Prop,
 (∃Z7,aL [x7,x8,x9]/\aL [bk,bA,bS]/\I18 Z7 x8 cJ)/\
 ∀(Z7:Nat)(aum:Nat->Value)(dh:Int)(ey:World),I18 Z7 dh ey->
 Br Hl
 (Br (dh<=bA)
 (∃I24:Nat->Int->World->Prop,
 (∃n25,aL [x7,x8,x9]/\aL [bk,bA,bS]/\I24 n25 x9 ey)/\
 ∀(n25:Nat)(aEF:Nat->Value)(fD:Int)(gQ:World),I24 n25 fD gQ->
 Br (fD<=bS)
 (∃I30:Nat->Int->World->Prop,
 (∃VC,aL [x7,x8,x9]/\aL [bk,bA,bS]/\I30 VC x7 gQ)/\
 ∀(VC:Nat)(atv:Nat->Value)(eF:Int)(iq:World),I30 VC eF iq->
 Br (eF<=bk)
 (cL Tryz.prog a0 [.agg #[eF,dh,fD]] iq (Rb λb37 jN=>K2 w6 bJ iq jN (
 Br (!b37)
 (R ug jN)
 (∃Mj,Mj<VC/\aL [x7,x8,x9]/\aL [bk,bA,bS]/\I30 Mj ((ak (eF+1))) jN))))
 (∃Z4,Z4<n25/\aL [x7,x8,x9]/\aL [bk,bA,bS]/\I24 Z4 ((ak (fD+1))) iq))
 (∃n23,n23<Z7/\aL [x7,x8,x9]/\aL [bk,bA,bS]/\I18 n23 ((ak (dh+1))) gQ))
 (R ug ey))
 (R ug ey))):ah 265 #[a0,c0] w R:=
 cq ⟨[(8,⟨[(8,.int .i64)],[],[]⟩),(5,⟨[(7,.int .i64)],[],[]⟩),(2,⟨[(6,.int .i64)],[],[]⟩)],[],[]⟩ Tryz.func265 h
def Wp.vc(h:
 Aw w #[aw,ao,au,aP,aQ,aR] 107 λw0=>
 Aw w0 #[aa,aa,aa] 41 λw1=>
 Aw w1 #[aa,aa,aa] 41 λw2=>
 ah 101 #[.agg #[aw,ao,au]] w2 (jo λx4 x5 x6 w3=>K3 w w0 w1 w2 w3 (
 Aw w3 #[aa,aa,aa] 41 λw7=>
 Sw w7 w3 #[x4,x5,x6] λw8=>
 ah 145 #[.agg #[aP,aQ,aR],.agg #[(-1:Int),(-1:Int),(-1:Int)]] w8 (jo λbk bA bS w9=>K4 w w0 w1 w3 w8 w9 (
 ah 101 #[.agg #[bk,bA,bS]] w9 (jo λbW cD cp bG=>K4 w w0 w1 w3 w9 bG (
 Aw bG #[aa,aa,aa] 41 λcJ=>
 Sw cJ bG #[bW,cD,cp] λdu=>
 ∃I19:Nat->Int->World->Prop,
 (∃TX,aL [aw,ao,au,aP,aQ,aR]/\aL [aa,aa,aa]/\aL [aa,aa,aa]/\aL [x4,x5,x6]/\aL [bW,cD,cp]/\I19 TX (0) du)/\
 ∀(TX:Nat)(avn:Nat->Value)(dJ:Int)(eR:World),I19 TX dJ eR->
 Br (dJ<3)
 (ah 178 #[.agg #[aw,ao,au],dJ] eR.drew (Ri λfE cV=>K5 w w0 w1 w3 bG eR.drew cV (
 af cV (dU w 3) 0 [aP,aQ,aR]/\ah 178 #[.agg #[aP,aQ,aR],dJ] cV (Ri λik eB=>K5 w w0 w1 w3 bG cV eB (
 Br (fE==ik)
 (ah 258 #[fE] eB (Ri λiM dX=>K5 w w0 w1 w3 bG eB dX (
 Br (iM==0)
 (Sw dX w0 #[aa,aa,aa] λgA=>
 Sw gA w1 #[aa,aa,aa] λlA=>
 R (Value.tuple #[.agg #[aa,aa,aa],.agg #[aa,aa,aa],false]) lA)
 (∃n24,n24<TX/\aL [aw,ao,au,aP,aQ,aR]/\aL [aa,aa,aa]/\aL [aa,aa,aa]/\aL [x4,x5,x6]/\aL [bW,cD,cp]/\I19 n24 ((ak (dJ+1))) dX))))
 (∃n24,n24<TX/\aL [aw,ao,au,aP,aQ,aR]/\aL [aa,aa,aa]/\aL [aa,aa,aa]/\aL [x4,x5,x6]/\aL [bW,cD,cp]/\I19 n24 ((ak (dJ+1))) eB))))))
 (ah 293 #[aw,aP,x4,bW] eR.drew (Ri λim eP=>K5 w w0 w1 w3 bG eR.drew eP (
 af eP (dU bG 2) 0 [cp]/\af eP (dU w3 2) 0 [x6]/\af eP (dU w 5) 0 [aR]/\af eP (dU w 2) 0 [au]/\af eP (dU bG 1) 0 [cD]/\af eP (dU w3 1) 0 [x5]/\af eP (dU w 4) 0 [aQ]/\af eP (dU w 1) 0 [ao]/\ah 293 #[ao,aQ,x5,cD] eP (Ri λlJ ki=>K5 w w0 w1 w3 bG eP ki (
 af ki (dU bG 2) 0 [cp]/\af ki (dU w3 2) 0 [x6]/\af ki (dU w 5) 0 [aR]/\af ki (dU w 2) 0 [au]/\ah 293 #[au,aR,x6,cp] ki (Ri λgd iN=>K5 w w0 w1 w3 bG ki iN (
 Sw iN bG #[im,cD,cp] λkP=>
 Sw kP bG #[im,lJ,cp] λjS=>
 Sw jS bG #[im,lJ,gd] λiR=>
 Sw iR.drew w0 #[x4,x5,x6] λkO=>
 af kO (aB bG) 0 [im,lJ,gd]/\Sw kO w1 #[im,lJ,gd] λiH=>
 R (Value.tuple #[.agg #[x4,x5,x6],.agg #[im,lJ,gd],true]) iH)))))))))))))):ah 266 #[.agg #[aw,ao,au,aP,aQ,aR]] w R:=
 cq ⟨[(4,⟨[(19,.int .i64)],[],[]⟩)],[],[]⟩ Tryz.func266 h
def M7.vc(h:
 Br (a0==a1)
 (R a2 w)
 (R a3 w)):ah 293 #[a0,a1,a2,a3] w R:=
 cq bU Tryz.func293 h
def TN.vc{a0:Addr}(h:
 ah 19 #[a0] w (λe w0=>∃(p1:Option Addr),e=p1/\
 Br (p1).isNone
 (R false w0)
 (∃I2:Nat->Int->World->Prop,
 (∃n3,I2 n3 ((-1)) w0)/\
 ∀(n3:Nat)(us4:Nat->Value)(x5:Int)(w6:World),I2 n3 x5 w6->
 Br (x5<2)
 (∃I8:Nat->Int->World->Prop,
 (∃n9,I8 n9 ((-1)) w6)/\
 ∀(n9:Nat)(Zx:Nat->Value)(bA:Int)(cU:World),I8 n9 bA cU->
 Br (bA<2)
 (ah 20 #[p1,.agg #[x5,bA]] cU (λe bJ=>∃(cD:Int),e=cD/\
 Br (cD !=0)
 (R false bJ)
 (∃n13,n13<n9/\I8 n13 ((ak (bA+1))) bJ)))
 (∃n7,n7<n3/\I2 n7 ((ak (x5+1))) cU))
 (R true w6)))):ah 42 #[a0] w R:=
 cq ⟨[(8,⟨[(5,.int .i64)],[],[]⟩),(5,⟨[(4,.int .i64)],[],[]⟩)],[],[]⟩ Tryz.func42 h
def Qd.vc(h:
 ah 38 #[.agg #[a0,a2,(1000000:Int),a1]] w (λe w0=>∃(p1:Option Addr),e=p1/\
 ah 39 #[a0,a2,(1000000:Int)] w0 (λe w2=>∃(p3:Option Addr),e=p3/\
 Br (p1).isNone
 (R (Value.tuple #[.pointer none,.pointer none]) w2)
 (Br (p3).isNone
 (R (Value.tuple #[.pointer none,.pointer none]) w2)
 (ah 40 #[p3,a1] w2 (λe w4=>∃(p5:Option Addr),e=p5/\
 Br (p5).isNone
 (R (Value.tuple #[.pointer none,.pointer none]) w4)
 (aS (dK p1) (aS (dK p1) (∃(p6:Option Addr),ld w4 (ae p1 0)=some (.pointer p6)/\
 ah 18 #[p6] w4 (λe w7=>∃(p8:Option Addr),e=p8/\
 Br (p8).isNone
 (R (Value.tuple #[.pointer none,.pointer none]) w7)
 (ah 41 #[p1] w7 (λe w9=>∃(Kn:Option Addr),e=Kn/\
 Br (Kn).isNone
 (R (Value.tuple #[.pointer none,.pointer none]) w9)
 (ah 27 #[p3] w9 (λe bc=>∃(v12:Value),e=v12/\
 aS (fnC v12) (Br (Ku v12)
 (R (Value.tuple #[.pointer none,.pointer none]) bc)
 (aS (dK p1) (aS (dK p1) (∃(QK:Option Addr),ld bc (ae p1 0)=some (.pointer QK)/\
 ah 18 #[QK] bc (λe bJ=>∃(Uh:Option Addr),e=Uh/\
 ah 27 #[Uh] bJ (λe cP=>∃(v17:Value),e=v17/\
 aS (fnC v17) (Br (Ku v17)
 (R (Value.tuple #[.pointer none,.pointer none]) cP)
 (ah 42 #[p3] cP (λe du=>∃(b19:Bool),e=b19/\
 Br (!b19)
 (R (Value.tuple #[.pointer none,.pointer none]) du)
 (aS (dK p1) (aS (dK p1) (∃(p20:Option Addr),ld du (ae p1 0)=some (.pointer p20)/\
 ah 18 #[p20] du (λe eU=>∃(p22:Option Addr),e=p22/\
 ah 42 #[p22] eU (λe eR=>∃(Zn:Bool),e=Zn/\
 Br (!Zn)
 (R (Value.tuple #[.pointer none,.pointer none]) eR)
 ((((0:Int)<=16/\(16:Int)<=16/\(16:Int)<=140737488355328/\(16:Int)*104<=140737488355328)/\(∀cV,cV=eR.drew.alloc (.cells (br [.bool false,aa,aa,aa,aa,aa,aa,aa,aa,false,aa,aa,false] (16:Int).toNat).toArray 117)->
 ((Aw cV #[p3,p5,.slice (aB eR.drew.heap.size) (16:Int).toNat (16:Int).toNat] 101 λfb=>
 R (Value.tuple #[p1,.pointer (aB cV)]) fb)/\(Aw cV #[p3,p5,.slice (aB eR.drew.heap.size) (16:Int).toNat (16:Int).toNat] 101 λeB=>
 R (Value.tuple #[p1,.pointer (aB cV)]) eB))/\(Aw cV #[p3,p5,.slice (aB eR.drew.heap.size) (16:Int).toNat (16:Int).toNat] 101 λgQ=>
 R (Value.tuple #[p1,.pointer (aB cV)]) gQ)))/\(((0:Int)<=16/\(16:Int)<=16/\(16:Int)<=140737488355328/\(16:Int)*104<=140737488355328)/\(∀dX,dX=eR.drew.alloc (.cells (br [.bool false,aa,aa,aa,aa,aa,aa,aa,aa,false,aa,aa,false] (16:Int).toNat).toArray 117)->
 Aw dX #[p3,p5,.slice (aB eR.drew.heap.size) (16:Int).toNat (16:Int).toNat] 101 λfw=>
 R (Value.tuple #[p1,.pointer (aB dX)]) fw))))))))))))))))))))))))))))))):ah 9 #[a0,a1,a2] w R:=
 cq bU Tryz.func9 h
def Qe.vc(h:
 ah 38 #[.agg #[aa,(1:Int),aa,aa]] w (λe w0=>∃(p1:Option Addr),e=p1/\
 Br (p1).isNone
 (R false w0)
 (ah 11 #[p1,.agg #[aa,aa,aa],(100:Int),(100:Int)] w0 (λe w2=>∃(x3 x4:Int),e=Value.tuple #[x3,x4]/\
 Br (x3==(-1))
 (R (Value.bool (x4==11)) w2)
 (R false w2))))):ah 14 #[] w R:=
 cq bU Tryz.func14 h
open Go.iU
abbrev ic:TypeId:=28
abbrev qS(b:Bx):Value:=.agg #[b.1.1,b.1.2.1,b.1.2.2,b.2.1,b.2.2.1,b.2.2.2]
def asJ(n:Int):(if 140737488355328<(if (-140737488355328)>n then (-140737488355328) else n) then 140737488355328 else (if (-140737488355328)>n then (-140737488355328) else n))=dz n:=by
 unfold dz
 repeat' split
 all_goals omega
def gK(n:Int)(w:World):ah 214 #[n] w λe w'=>e=Value.int .i64 (dz n)/\w'=w:=by apply Yo.vc;exact ⟨by rw [asJ],rfl⟩
def Yp(a b:Int)(w:World):ah 205 #[a,b] w λe w'=>e=Value.int .i64 (fI a b)/\w'=w:=by apply Yq.vc;refine (gK a w).mono ?_;rintro e w1 ⟨rfl,rfl⟩;refine ⟨_,rfl,(gK b w1).mono ?_⟩;rintro e w2 ⟨rfl,rfl⟩;have h1:=kc a;have h2:=kc b;refine ⟨_,rfl,?_⟩;rw [wI];refine (gK _ w2).mono ?_;rintro e w3 ⟨rfl,rfl⟩;exact ⟨_,rfl,rfl,rfl⟩
def Jo(a b:Int)(w:World):ah 156 #[a,b] w λe w'=>e=Value.int .i64 (lG a b)/\w'=w:=by apply Yr.vc;refine (gK a w).mono ?_;rintro e w1 ⟨rfl,rfl⟩;refine ⟨_,rfl,(gK b w1).mono ?_⟩;rintro e w2 ⟨rfl,rfl⟩;have h1:=kc a;have h2:=kc b;refine ⟨_,rfl,?_⟩;rw [wI];refine (gK _ w2).mono ?_;rintro e w3 ⟨rfl,rfl⟩;exact ⟨_,rfl,rfl,rfl⟩
def p16:(2 ^(min (16:Int).toNat 64):Int)=65536:=by decide
def ph(n:Int)(w:World):ah 152 #[n] w λe w'=>e=Value.int .i64 (bV n)/\w'=w:=by apply PR.vc;refine (gK n w).mono ?_;rintro e w1 ⟨rfl,rfl⟩;rw [p16];exact ⟨_,rfl,by rw [sZ _ aG];rfl,rfl⟩
def Ys{x:Int}(h: -140737488355328<=x/\x<=140737488355328):oU .i64 x 65535=x % 65536:=by
 unfold oU;have e:(BitVec.ofInt IntKind.i64.bits x &&& BitVec.ofInt IntKind.i64.bits 65535).toNat=(x % 65536).toNat:=by
  show (BitVec.ofInt 64 x &&& BitVec.ofInt 64 65535).toNat=_;rw [zB];have h1:(BitVec.ofInt 64 65535).toNat=2 ^ 16-1:=by decide
  rw [h1,Nat.and_two_pow_sub_one_eq_mod,Ct];omega
 rw [e,Int.toNat_of_nonneg ab];exact wI
def Bp(n:Int)(w:World):ah 258 #[n] w λe w'=>e=Value.int .i64 (uA n)/\w'=w:=by apply Tz.vc;refine (gK n w).mono ?_;rintro e w1 ⟨rfl,rfl⟩;exact ⟨_,rfl,by rw [Ys (kc n)];rfl,rfl⟩
def sk(n:Int)(w:World):ah 174 #[n] w λe w'=>e=Value.int .i64 (nL n)/\w'=w:=by
 apply acw.vc;rw [p16];have e:(if 2147483648<(if (-2147483648)>n then (-2147483648) else n) then 2147483648 else (if (-2147483648)>n then (-2147483648) else n))=min (max n (-2147483648)) 2147483648:=by
  repeat' split
  all_goals omega
 rw [e,wI];exact ⟨rfl,rfl⟩
def aj5(p q r:Option Addr):One [.pointer p,q,r]:=by intro v hv;simp at hv;rcases hv with rfl|rfl|rfl<;>rfl
def GU(a:Addr)(w:World):ah 245 #[a] w λe w'=>e=Value.agg #[.pointer (ae (some a) 0),.pointer (ae (some a) 1),.pointer (ae (some a) 2)]/\Ext w w':=by
 apply Yt.vc;intro w0 e0;have x0:Ext w w0.drew:=(aT e0).drew;have hr:Row w0.drew w [.pointer none,.pointer none,.pointer none] 306:=by rw [e0];exact (Row.new w [_,_,_] _).ext (Ext.dr _)
 refine ⟨⟨rfl,hr.wr cj⟩,λw1 e1=> ?_⟩;rw [hr.aK (vs:=[.pointer (ae (some a) 0),.pointer (ae (some a) 1),.pointer (ae (some a) 2)]) cj (aj5 _ _ _),ed cj] at e1;have hr1:Row w1 w [.pointer (ae (some a) 0),.pointer (ae (some a) 1),.pointer (ae (some a) 2)] 306:=hr.st e1;exact ⟨_,_,_,Lo.wv hr1,rfl,x0.ag e1 (aD _)⟩
def TA(f:Int->Int->Int)(v:Ce)(k:Nat):LV:=[.int .i64 (if 0<k then f 0 v.1 else v.1),.int .i64 (if 1<k then f 1 v.2.1 else v.2.1),.int .i64 (if 2<k then f 2 v.2.2 else v.2.2)]
def vC(f:Int->Int->Int)(v:Ce)(fv:Value)(w:World)(hf:∀w',Ext w w'->∀i x:Int,0<=i->i<3->cL Tryz.prog fv [.int .i64 i,.int .i64 x] w' λe w''=>e=Value.int .i64 (f i x)/\Ext w' w''):
  ah 203 #[eg v,fv] w λe w'=>e=(eg (Ni f v))/\Ext w w':=by
 apply acx.vc;intro w0 e0 w1 e1;have x0:=aT e0;have z0:=eN e0;have r0:Row w0 w (TA f v 0) ic:=Row.nw e0;have x1:=aT e1;have z1:=eN e1;refine (GU ⟨w.heap.size,0,none⟩ w1).mono ?_;rintro e w2 ⟨rfl,x2⟩;have z2:=x2.size;refine ⟨_,_,_,rfl,x2.heap ab,λn x wr=>∃k:Nat,x=k/\k+n=3/\Row wr w (TA f v k) ic/\Ext w wr/\w2.heap.size<=wr,⟨3,rfl,0,rfl,rfl,r0.ext (x1.tr x2),x0.tr (x1.tr x2),aD _⟩,?_⟩;rintro n us x wr ⟨k,rfl,hk,hr,xr,zr⟩;have hl:∀k,(TA f v k).length=3:=λ_=>rfl
 have wk:=nY (j:=k);apply Br.mk<;>intro hb
 ·replace hb:=nG hb;have vD:k=0\/k=1\/k=2:=by omega
  have step:∀(j:Nat)(y:Int),k=j->j<3->(TA f v j)[j]? =some (.int .i64 y)->aW (TA f v j) j [(f j y)]=TA f v (j+1)->
    aS (dK (ae (aB w.heap.size) j)) (∃(cn:Int),ld wr (ae (aB w.heap.size) j)=some (.int .i64 cn)/\
     cL Tryz.prog fv [.int .i64 (k:Int),cn] wr (λe bJ=>∃(cD:Int),e=cD/\bJ.heap[w0.heap.size]? =wr.heap[w0.heap.size]?/\
     aS (dK (ae (aB w.heap.size) j)) (((ae (aB w.heap.size) j).isSome=true/\Wr bJ (ae (aB w.heap.size) j) 1)/\bt (ae (aB w.heap.size) j)≠some w0.heap.size/\(∀cP:World,cP=aK bJ (ae (aB w.heap.size) j) [cD]->
     ∃tj,tj<n/\aL [aa,aa,aa]/\∃k':Nat,ak ((k:Int)+1)=k'/\k'+tj=3/\Row cP w (TA f v k') ic/\Ext w cP/\w2.heap.size<=cP)))):=by
   intro j y hj h3 h1 h2;subst hj;refine gT rfl ⟨y,hr.at k h1,ep (hf wr xr k y ab ab) ?_⟩;rintro e bJ ⟨rfl,bW⟩;have Y9:=bW.size;have akj:=hr.ext bW;obtain ⟨p1,p2⟩:=akj.jm (j:=k) (v:=.int .i64 (f k y)) (by rw [hl];exact h3) rfl;refine ⟨_,rfl,bW.heap ab,gT rfl ⟨⟨rfl,p1⟩,?_,λcP HM=> ?_⟩⟩
   ·rw [de];intro q;have q:w.heap.size=w0.heap.size:=by simpa [bt] using q
    omega
   obtain ⟨q1,q2⟩:=p2 cP HM;rw [h2] at q1;have z16:=q2.size;exact ⟨n-1,by omega,rfl,k+1,wk,by omega,q1,q2.ext (xr.tr bW) λi hi=>by omega,by omega⟩
  refine ⟨⟨by omega,by omega⟩,?_⟩;rcases vD with h|h|h
  ·exact ⟨_,by rw [h];rfl,step 0 v.1 h aG rfl rfl⟩
  ·exact ⟨_,by rw [h];rfl,step 1 v.2.1 h aG rfl rfl⟩
  ·exact ⟨_,by rw [h];rfl,step 2 v.2.2 h aG rfl rfl⟩
 ·replace hb:=nT hb;have vD:k=3:=by omega
  subst vD;exact ⟨_,_,_,Lo.wv hr,λef VM=>⟨rfl,xr.ag VM ab⟩⟩
def dt(v:Ce)(i:Int)(w:World):ah 178 #[eg v,i] w λe w'=>e=Value.int .i64 (bZ v i)/\Ext w w':=by
 apply acy.vc;intro w0 e0;have x0:=aT e0;have r0:Row w0 w (dO v) ic:=Row.nw e0;refine Br.mk (λh=> ?_) (λh=>Br.mk (λh2=> ?_) (λh2=>(GU ⟨w.heap.size,0,none⟩ w0).mono ?_))
 ·replace h:=nG h;exact ⟨by unfold bZ;rw [if_neg ab,if_neg ab,if_neg ab],x0⟩
 ·simp only [cX,ge_iff_le] at h2;exact ⟨by unfold bZ;rw [if_neg ab,if_neg ab,if_neg ab],x0⟩
 ·simp only [fk,ge_iff_le] at h h2;rintro e w1 ⟨rfl,x1⟩;have hr:=r0.ext x1;refine ⟨_,_,_,rfl,⟨by omega,by omega⟩,?_⟩;have h3:i=0\/i=1\/i=2:=by omega
  rcases h3 with rfl|rfl|rfl
  ·exact ⟨_,rfl,gT rfl ⟨_,hr.at 0 rfl,rfl,x0.tr x1⟩⟩
  ·exact ⟨_,rfl,gT rfl ⟨_,hr.at 1 rfl,rfl,x0.tr x1⟩⟩
  ·exact ⟨_,rfl,gT rfl ⟨_,hr.at 2 rfl,rfl,x0.tr x1⟩⟩
def Yu(b:Ce)(i n:Int){g:Nat}{w:World}(hr:Row w g (dO b) ic):ah 204 #[i,n,g] w λe w'=>e=Value.int .i64 (fI n (bZ b i))/\Ext w w':=by apply Yv.vc;refine ⟨_,_,_,Lo.wv hr,(dt b i w).mono ?_⟩;rintro e w1 ⟨rfl,x1⟩;refine ⟨_,rfl,(Yp n _ w1).mono ?_⟩;rintro e w2 ⟨rfl,rfl⟩;exact ⟨_,rfl,rfl,x1⟩
def Yw(b:Ce)(i n:Int){g:Nat}{w:World}(hr:Row w g (dO b) ic):ah 216 #[i,n,g] w λe w'=>e=Value.int .i64 (lG n (bZ b i))/\Ext w w':=by apply Yx.vc;refine ⟨_,_,_,Lo.wv hr,(dt b i w).mono ?_⟩;rintro e w1 ⟨rfl,x1⟩;refine ⟨_,rfl,(Jo n _ w1).mono ?_⟩;rintro e w2 ⟨rfl,rfl⟩;exact ⟨_,rfl,rfl,x1⟩
def jt(a b:Ce)(w:World):ah 145 #[eg a,eg b] w λe w'=>e=(eg (jK a b))/\Ext w w':=by apply agf.vc;intro w0 e0 w1 e1 w2 e2;have x0:=aT e0;have z0:=eN e0;have x1:=aT e1;have z1:=eN e1;have r1:Row w1 w0 (dO b) ic:=Row.nw e1;have x2:=aT e2;have z2:=eN e2;have AI:=x0.tr (x1.tr x2);refine (vC (λi n=>fI n (bZ b i)) a (.func (.func 204) #[] #[w0]) w2 λw' x' i x _ _=>c9 (by kernel_rfl) rfl (Yu b i x ((r1.ext x2).ext x'))).mono ?_;rintro e w3 ⟨rfl,x3⟩;have z3:=x3.size;exact ⟨_,_,_,rfl,x3.heap ab,x3.heap ab,λw7 e7=>⟨rfl,(AI.tr x3).ag e7 ab⟩⟩
def vr(a b:Ce)(w:World):ah 154 #[eg a,eg b] w λe w'=>e=(eg (xt a b))/\Ext w w':=by apply agh.vc;intro w0 e0 w1 e1 w2 e2;have x0:=aT e0;have z0:=eN e0;have x1:=aT e1;have z1:=eN e1;have r1:Row w1 w0 (dO b) ic:=Row.nw e1;have x2:=aT e2;have z2:=eN e2;have AI:=x0.tr (x1.tr x2);refine (vC (λi n=>lG n (bZ b i)) a (.func (.func 216) #[] #[w0]) w2 λw' x' i x _ _=>c9 (by kernel_rfl) rfl (Yw b i x ((r1.ext x2).ext x'))).mono ?_;rintro e w3 ⟨rfl,x3⟩;have z3:=x3.size;exact ⟨_,_,_,rfl,x3.heap ab,x3.heap ab,λw7 e7=>⟨rfl,(AI.tr x3).ag e7 ab⟩⟩
def TB(ax m i n:Int){g h:Nat}{w:World}{τ:TypeId}(hr:Row w g [ax] τ)(hh:Row w h [m] τ):ah 217 #[i,n,g,h] w λe w'=>e=Value.int .i64 (if i=ax then dz m else n)/\Ext w w':=by
 apply TC.vc;refine ⟨ax,hr.at 0 rfl,Br.mk (λq=>⟨m,hh.at 0 rfl,(gK m w).mono ?_⟩) (λq=> ?_)⟩
 ·rintro e w1 ⟨rfl,rfl⟩;exact ⟨_,rfl,by rw [if_pos (by simpa using q)],Ext.cu _⟩
 ·exact ⟨by rw [if_neg (by simpa using q)],Ext.cu _⟩
def jd(v:Ce)(ax m:Int)(w:World):ah 155 #[eg v,ax,m] w λe w'=>e=(eg (gJ v ax m))/\Ext w w':=by apply acz.vc;intro w0 e0 w1 e1 w2 e2 w3 e3;have x0:=aT e0;have z0:=eN e0;have x1:=aT e1;have z1:=eN e1;have r1:Row w1 w0 [ax] 3:=Row.nw e1;have x2:=aT e2;have z2:=eN e2;have r2:Row w2 w1 [m] 3:=Row.nw e2;have x3:=aT e3;have z3:=eN e3;have B5:=x0.tr (x1.tr (x2.tr x3));refine (vC (λi own=>if i=ax then dz m else own) v (.func (.func 217) #[] #[w0,w1]) w3 λw' x' i x _ _=>c9 (by kernel_rfl) rfl (TB ax m i x ((r1.ext (x2.tr x3)).ext x') ((r2.ext x3).ext x'))).mono ?_;rintro e w4 ⟨rfl,x4⟩;have z4:=x4.size;exact ⟨_,_,_,rfl,x4.heap ab,x4.heap ab,λw8 e8=>⟨rfl,(B5.tr x4).ag e8 ab⟩⟩
abbrev fQ:TypeId:=107
abbrev pK(b:Bx):LV:=[.int .i64 b.1.1,.int .i64 b.1.2.1,.int .i64 b.1.2.2,.int .i64 b.2.1,.int .i64 b.2.2.1,.int .i64 b.2.2.2]
def nJ{w:World}{g o:Nat}{cs:LV}{τ:TypeId}(hr:Row w g cs τ){v:Value}(h:cs[o]? =some v):af w (dU g o) 0 [v]:=hr.cg (o:=o) (λj hj=>by
 match j,hj with
 |0,_=>exact h)
def sh{w:World}{g o:Nat}{cs:LV}{τ:TypeId}(hr:Row w g cs τ){x y z:Value}(h:cs[o]? =some x)(h1:cs[o+1]? =some y)(h2:cs[o+2]? =some z):af w (dU g o) 0 [x,y,z]:=hr.cg (o:=o) (λj hj=>by
 match j,hj with
 |0,_=>exact h
 |1,_=>exact h1
 |2,_=>exact h2)
def ahH{a:Int}(h:bT a):ak (Int.tdiv (if 0>a then 0 else a) 2)=max a 0 / 2:=by
 have e:(if 0>a then 0 else a)=max a 0:=by split<;>omega
 unfold bT at h;rw [e,qT ab,wI]
def amQ(a:Int):(if 0>a then 0 else a)=max a 0:=by split<;>omega
def RV(aE:Ce)(wd h:Int)(hw:bT wd)(w:World):ah 104 #[eg aE,wd,h] w λe w'=>e=(qS (k8 aE wd h))/\Ext w w':=by
 apply Wn.vc;rw [ahH hw,amQ h];intro w0 e0 w1 e1 w2 e2 w3 e3;have x0:=aT e0;have z0:=eN e0;have r0:Row w0 w (dO aE) ic:=Row.nw e0;have x1:=aT e1;have z1:=eN e1;have x3:Ext w1 w3:=(aT e2).ag e3 (aD _);have z3:=Db e2 e3;have cn:=x1.tr (x3.tr (Ext.dr w3));have zd:=mN w3;constructor
 all_goals
  refine (vr aE (max wd 0 / 2,0,max wd 0 / 2) w3.drew).mono ?_
  rintro e w4 ⟨rfl,x4⟩
  have z4:=x4.size
  refine ⟨_,_,_,rfl,x4.heap ab,x4.heap ab,x4.heap ab,Lo.wv (r0.ext (cn.tr x4)),(jt aE (max wd 0 / 2,max h 0,max wd 0 / 2) w4).mono ?_⟩
  rintro e w8 ⟨rfl,x8⟩
  have z8:=x8.size
  exact ⟨_,_,_,rfl,x8.heap ab,x8.heap ab,x8.heap ab,λcU Km=>⟨rfl,(x0.tr (cn.tr (x4.tr x8))).ag Km ab⟩⟩
structure dE where
 aE:Ce
 speed:Ce
 wd:Int
 ht:Int
 iE:Bool
abbrev jQ(b:dE):LV:=[.int .i64 b.aE.1,.int .i64 b.aE.2.1,.int .i64 b.aE.2.2,.int .i64 b.speed.1,.int .i64 b.speed.2.1,.int .i64 b.speed.2.2,.int .i64 b.wd,.int .i64 b.ht,.bool b.iE]
abbrev Dp(b:dE):Value:=.agg #[b.aE.1,b.aE.2.1,b.aE.2.2,b.speed.1,b.speed.2.1,b.speed.2.2,b.wd,b.ht,.bool b.iE]
abbrev AT:TypeId:=70
def dE.box(b:dE):Bx:=k8 b.aE b.wd b.ht
def kD(b:dE)(hw:bT b.wd)(w:World):ah 48 #[Dp b] w λe w'=>e=(qS b.box)/\Ext w w':=by apply H0.vc;intro w0 e0 w1 e1;have x1:Ext w w1:=(aT e0).bg e1;have z0:=eN e0;have z1:=eN e1;refine (RV b.aE b.wd b.ht hw w1).mono ?_;rintro e w2 ⟨rfl,x2⟩;have z2:=x2.size;exact ⟨_,_,_,_,_,_,rfl,x2.heap ab,x2.heap ab,λw9 e9=>⟨rfl,(x1.tr x2).ag e9 ab⟩⟩
def zy(v:Ce)(w:World):ah 101 #[eg v] w λe w'=>e=(eg (bw v))/\Ext w w':=by
 apply afn.vc;intro w0 e0 w1 e1;have x0:=aT e0;have z0:=eN e0;have r0:Row w0 w (dO v) ic:=Row.nw e0;have x1:Ext w0 w1.drew:=(aT e1).drew;have z1:w1.drew.heap.size=w0.heap.size+1:=by show w1.heap.size=_;rw [e1];simp
 have r1:=r0.ext x1;refine (ph v.1 w1.drew).mono ?_;rintro e w2 ⟨rfl,rfl⟩;refine ⟨_,rfl,rfl,rfl,nJ r1 rfl,nJ r1 rfl,(ph v.2.1 w1.drew).mono ?_⟩;rintro e w4 ⟨rfl,rfl⟩;refine ⟨_,rfl,rfl,rfl,nJ r1 rfl,(ph v.2.2 w1.drew).mono ?_⟩;rintro e w6 ⟨rfl,rfl⟩;exact ⟨_,rfl,rfl,rfl,λw8 e8=>⟨by unfold bw;rfl,(x0.tr x1).ag e8 ab⟩⟩
def Bn(a b c d:Int)(w:World):ah 293 #[a,b,c,d] w λe w'=>e=Value.int .i64 (if a=b then c else d)/\w'=w:=by apply M7.vc;exact Br.mk (λh=>⟨by rw [if_pos (by simpa using h)],rfl⟩) (λh=>⟨by rw [if_neg (by simpa using h)],rfl⟩)
def Wo(b:Bx)(w:World):ah 266 #[qS b] w λe w'=>∃lo hi:Ce,e=Value.tuple #[eg lo,eg hi,.bool (wH b)]/\(wH b=true->lo=bw b.1/\hi=gI b)/\Ext w w':=by
 apply Wp.vc;intro w0 e0 w1 e1 w2 e2;have x0:=aT e0;have z0:=eN e0;have r0:Row w0 w (pK b) fQ:=Row.nw e0;have x1:=aT e1;have z1:=eN e1;have x2:=aT e2;have z2:=eN e2;refine (zy b.1 w2).mono ?_;rintro e w3 ⟨rfl,x3⟩;have z3:=x3.size;refine ⟨_,_,_,rfl,x3.heap ab,x3.heap ab,x3.heap ab,λw7 e7 w8 e8=>(jt b.2 (-1,-1,-1) w8).mono ?_⟩;have x8:Ext w3 w8:=(aT e7).ag e8 (aD _);have z8:=Db e7 e8;have r8:Row w8 w3 (dO (bw b.1)) qD:=by rw [e8];exact Row.set (by rw [e7];exact Row.new w3 [_,_,_] _) _
 rintro e w9 ⟨rfl,x9⟩;have z9:=x9.size;refine ⟨_,_,_,rfl,x9.heap ab,x9.heap ab,x9.heap ab,x9.heap ab,(zy (jK b.2 (-1,-1,-1)) w9).mono ?_⟩;rintro e bG ⟨rfl,cn⟩;have z13:=cn.size;refine ⟨_,_,_,rfl,cn.heap ab,cn.heap ab,cn.heap ab,cn.heap ab,λcJ yr du Zc=> ?_⟩;have cA:Ext bG du:=(aT yr).ag Zc (aD _);have z18:=Db yr Zc;have r18:Row du bG (dO (Bo b)) qD:=by rw [Zc];exact Row.set (by rw [yr];exact Row.new bG [_,_,_] _) _
 have ak3:=x9.tr (cn.tr cA);have Ub:=x0.tr (x1.tr (x2.tr (x3.tr (x8.tr ak3))));have rb:=r0.ext (x1.tr (x2.tr (x3.tr (x8.tr ak3))));have rl:=r8.ext ak3;refine ⟨λn x wr=>∃k:Nat,x=k/\k+n=3/\Ext du wr/\∀j:Nat,j<k->k9 b j=false,⟨3,rfl,rfl,rfl,rfl,rfl,0,rfl,rfl,Ext.cu _,λj hj=>by omega⟩,?_⟩;rintro n us x wr ⟨k,rfl,hk,xr,ht⟩;have zr:=xr.size;have xd:=Ext.dr wr;have zd:=mN wr;have wk:=nY (j:=k);refine Br.mk (λhb=>(dt b.1 k wr.drew).mono ?_) (λhb=>(Bn b.1.1 b.2.1 (bw b.1).1 (Bo b).1 wr.drew).mono ?_)
 ·replace hb:=nG hb;rintro e cV ⟨rfl,dT⟩;have z25:=dT.size;have x25d:=xr.tr (xd.tr dT);refine ⟨_,rfl,dT.heap ab,dT.heap ab,dT.heap ab,dT.heap ab,dT.heap ab,sh (rb.ext x25d) rfl rfl rfl,(dt b.2 k cV).mono ?_⟩;rintro e eB ⟨rfl,fD⟩;have z27:=fD.size;have next:k9 b k=false->∀j:Nat,j<k+1->k9 b j=false:=λh j hj=>by
   by_cases q:j<k
   ·exact ht j q
   ·rw [show j=k from by omega];exact h
  refine ⟨_,rfl,fD.heap ab,fD.heap ab,fD.heap ab,fD.heap ab,fD.heap ab,Br.mk (λh1=>(Bp _ eB).mono ?_) (λh1=> ?_)⟩
  ·rintro e dX ⟨rfl,rfl⟩;have h1:=dn h1;refine ⟨_,rfl,rfl,rfl,rfl,rfl,rfl,Br.mk (λh2=>λgA e31 lA Uc=> ?_) (λh2=> ?_)⟩
   ·have h2:=dn h2;have hth:k9 b k=true:=by unfold k9;rw [h1,<-h1,h2];simp [h1]
    have hsp:wH b=false:=by
     have h3:(k:Int)=0\/(k:Int)=1\/(k:Int)=2:=by omega
     unfold wH;rcases h3 with q|q|q<;>(rw [q] at hth;rw [hth];simp)
    refine ⟨(0,0,0),(0,0,0),by rw [hsp],λq=>absurd (hsp.symm.trans q) aG,((Ub.tr (x25d.tr fD)).ag e31 ab).ag Uc ab⟩
   ·have h2:=dn h2;exact ⟨n-1,by omega,rfl,rfl,rfl,rfl,rfl,k+1,wk,by omega,x25d.tr fD,next (by unfold k9;simp [h2])⟩
  ·have h1:=dn h1;exact ⟨n-1,by omega,rfl,rfl,rfl,rfl,rfl,k+1,wk,by omega,x25d.tr fD,next (by unfold k9;simp [h1])⟩
 ·replace hb:=nT hb;have hsp:wH b=true:=by unfold wH;rw [show k9 b 0=false from ht 0 ab,show k9 b 1=false from ht 1 ab,show k9 b 2=false from ht 2 ab];rfl
  have rb':=rb.ext (xr.tr xd);have rl':=rl.ext (xr.tr xd);have rt':=r18.ext (xr.tr xd);rintro e eP ⟨rfl,rfl⟩;refine ⟨_,rfl,rfl,rfl,rfl,rfl,rfl,nJ rt' rfl,nJ rl' rfl,nJ rb' rfl,nJ rb' rfl,nJ rt' rfl,nJ rl' rfl,nJ rb' rfl,nJ rb' rfl,(Bn b.1.2.1 b.2.2.1 (bw b.1).2.1 (Bo b).2.1 wr.drew).mono ?_⟩;rintro e ki ⟨rfl,rfl⟩;refine ⟨_,rfl,rfl,rfl,rfl,rfl,rfl,nJ rt' rfl,nJ rl' rfl,nJ rb' rfl,nJ rb' rfl,(Bn b.1.2.2 b.2.2.2 (bw b.1).2.2 (Bo b).2.2 wr.drew).mono ?_⟩;rintro e iN ⟨rfl,rfl⟩;refine ⟨_,rfl,rfl,rfl,rfl,rfl,rfl,λkP e39 jS TS iR e41 kO Za=> ?_⟩;have r39:Row kP bG (dO ((gI b).1,(Bo b).2.1,(Bo b).2.2)) qD:=by rw [e39];exact Row.set rt' [_,_,_]
  have r40:Row jS bG (dO ((gI b).1,(gI b).2.1,(Bo b).2.2)) qD:=r39.st TS;have r41:Row iR bG (dO (gI b)) qD:=r40.st e41;have r42:Row kO bG (dO (gI b)) qD:=(r41.ext (Ext.dr iR)).same (by rw [Za];exact setRow_other _ _ _ _ ab);have ow:Ext w kO:=(((((Ub.tr (xr.tr xd)).ag e39 ab).ag TS ab).ag e41 ab).drew).ag Za ab;exact ⟨Lo.wv r42,λiH e43=>⟨bw b.1,gI b,by rw [hsp];rfl,λ_=>⟨rfl,rfl⟩,ow.ag e43 ab⟩⟩
def RW(b:Bx)(w:World):ah 105 #[qS b] w λe w'=>e=(qS (iZ b))/\Ext w w':=by
 apply M8.vc;intro w0 e0 w1 e1;have x0:=aT e0;have z0:=eN e0;have r0:Row w0 w (pK b) fQ:=Row.nw e0;have x1:Ext w0 w1.drew:=(aT e1).drew;have z1:w1.drew.heap.size=w0.heap.size+1:=by show w1.heap.size=_;rw [e1];simp
 have r1:=r0.ext x1;refine (Jo b.1.2.1 1 w1.drew).mono ?_;rintro e w2 ⟨rfl,rfl⟩;refine ⟨_,rfl,rfl,rfl,sh r1 rfl rfl rfl,sh r1 rfl rfl rfl,(jd b.1 1 (lG b.1.2.1 1) w1.drew).mono ?_⟩;rintro e w4 ⟨rfl,x4⟩;have z4:=x4.size;refine ⟨_,_,_,rfl,x4.heap ab,x4.heap ab,sh (r1.ext x4) rfl rfl rfl,(jd b.2 1 b.1.2.1 w4).mono ?_⟩;rintro e w8 ⟨rfl,x8⟩;have z8:=x8.size;exact ⟨_,_,_,rfl,x8.heap ab,x8.heap ab,λcU Km=>⟨rfl,(x0.tr (x1.tr (x4.tr x8))).ag Km ab⟩⟩
abbrev pj(b:Bx):List (LV):=(kr b).map λc=> [eg c]
abbrev aaV(g:Nat):Value:=.func (.func 265) #[] #[g]
def WB(b:Bx)(g:Nat)(W0:World)(hb:Row W0 g (pK b) fQ):Iter Tryz.prog (aaV g) W0 (λi=>i=g) (pj b):=by
 refine ⟨⟨_,_,_,rfl,by kernel_rfl⟩,?_⟩;intro y B J Jx F0 W hB hsJ hsX yt hRd hround h0;refine c9 (by kernel_rfl) (by rfl) ?_;apply LK.vc;have hbW:Row W g (pK b) fQ:=hb.same (hRd g rfl).2.2;refine ⟨_,_,_,_,_,_,Lo.wv hbW,(Wo b W).mono ?_⟩;rintro e w6 ⟨lo,hi,rfl,hsp,x6⟩;refine ⟨_,_,_,_,_,_,_,rfl,λbJ vE eu pQ cP HM cJ yr=> ?_⟩;have bW:=aT vE;have Y9:=eN vE;have cZ:Ext w6 cJ:=(((bW.bg pQ).ag HM (aD _)).ag yr ab);have z17:cJ.heap.size=w6.heap.size+2:=by rw [yr,setRow_size,HM,setRow_size,pQ];simp [Y9]
 have xW:=x6.tr cZ;have zW:=xW.size;obtain ⟨Q,hQ⟩:∃Q:Nat->World->Prop,Q=λk wr=>∃F,J k F wr/\∀i,F i->(F0 i\/cJ.heap.size<=i):=⟨_,rfl⟩
 have z6:=x6.size;have hF0:∀i,F0 i->i<w6.heap.size:=λi hi=>kB (yt _ _ _ h0 i hi) z6
 have init:Q 0 cJ:=by rw [hQ];exact ⟨F0,hsJ _ _ _ _ h0 (Below.mono xW hB) λi hi=>xW.heap (yt _ _ _ h0 i hi),λi hi=> .inl hi⟩
 have round:∀{k:Nat} {wr:World} {x:LV},cJ.heap.size<=wr->(pj b)[k]? =some x->Q k wr->cL Tryz.prog y x wr λe w'=>cJ.heap.size<=w'.heap.size/\(∀i,i<cJ.heap.size->¬F0 i->w'.heap[i]? =wr.heap[i]?)/\((e=true/\Q (k+1) w')\/(e=false/\∃F',Jx () F' w')):=λ{k wr x} hz hx h=>by
  rw [hQ] at h ⊢;obtain ⟨F,hJ,h2⟩:=h;refine dG (hround _ _ _ _ hx hJ) ?_;have dc:∀{w':World} {F2:Nat->Prop},Step F F2 wr w'->cJ.heap.size<=w'.heap.size/\(∀i,i<cJ.heap.size->¬F0 i->w'.heap[i]? =wr.heap[i]?):=λg7=>⟨by have:=g7.size;omega,λi hi hn=>g7.same i ab λhf=>(h2 i hf).elim hn ab⟩
  rintro e w' (⟨rfl,F2,Ul,g7⟩|⟨rfl,F2,Ul,g7⟩)
  ·refine ⟨(dc g7).1,(dc g7).2,.inl ⟨rfl,F2,Ul,λi hi=> ?_⟩⟩;rcases g7.sub i hi with hf|hf
   ·exact h2 i hf
   ·exact .inr ab
  ·exact ⟨(dc g7).1,(dc g7).2,.inr ⟨rfl,F2,Ul⟩⟩
 have fin:∀{wr:World},Q (pj b).length wr->∃F',J (pj b).length F' wr:=λh=>by rw [hQ] at h;obtain ⟨F,hJ,-⟩:=h;exact ⟨F,hJ⟩
 have n6:¬F0 w6:=λq=>by have:=hF0 _ q;omega
 have Cc:¬F0 bJ:=λq=>by have:=hF0 _ q;omega
 have Y4:cJ.heap.size=w6.heap.size+2:=z17
 cases hspan:wH b with
 |false=>
  have DS:pj b=[]:=by unfold pj kr;rw [hspan];rfl
  rw [DS] at fin ⊢;exact ⟨λn x wr=>wr=cJ,⟨0,rfl,rfl,rfl⟩,λn us x wr hwr=>by
   subst hwr;exact Br.mk (λh=>by cases h) (λ_=>⟨⟨_,rfl⟩,.inl (fin init)⟩)⟩
 |true=>
  obtain ⟨rfl,rfl⟩:=hsp hspan;have hc:kr b=K0 (bw b.1) (gI b):=by unfold kr;rw [hspan];rfl
  have HK:∀{jy jz jx:Nat},jy<cB (bw b.1).2.1 (gI b).2.1->jz<cB (bw b.1).2.2 (gI b).2.2->jx<cB (bw b.1).1 (gI b).1->
    (pj b)[(jy*cB (bw b.1).2.2 (gI b).2.2+jz)*cB (bw b.1).1 (gI b).1+jx]? =some [eg ((bw b.1).1+(jx:Int),(bw b.1).2.1+(jy:Int),(bw b.1).2.2+(jz:Int))]:=λh1 h2 h3=>by
   unfold pj;rw [hc,aV,UN _ _ h1 h2 h3];rfl
  have dD:(pj b).length=cB (bw b.1).2.1 (gI b).2.1*cB (bw b.1).2.2 (gI b).2.2*cB (bw b.1).1 (gI b).1:=by unfold pj;rw [aN,hc,aaR]
  obtain ⟨⟨a1,a2⟩,⟨a3,a4⟩,a5,a6⟩:=vt b.1;obtain ⟨⟨b1,b2⟩,⟨b3,b4⟩,b5,b6⟩:=UK b;generalize pj b=xs at*;generalize bw b.1=a at*;generalize gI b=z at*;have hny:∀j:Nat,a.2.1+(j:Int)<=z.2.1 ↔ j<cB a.2.1 z.2.1:=λj=>by unfold cB;omega
  have hnz:∀j:Nat,a.2.2+(j:Int)<=z.2.2 ↔ j<cB a.2.2 z.2.2:=λj=>by unfold cB;omega
  have Eh:∀j:Nat,a.1+(j:Int)<=z.1 ↔ j<cB a.1 z.1:=λj=>by unfold cB;omega
  have hmy:cB a.2.1 z.2.1<=4294967297:=by unfold cB;omega
  have hmz:cB a.2.2 z.2.2<=4294967297:=by unfold cB;omega
  have hmx:cB a.1 z.1<=4294967297:=by unfold cB;omega
  generalize cB a.2.1 z.2.1=ny at*;generalize cB a.2.2 z.2.2=nz at*;generalize cB a.1 z.1=nx at*;refine ⟨λn v wr=>∃jy:Nat,v=a.2.1+jy/\jy+n=ny/\Q (jy*nz*nx) wr/\cJ.heap.size<=wr,⟨ny,rfl,rfl,0,by omega,by omega,by rw [Nat.zero_mul,Nat.zero_mul];exact init,aD _⟩,?_⟩;rintro n2 us3 v ey ⟨jy,rfl,hjy,hq,zr⟩;refine Br.mk (λ_=>Br.mk (λhc1=> ?_) (λhc1=> ?_)) (λh=>by cases h)
  ·replace hc1:=nG hc1;have ly:=(hny jy).1 hc1;refine ⟨λn v wr=>∃jz:Nat,v=a.2.2+jz/\jz+n=nz/\Q ((jy*nz+jz)*nx) wr/\cJ.heap.size<=wr,⟨nz,rfl,rfl,0,by omega,by omega,by rw [Nat.add_zero];exact hq,zr⟩,?_⟩;rintro EC aDA v gQ ⟨jz,rfl,hjz,hq,zr⟩;apply Br.mk<;>intro oK
   ·replace oK:=nG oK;have lz:=(hnz jz).1 oK;refine ⟨λn v wr=>∃jx:Nat,v=a.1+jx/\jx+n=nx/\Q ((jy*nz+jz)*nx+jx) wr/\cJ.heap.size<=wr,⟨nx,rfl,rfl,0,by omega,by omega,by rw [Nat.add_zero];exact hq,zr⟩,?_⟩;rintro n18 aDB v iq ⟨jx,rfl,hjx,hq,zr⟩;apply Br.mk<;>intro VN
    ·replace VN:=nG VN;have lx:=(Eh jx).1 VN;refine dG (round zr (HK ly lz lx) hq) ?_;have wk:ak (a.1+(jx:Int)+1)=a.1+((jx+1:Nat):Int):=by rw [wI];omega
     rintro e jN ⟨z36,k36,q⟩;have k1:=k36 w6 ab n6;have k2:=k36 bJ ab Cc;rcases q with ⟨rfl,B4⟩|⟨rfl,Ra⟩
     ·exact ⟨true,rfl,k1,k2,Br.mk (λh=>by cases h) (λ_=>⟨n18-1,by omega,rfl,rfl,jx+1,wk,by omega,B4,z36⟩)⟩
     ·exact ⟨false,rfl,k1,k2,Br.mk (λ_=>⟨⟨_,rfl⟩,.inr Ra⟩) (λh=>by cases h)⟩
    ·replace VN:=nT VN;have e:jx=nx:=by have:=mt (Eh jx).2 VN;omega
     subst e;have wk:ak (a.2.2+(jz:Int)+1)=a.2.2+((jz+1:Nat):Int):=by rw [wI];omega
     refine ⟨EC-1,by omega,rfl,rfl,jz+1,wk,by omega,?_,zr⟩;have:(jy*nz+(jz+1))*jx=(jy*nz+jz)*jx+jx:=by rw [<-Nat.add_assoc,oX _ 1,Nat.one_mul]
     rw [this];exact hq
   ·replace oK:=nT oK;have e:jz=nz:=by have:=mt (hnz jz).2 oK;omega
    subst e;have wk:ak (a.2.1+(jy:Int)+1)=a.2.1+((jy+1:Nat):Int):=by rw [wI];omega
    refine ⟨n2-1,by omega,rfl,rfl,jy+1,wk,by omega,?_,zr⟩;rw [oX jy 1,Nat.one_mul];exact hq
  ·replace hc1:=nT hc1;have e:jy=ny:=by have:=mt (hny jy).2 hc1;omega
   subst e;rw [<-dD] at hq;exact ⟨⟨_,rfl⟩,.inl (fin hq)⟩
def R4(b:Bx)(w:World):ah 215 #[qS b] w λe w'=>e=(aaV w)/\Row w' w (pK b) fQ/\Ext w w':=by apply R5.vc;intro w0 e0;exact ⟨rfl,by rw [e0];exact Row.new w [_,_,_,_,_,_] _,(aT e0)⟩
def Wy{b:Bx}{n:Nat}{x y z:Int}(h:(pj b)[n]? =some [.agg #[.int .i64 x,.int .i64 y,.int .i64 z]]):(kr b)[n]? =some (x,y,z):=by grind
def Nl{b:Bx}{c:Ce}(h:c ∈ kr b):qC c:=by
 unfold kr at h;split at h
 ·have h1:=Nj h;have h2:=vt b.1;have h3:=UK b;unfold qC bT;omega
 ·cases h
def Wz{v:Value}{V:Ce->Int}{w:World}(hV:Tl v V w)(hv:kU v=[])(b:Bx)(fp:Value)(hfp:kU fp=[])(p:Int->Bool)(hp:∀(x:Int)(w':World),cL Tryz.prog fp [.int .i64 x] w' λe w''=>e=Value.bool (p x)/\Ext w' w''):
  ah 153 #[v,qS b,fp] w λe w'=>∃c:Ce,e=Value.tuple #[eg c,.bool (g9 V b p)]/\Ext w w':=by
 apply R6.vc;rw [hv,qJ];intro w0 e0 w1 e1;rw [hfp,qJ];intro w2 e2 w3 e3 w4 e4;have x0:=aT e0;have z0:=eN e0;have x1:=aT e1;have z1:=eN e1;have x2:=aT e2;have z2:=eN e2;have r2:∃τ,Row w2 w1 [fp] τ:=⟨_,by rw [e2];exact Row.new w1 [_] _⟩;have x3:=aT e3;have z3:=eN e3;have x4:=aT e4;have z4:=eN e4;have AW:=x0.tr (x1.tr (x2.tr (x3.tr x4)));obtain ⟨τ2,r2⟩:=r2;refine (R4 b w4).mono ?_;rintro e w5 ⟨rfl,hb5,x5⟩;have z5:=x5.size;have l5:=hb5.lt;have QH:=AW.tr x5;have r5:=r2.ext (x3.tr (x4.tr x5));refine ⟨_,rfl,x5.heap ab,x5.heap ab,x5.heap ab,x5.heap ab,x5.heap ab,pj b,λi=>i=w4.heap.size,λ_=>False,
  λn F x y z bb w'=>(∀i,¬F i)/\(∀c ∈(kr b).take n,p (V c)=false)/\Mod (λi=>w5.heap.size<=i) w5 w',
  λo F x y z bb w'=>(∀i,¬F i)/\bb=g9 V b p/\Mod (λi=>i=w2.heap.size\/i=w3.heap.size\/w5.heap.size<=i) w5 w',?_,?_,?_,λn F x y z bb w' h i hi=>(h.1 i hi).elim,λo F x y z bb w' h i hi=>(h.1 i hi).elim,λi hi=> ?_,λyP yF=> ?_,?_,?_,?_⟩
 ·intro x hx;obtain ⟨c,-,rfl⟩:=aY.1 hx;exact ⟨_,_,_,rfl⟩
 ·rintro n F x y z bb eU ey ⟨h1,h2,h3⟩ lL -;exact ⟨h1,h2,h3.tr ⟨lL.os,lL.tape,lL.output,lL.size,λi hi hn=>lL.block i (Js hn)⟩ λi hi=> .inl hi⟩
 ·rintro o F x y z bb eU ey ⟨h1,h2,h3⟩ lL -;exact ⟨h1,h2,h3.tr ⟨lL.os,lL.tape,lL.output,lL.size,λi hi hn=>lL.block i (Js hn)⟩ λi hi=> .inl (.inr (.inr hi))⟩
 ·subst hi;exact ⟨by omega,id,by omega,by omega,by omega,by omega,by omega,trivial⟩
 ·exact ⟨WB b _ yP (hb5.same (yF.ext.block _ ab)),rfl,rfl,rfl,λi h=>h,λc hc=>by simp at hc,Mod.aH yF.ext⟩
 ·rintro n F us HN vh nE b52 iT qx mz qy hx hI Cj e58 yO Z3;have qG:Ext qy yO:=(aT e58).ag Z3 (aD _);have z59:yO.heap.size=qy.heap.size+1:=by rw [Z3,setRow_size,e58];simp
  have z56:=hI.2.2.size;refine ⟨qG,λnQ gR adX=> ?_⟩;obtain ⟨hF,lq,hM⟩:=adX;have zr:=gR.size;have hc:=Wy hx;have eV:=aU hc;have z57:=hM.size;have ht:(kr b).take (n+1)=(kr b).take n++ [(iT,qx,mz)]:=by rw [dP,hc];rfl
  obtain ⟨D,hD1,hD2⟩:=hV;refine dG (hD2 nQ.drew (λi hi=> ?_) (iT,qx,mz) (Nl eV)) ?_
  ·have:=hD1 i hi;have:=QH.size;exact (hM.same i ab ab).trans (QH.heap ab)
  rintro e nN ⟨rfl,my⟩;have zd:=mN nQ;have z60:=my.size;have adY:=hM.trans (Mod.aH ((Ext.dr nQ).tr my));refine ⟨_,rfl,my.heap ab,my.heap ab,my.heap ab,my.heap ab,my.heap ab,my.heap ab,Lo.wv (adY.row r5 ab),dG (hp _ nN) ?_⟩;rintro e jk ⟨rfl,ov⟩;have z62:=ov.size;have QI:=adY.trans (Mod.aH ov);refine ⟨_,rfl,ov.heap ab,ov.heap ab,ov.heap ab,ov.heap ab,ov.heap ab,ov.heap ab,Br.mk (λhq=>λtX Zz Ix ZA=> ?_) (λhq=> ?_)⟩
  ·have hq:p (V (iT,qx,mz))=true:=hq;have ak7:g9 V b p=true:=List.any_eq_true.2 ⟨_,eV,hq⟩;have auh:Ix.heap.size=jk.heap.size:=by rw [ZA,setRow_size,Zz,setRow_size]
   have ak8:∀i,i≠w2.heap.size->i≠w3.heap.size->Ix.heap[i]? =jk.heap[i]? :=λi h1 h2=>by rw [ZA,setRow_other _ _ _ _ h2,Zz,setRow_other _ _ _ _ h1]
   have adZ:Mod (λi=>i=w2.heap.size\/i=w3.heap.size) jk Ix:=⟨by rw [ZA,Zz];rfl,by rw [ZA,Zz];rfl,by rw [ZA,Zz];rfl,by omega,λi _ hn=>ak8 i (λq=>hn (.inl q)) (λq=>hn (.inr q))⟩;refine ⟨rfl,λ_=>False,⟨rfl,rfl,rfl,λi h=>h,ak7.symm,(QI.mono λi _ h=> .inr (.inr h)).trans (adZ.mono λi _ h=>h.elim .inl λh=> .inr (.inl h))⟩,?_⟩;have Hz:=((Mod.aH (F:=λi=>i=w2.heap.size\/i=w3.heap.size) (((Ext.dr nQ).tr my).tr ov))).trans adZ;refine Step.late ⟨λi hi=> ?_,Hz.size,λi hi hn=>Hz.same i hi λq=>hn (.inr ?_)⟩
   ·rcases hi with h|h
    ·exact h.elim
    ·exact .inl (.inr h)
   ·rcases q with rfl|rfl<;>simp
  ·have hq:p (V (iT,qx,mz))=false:=hq;have QJ:=((Ext.dr nQ).tr my).tr ov;refine ⟨λ_=>False,⟨rfl,rfl,rfl,λi h=>h,λc hc=> ?_,QI⟩,Step.late ⟨λi hi=> ?_,QJ.size,λi hi _=>QJ.block i hi⟩⟩
   ·rw [ht,c5] at hc;rcases hc with hc|hc
    ·exact lq c hc
    ·rw [gU.1 hc];exact hq
   ·rcases hi with h|h
    ·exact h.elim
    ·exact .inl (.inr h)
 ·rintro F us pP oy oz b73 nt ⟨hF,lq,hM⟩ Ud sN ZB kL e76;have z74:=hM.size;have dD:(pj b).length=(kr b).length:=by unfold pj;simp
  rw [dD,ja] at lq;have ak7:g9 V b p=false:=by unfold g9;rw [List.any_eq_false];exact λc hc=>by rw [lq c hc];decide
  refine ⟨by rw [e76,setRow_other _ _ _ _ ab,ZB,setRow_other _ _ _ _ ab];exact Ud,λvd gR=>⟨(0,0,0),by rw [ak7],?_⟩⟩;have wh:Ext w nt:=hM.ext QH λi hi=>by have:=QH.size;omega
  have yB:Ext w kL:=(wh.ag ZB ab).ag e76 ab;exact (Mod.sm gR).ext yB λi hi=>by have:=QH.size;omega
 ·rintro F us yC vF tN b83 LS ⟨hF,rfl,hM⟩ Ud;refine ⟨Ud,λw85 gR=>⟨(yC,vF,tN),rfl,?_⟩⟩;have B8:Ext w LS:=hM.ext QH λi hi=>by have:=QH.size;omega
  exact (Mod.sm gR).ext B8 λi hi=>by have:=QH.size;omega
def FJ{v:Value}{V:Ce->Int}{w:World}(hV:Tl v V w)(hv:kU v=[])(b:Bx)(fp:Value)(hfp:kU fp=[])(p:Int->Bool)(hp:∀(x:Int)(w':World),cL Tryz.prog fp [x] w' λe w''=>e=Value.bool (p x)/\Ext w' w''):
  ah 102 #[v,qS b,fp] w λe w'=>e=Value.bool (g9 V b p)/\Ext w w':=by
 apply WD.vc;intro w0 e0;have x0:=aT e0;have z0:=eN e0;refine (Wz (hV.ext x0) hv b fp hfp p hp).mono ?_;rintro e w1 ⟨c,rfl,x1⟩;have z1:=x1.size;refine ⟨_,_,_,_,rfl,x1.heap ab,λw6 e6 w7 e7=>⟨rfl,(x0.tr x1).tr ((aT e6).ag e7 (aD _))⟩⟩
def od{v:Value}{V:Ce->Int}{w:World}(hV:Tl v V w)(hv:kU v=[])(b:Bx):ah 46 #[v,qS b] w λe w'=>e=Value.bool (g9 V b aC)/\Ext w w':=by
 apply H3.vc;intro w0 e0;have x0:=aT e0;have z0:=eN e0;refine (FJ (hV.ext x0) hv b (.func (.func 103) #[] #[]) rfl aC λx w'=>c9 (by kernel_rfl) rfl ((qX x w').mono ?_)).mono ?_
 ·rintro e w'' ⟨rfl,rfl⟩;exact ⟨rfl,Ext.cu _⟩
 rintro e w1 ⟨rfl,x1⟩;exact ⟨_,rfl,x1.heap ab,rfl,x0.tr x1⟩
def mT{v:Value}{V:Ce->Int}{w:World}(hV:Tl v V w)(hv:kU v=[])(b:Bx):ah 49 #[v,qS b] w λe w'=>e=Value.bool (g9 V (iZ b) aC)/\Ext w w':=by apply K1.vc;intro w0 e0;have x0:=aT e0;have z0:=eN e0;refine (RW b w0).mono ?_;rintro e w1 ⟨rfl,x1⟩;refine ⟨_,_,_,_,_,_,rfl,x1.heap ab,(od (hV.ext (x0.tr x1)) hv (iZ b)).mono ?_⟩;rintro e w8 ⟨rfl,x8⟩;have z1:=x1.size;exact ⟨_,rfl,x8.heap ab,rfl,x0.tr (x1.tr x8)⟩
end Go.Proofs.YtkkkfkopcfdmaaaGreatDoor
