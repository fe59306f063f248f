import Derived.Test.YtalpkjfpmdpbiaaGreatDoorGQ
set_option linter.all false
namespace Go.Proofs.YtalpkjfpmdpbiaaGreatDoor
open Go Go.Vc Go.RowKit Go.Proofs
set_option maxRecDepth 100000
set_option maxHeartbeats 8000000
set_option linter.unusedVariables false
variable {R:Ending->World->Prop} {w:World} {a0 a1 a2 a3 a4 a5 a6 a7 a8 a9 aq ar av aI aJ aK aL aH bO eE ao ak aw dB gn gB gC gD fM gE db dR dO ln lO nv ym yn yp yq yt yu yw yx yy yz yA yB yC yD:Int}
def RQ.vc(h:
 Aw w #[aq,ar,av] 23 λw0=>
 Aw w0 #[af,af,af] 23 λw1=>
 ah 143 #[aq] w1.drew (Ri λx3 w2=>K2 w w0 w1.drew w2 (
 au w2 (lX w 2) 0 [av]/\au w2 (lX w 1) 0 [ar]/\ah 143 #[ar] w2 (Ri λx5 w4=>K2 w w0 w2 w4 (
 au w4 (lX w 2) 0 [av]/\ah 143 #[av] w4 (Ri λx7 w6=>K2 w w0 w4 w6 (
 Sw w6 w0 #[x3,x5,x7] λw8=>
 R (Value.agg #[x3,x5,x7]) w8))))))):ah 142 #[.agg #[aq,ar,av]] w R:=
 cq cc Tryz.func142 h
def RU.vc(h:
 R (Value.int .i64 (if 2147483648<(if (-2147483648)>a0 then (-2147483648) else a0) then 2147483648 else (if (-2147483648)>a0 then (-2147483648) else a0))) w):ah 143 #[a0] w R:=
 cq cc Tryz.func143 h
def Oi.vc(h:
 Aw w #[aq,ar,av] 23 λw0=>
 Aw w0 #[af,af,af,af,af,af,af,af,af,af,af,af,af,af,af,af,af,af] 161 λw1=>
 ah 141 #[(-1:Int),af,af,w] w1 (λe w2=>∃(x3 x4 x5:Int),e=Value.agg #[x3,x4,x5]/\
 ah 141 #[(1:Int),af,af,w] w2 (λe w6=>∃(x7 x8 x9:Int),e=Value.agg #[x7,x8,x9]/\
 ah 141 #[af,(-1:Int),af,w] w6 (λe bL=>∃(bR bU cz:Int),e=Value.agg #[bR,bU,cz]/\
 ah 141 #[af,(1:Int),af,w] bL (λe bY=>∃(bw cQ cR:Int),e=Value.agg #[bw,cQ,cR]/\
 ah 141 #[af,af,(-1:Int),w] bY (λe dA=>∃(cK du fT:Int),e=Value.agg #[cK,du,fT]/\
 ah 141 #[af,af,(1:Int),w] dA (λe ct=>∃(dc de da:Int),e=Value.agg #[dc,de,da]/\
 Wt ct ⟨w0,0,none⟩ 18/\(∀hZ,hZ=bc ct (bu w0) [x3,x4,x5,x7,x8,x9,bR,bU,cz,bw,cQ,cR,cK,du,fT,dc,de,da]->
 ∃(dp eS iO oT iN jB gx gf jy kF gk je kB nG jC lU kG jI:Int),au hZ (bu w0) 0 [dp,eS,iO,oT,iN,jB,gx,gf,jy,kF,gk,je,kB,nG,jC,lU,kG,jI]/\
 R (Value.agg #[dp,eS,iO,oT,iN,jB,gx,gf,jy,kF,gk,je,kB,nG,jC,lU,kG,jI]) hZ)))))))):ah 93 #[.agg #[aq,ar,av]] w R:=
 cq cc Tryz.func93 h
def G3.vc{c0:Addr}(h:
 Aw w #[af,af,af] 23 λw0=>
 ∃(x1:Int),ld w0.drew (ae (some c0) 0)=some (.int .i64 x1)/\
 ∃(x2:Int),ld w0.drew (ae (some c0) 1)=some (.int .i64 x2)/\
 ∃(x3:Int),ld w0.drew (ae (some c0) 2)=some (.int .i64 x3)/\
 ah 143 #[x1] w0.drew (Ri λx5 w4=>Kp w w0.drew w4/\
 au w4 (ae (some c0) 2) 0 [x3]/\au w4 (ae (some c0) 1) 0 [x2]/\ah 143 #[x2] w4 (Ri λx7 w6=>Kp w w4 w6/\
 au w6 (ae (some c0) 2) 0 [x3]/\ah 143 #[x3] w6 (Ri λx9 w8=>Kp w w6 w8/\
 ah 142 #[.agg #[(ai (x5+a0)),(ai (x7+a1)),(ai (x9+a2))]] w8 (G4 λbR bU cz bL=>Kp w w8 bL/\
 Sw bL w #[bR,bU,cz] λbY=>
 R (Value.agg #[bR,bU,cz]) bY))))):ah 141 #[a0,a1,a2,c0] w R:=
 cq cc Tryz.func141 h
def KE.vc(h:
 ah 94 #[a0] w (λe w0=>∃(b1:Bool),e=b1/\
 Br b1
 (R (2:Int) w0)
 (ah 134 #[a0] w0 (λe w2=>∃(b3:Bool),e=b3/\
 Br b3
 (R (5:Int) w2)
 (R (0:Int) w2))))):ah 89 #[a0] w R:=
 cq cc Tryz.func89 h
def KF.vc{a0:Value}(h:
 Aw w #[ao,ak,aw] 23 λw0=>
 ah 93 #[.agg #[ao,ak,aw]] w0 (λe w1=>∃(x2 x3 x4 x5 x6 x7 x8 x9 bq bR bU cz bW bw cQ cR cf cK:Int),e=Value.agg #[x2,x3,x4,x5,x6,x7,x8,x9,bq,bR,bU,cz,bW,bw,cQ,cR,cf,cK]/\Kp w w0 w1/\
 ((0:Int)<=3/\(3:Int)<((6:Nat):Int))/\∃(du fT eK:Int),(([x2,x3,x4,x5,x6,x7,x8,x9,bq,bR,bU,cz,bW,bw,cQ,cR,cf,cK]:LV).drop ((3:Int).toNat*3)).take 3=[.int .i64 du,.int .i64 fT,.int .i64 eK]/\
 dJ Tryz.prog a0 [.agg #[du,fT,eK]] w1 (Ri λde gp=>Kp w w1 gp/\
 ah 134 #[de] gp (Rb λb26 eh=>Kp w gp eh/\
 Br b26
 (R (Value.tuple #[(1:Int),true]) eh)
 (ah 188 #[.agg #[ao,ak,aw]] eh (Rs λsY jf=>Kp w eh jf/\
 ∃I29:Nat->Int->Int->World->Prop,
 (∃n30,aP [ao,ak,aw]/\I29 n30 (0) (7) jf)/\
 ∀(n30:Nat)(aio:Nat->Value)(jB gx:Int)(ly:World),I29 n30 jB gx ly->
 Br (decide (jB<((sY.n:Nat):Int)))
 (cA sY.a jB sY.n/\∃(kF gk je:Int),au ly (ae sY.a ((jB:Int).toNat*3)) 0 [kF,gk,je]/\
 Aw ly #[af,af,af] 23 λiU=>
 Sw iU ly #[kF,gk,je] λiV=>
 dJ Tryz.prog a0 [.agg #[kF,gk,je]] iV (Ri λlU kE=>K2 w ly iV kE (
 ah 140 #[lU] kE (Ri λjI ql=>K2 w ly kE ql (
 Br (jI>=0)
 (∃Ue,Ue<n30/\aP [ao,ak,aw]/\I29 Ue ((ai (jB+1))) ((if jI<gx then jI else gx)) ql)
 (∃Ue,Ue<n30/\aP [ao,ak,aw]/\I29 Ue ((ai (jB+1))) gx ql))))))
 (Br (gx==7)
 (R (Value.tuple #[af,false]) ly)
 (R (Value.tuple #[(ai (gx+1)),true]) ly)))))))):ah 186 #[a0,.agg #[ao,ak,aw]] w R:=
 cq ⟨[(5,⟨[(19,.int .i64),(6,.int .i64)],[],[]⟩)],[],[]⟩ Tryz.func186 h
def Oa.vc{a0:Value}(h:
 Aw w #[ao,ak,aw] 23 λw0=>
 dJ Tryz.prog a0 [.agg #[ao,ak,aw]] w0 (Ri λx2 w1=>Kp w w0 w1/\
 ah 94 #[x2] w1 (Rb λb4 w3=>Kp w w1 w3/\
 Br b4
 (ah 138 #[a0,.agg #[ao,ak,aw]] w3 (Rs λs6 w5=>Kp w w3 w5/\
 R s6 w5))
 (ah 134 #[x2] w3 (Rb λb8 w7=>Kp w w3 w7/\
 Br b8
 (ah 140 #[x2] w7.drew (Ri λbq w9=>Kp w w7.drew w9/\
 au w9 w 0 [ao,ak,aw]/\ah 139 #[a0,.agg #[ao,ak,aw],bq] w9 (Rs λeM cB=>Kp w w9 cB/\
 R eM cB)))
 (R (Value.slice none 0 0) w7)))))):ah 92 #[a0,.agg #[ao,ak,aw]] w R:=
 cq cc Tryz.func92 h
def KG.vc{a0:Value}(h:
 Aw w #[ao,ak,aw] 23 λw0=>
 ah 93 #[.agg #[ao,ak,aw]] w0 (λe w1=>∃(x2 x3 x4 x5 x6 x7 x8 x9 bq bR bU cz bW bw cQ cR cf cK:Int),e=Value.agg #[x2,x3,x4,x5,x6,x7,x8,x9,bq,bR,bU,cz,bW,bw,cQ,cR,cf,cK]/\Kp w w0 w1/\
 Aw w1 #[af,af,af,af,af,af,af,af,af,af,af,af,af,af,af,af,af,af] 161 λdY=>
 Wt dY ⟨w1,0,none⟩ 18/\Nb w1 w/\(∀ef,ef=bc dY (bu w1) [x2,x3,x4,x5,x6,x7,x8,x9,bq,bR,bU,cz,bW,bw,cQ,cR,cf,cK]->
 Aw ef.drew #[ao,ak,aw] 23 λct=>
 ∃l23:LV,Rd ct (aA (bu w1) (0) (6) 3) l23/\aF 24 3 ct ⟨(bu ef.drew.heap.size),1,1⟩ (6-0) l23/\∀(kO:Sl)(eh:World),aE 23 3 ct ⟨(bu ef.drew.heap.size),1,1⟩ (6-0) l23 kO eh->Kp w ct eh/\eh.heap[ef.drew.heap.size]? =ct.heap[ef.drew.heap.size]?/\
 ∃I26:Nat->Int->Sl->World->Prop,
 (∃n27,aP [ao,ak,aw]/\aP [ao,ak,aw]/\I26 n27 (0) ⟨none,0,0⟩ eh)/\
 ∀(n27:Nat)(ao9:Nat->Value)(iO:Int)(g7:Sl)(ik:World),I26 n27 iO g7 ik->
 Br (decide (iO<((kO.n:Nat):Int)))
 (cA kO.a iO kO.n/\∃(gx gf jy:Int),au ik (ae kO.a ((iO:Int).toNat*3)) 0 [gx,gf,jy]/\
 Aw ik #[af,af,af] 23 λnC=>
 Sw nC ik #[gx,gf,jy] λhX=>
 dJ Tryz.prog a0 [.agg #[gx,gf,jy]] hX (Ri λkB qP=>Kp w hX qP/\qP.heap[ef.drew.heap.size]? =hX.heap[ef.drew.heap.size]?/\Kp ik hX qP/\
 ah 89 #[kB] qP (Ri λjC iV=>Kp w qP iV/\iV.heap[ef.drew.heap.size]? =qP.heap[ef.drew.heap.size]?/\Kp ik qP iV/\
 Br (jC>0)
 (Aw iV #[gx,gf,jy] 23 λny=>
 aF 24 3 ny g7 1 [gx,gf,jy]/\∀(Uf:Sl)(jA:World),aE 23 3 ny g7 1 [gx,gf,jy] Uf jA->Kp w ny jA/\jA.heap[ef.drew.heap.size]? =ny.heap[ef.drew.heap.size]?/\K2 ik iV ny jA (
 ∃YN,YN<n27/\aP [ao,ak,aw]/\aP [ao,ak,aw]/\I26 YN ((ai (iO+1))) Uf jA))
 (∃YN,YN<n27/\aP [ao,ak,aw]/\aP [ao,ak,aw]/\I26 YN ((ai (iO+1))) g7 iV))))
 (R g7 ik)))):ah 87 #[a0,.agg #[ao,ak,aw]] w R:=
 cq ⟨[(4,⟨[(16,.int .i64),(5,.slice)],[],[]⟩)],[],[]⟩ Tryz.func87 h
def G5.vc(h:
 Aw w #[aq,ar,av] 23 λw0=>
 ah 93 #[.agg #[aq,ar,av]] w0 (λe w1=>∃(x2 x3 x4 x5 x6 x7 x8 x9 bq bR bU cz bW bw cQ cR cf cK:Int),e=Value.agg #[x2,x3,x4,x5,x6,x7,x8,x9,bq,bR,bU,cz,bW,bw,cQ,cR,cf,cK]/\Kp w w0 w1/\
 Aw w1 #[af,af,af,af,af,af,af,af,af,af,af,af,af,af,af,af,af,af] 161 λdY=>
 Wt dY ⟨w1,0,none⟩ 18/\Nb w1 w/\(∀ef,ef=bc dY (bu w1) [x2,x3,x4,x5,x6,x7,x8,x9,bq,bR,bU,cz,bW,bw,cQ,cR,cf,cK]->
 (0:Int)<=2/\2<=((6:Nat):Int)/\(0:Int)<=2/\(2:Int)<=2/\(0:Int)<=4/\4<=((6:Nat):Int)/\∃l22:LV,Rd ef.drew (aA (bu w1) ((4:Int).toNat) (6) 3) l22/\aF 24 3 ef.drew ⟨(aA (bu w1) (0) ((2:Int).toNat) 3),((2:Int).toNat-0),((2:Int).toNat-0)⟩ (6-(4:Int).toNat) l22/\∀(Cx:Sl)(fy:World),aE 23 3 ef.drew ⟨(aA (bu w1) (0) ((2:Int).toNat) 3),((2:Int).toNat-0),((2:Int).toNat-0)⟩ (6-(4:Int).toNat) l22 Cx fy->Kp w ef.drew fy/\
 R Cx fy))):ah 188 #[.agg #[aq,ar,av]] w R:=
 cq cc Tryz.func188 h
def Oj.vc{a0:Value}(h:
 Aw w #[ao,ak,aw] 23 λw0=>
 ah 93 #[.agg #[ao,ak,aw]] w0 (λe w1=>∃(x2 x3 x4 x5 x6 x7 x8 x9 bq bR bU cz bW bw cQ cR cf cK:Int),e=Value.agg #[x2,x3,x4,x5,x6,x7,x8,x9,bq,bR,bU,cz,bW,bw,cQ,cR,cf,cK]/\Kp w w0 w1/\
 ((0:Int)<=2/\(2:Int)<((6:Nat):Int))/\∃(du fT eK:Int),(([x2,x3,x4,x5,x6,x7,x8,x9,bq,bR,bU,cz,bW,bw,cQ,cR,cf,cK]:LV).drop ((2:Int).toNat*3)).take 3=[.int .i64 du,.int .i64 fT,.int .i64 eK]/\
 Aw w1 #[af,af,af] 23 λgp=>
 Sw gp w1 #[du,fT,eK] λfy=>
 dJ Tryz.prog a0 [.agg #[du,fT,eK]] fy (Ri λdZ eh=>K2 w w1 fy eh (
 ah 185 #[dZ] eh (Rb λb28 jf=>K2 w w1 eh jf (
 Br (!b28)
 (R (Value.slice none 0 0) jf)
 (Aw jf #[ao,ak,aw,dZ,du,fT,eK,(3:Int)] 71 λfP=>
 R (Value.slice (bu jf) 2 2) fP))))))):ah 138 #[a0,.agg #[ao,ak,aw]] w R:=
 cq cc Tryz.func138 h
def Wh.vc{a0:Addr}(h:
 ah 60 #[(4096:Int)] w (λe w0=>∃(p1:Option Addr),e=p1/\
 ∀w2,w2=w0.alloc (.cells #[p1,a0,.int .i64 (if 64<(if 1>a1 then 1 else a1) then 64 else (if 1>a1 then 1 else a1)),(0:Int),.func (.func 83) #[] #[],.slice none 0 0] 98)->
 R (Value.pointer (bu w0)) w2)):ah 40 #[a0,a1] w R:=
 cq cc Tryz.func40 h
def B2.vc{a0:Addr}(h:
 ∃(p0:Option Addr),ld w (ae (some a0) 1)=some (.pointer p0)/\
 R p0 w):ah 10 #[a0] w R:=
 cq cc Tryz.func10 h
def xK.vc{a0:Addr}(h:
 ∃(p0:Option Addr),ld w (ae (some a0) 0)=some (.pointer p0)/\
 ah 52 #[p0] w (λe w1=>∃(s2:Sl),e=s2/\
 R s2 w1)):ah 23 #[a0] w R:=
 cq cc Tryz.func23 h
def zS.vc{a0:Addr}{f1:Fn}{p1 q1:Array Value}(h:
 ((true=true/\Wr w (ae (some a0) 4) 1)/\(∀w0,w0=bc w (ae (some a0) 4) [.func f1 p1 q1]->
 R FX w0))):ah 17 #[a0,.func f1 p1 q1] w R:=
 cq cc Tryz.func17 h
def G6.vc{a0:Addr}(h:
 ∃(x0:Int),ld w (ae (some a0) 3)=some (.int .i64 x0)/\
 R x0 w):ah 29 #[a0] w R:=
 cq cc Tryz.func29 h
def B3.vc{a0:Addr}(h:
 ∃(s0:Sl),ld w (ae (some a0) 5)=some (.slice s0.a s0.n s0.c)/\
 (true=true/\Wr w (ae (some a0) 5) 1)/\(∀w1,w1=bc w (ae (some a0) 5) [.slice none 0 0]->
 R s0 w1)):ah 20 #[a0] w R:=
 cq cc Tryz.func20 h
def Ep.vc{a0:Addr}(h:
 Aw w #[ao,ak,aw] 23 λw0=>
 ∃(p1:Option Addr),ld w0.drew (ae (some a0) 1)=some (.pointer p1)/\
 ah 27 #[p1,.agg #[ao,ak,aw],a2] w0.drew (Ri λx3 w2=>Kp w w0.drew w2/\
 Br (x3==0)
 (ah 45 #[a0,.agg #[ao,ak,aw]] w2 (Rt λw4=>Kp w w2 w4/\
 R x3 w4))
 (R x3 w2))):ah 14 #[a0,.agg #[ao,ak,aw],a2] w R:=
 cq cc Tryz.func14 h
def Er.vc{a0:Addr}(h:
 Aw w #[ao,ak,aw] 23 λw0=>
 ∃(p1:Option Addr),ld w0 (ae (some a0) 1)=some (.pointer p1)/\
 ah 11 #[p1] w0 (Rv λv3 w2=>Kp w w0 w2/\
 ah 87 #[v3,.agg #[ao,ak,aw]] w2 (Rs λs5 w4=>Kp w w2 w4/\
 ∃I6:Nat->Int->World->Prop,
 (∃n7,aP [ao,ak,aw]/\I6 n7 (0) w4)/\
 ∀(n7:Nat)(us8:Nat->Value)(x9:Int)(bL:World),I6 n7 x9 bL->
 Br (decide (x9<((s5.n:Nat):Int)))
 (cA s5.a x9 s5.n/\∃(bU cz bW:Int),au bL (ae s5.a ((x9:Int).toNat*3)) 0 [bU,cz,bW]/\
 Aw bL #[af,af,af] 23 λcU=>
 Sw cU bL #[bU,cz,bW] λcY=>
 ∃(YO:Option Addr),ld cY.drew (ae (some a0) 0)=some (.pointer YO)/\
 ∃(cf:Int),ld cY.drew (ae (some a0) 3)=some (.int .i64 cf)/\
 dJ Tryz.prog v3 [.agg #[bU,cz,bW]] cY.drew (Ri λdu ft=>K2 w bL cY.drew ft (
 au ft (ae (some a0) 3) 0 [cf]/\au ft bL 0 [bU,cz,bW]/\au ft (ae (some a0) 0) 0 [.pointer YO]/\ah 89 #[du] ft (Ri λeK ef=>K2 w bL ft ef (
 au ef (ae (some a0) 3) 0 [cf]/\au ef bL 0 [bU,cz,bW]/\au ef (ae (some a0) 0) 0 [.pointer YO]/\ah 88 #[YO,.agg #[bU,cz,bW],(ai (cf+eK))] ef (Rb λb24 gp=>K2 w bL ef gp (
 au gp (ae (some a0) 3) 0 [cf]/\∃xq,xq<n7/\aP [ao,ak,aw]/\I6 xq ((ai (x9+1))) gp)))))))
 (R FX bL)))):ah 45 #[a0,.agg #[ao,ak,aw]] w R:=
 cq ⟨[(3,⟨[(16,.int .i64)],[],[]⟩)],[],[]⟩ Tryz.func45 h
def zT.vc{a0:Addr}(h:
 Aw w #[ao,ak,aw,dB] 71 λw0=>
 ∃(p1:Option Addr),ld w0.drew (ae (some a0) 1)=some (.pointer p1)/\
 ah 11 #[p1] w0.drew (Rv λv3 w2=>Kp w w0.drew w2/\
 au w2 (lX w 3) 0 [dB]/\au w2 w 0 [ao,ak,aw]/\dJ Tryz.prog v3 [.agg #[ao,ak,aw]] w2 (Ri λx5 w4=>Kp w w2 w4/\
 au w4 (lX w 3) 0 [dB]/\Br (x5 !=dB)
 (ah 14 #[a0,.agg #[ao,ak,aw],dB] w4 (Ri λx7 w6=>Kp w w4 w6/\
 R FX w6))
 (R FX w4)))):ah 95 #[a0,.agg #[ao,ak,aw,dB]] w R:=
 cq cc Tryz.func95 h
def zU.vc{a0:Addr}(h:
 Aw w #[ao,ak,aw] 23 λw0=>
 ∃(p1:Option Addr),ld w0.drew (ae (some a0) 1)=some (.pointer p1)/\
 ah 91 #[p1,.agg #[ao,ak,aw]] w0.drew (Rb λb3 w2=>Kp w w0.drew w2/\
 Br (!b3)
 (∃(p4:Option Addr),ld w2.drew (ae (some a0) 0)=some (.pointer p4)/\
 ∃(x5:Int),ld w2.drew (ae (some a0) 3)=some (.int .i64 x5)/\
 ah 88 #[p4,.agg #[ao,ak,aw],(ai (x5+1))] w2.drew (Rb λb7 w6=>Kp w w2.drew w6/\
 au w6 (ae (some a0) 3) 0 [x5]/\R FX w6))
 (∃(p8:Option Addr),ld w2 (ae (some a0) 1)=some (.pointer p8)/\
 ah 11 #[p8] w2 (Rv λv10 w9=>Kp w w2 w9/\
 ah 92 #[v10,.agg #[ao,ak,aw]] w9 (Rs λeM cB=>Kp w w9 cB/\
 ah 93 #[.agg #[ao,ak,aw]] cB (λe cC=>∃(bW bw cQ cR cf cK du fT eK dc de da dZ dp eS iO oT iN:Int),e=Value.agg #[bW,bw,cQ,cR,cf,cK,du,fT,eK,dc,de,da,dZ,dp,eS,iO,oT,iN]/\Kp w cB cC/\
 ((0:Int)<=2/\(2:Int)<((6:Nat):Int))/\∃(jB gx gf:Int),(([bW,bw,cQ,cR,cf,cK,du,fT,eK,dc,de,da,dZ,dp,eS,iO,oT,iN]:LV).drop ((2:Int).toNat*3)).take 3=[.int .i64 jB,.int .i64 gx,.int .i64 gf]/\
 Aw cC #[af,af,af] 23 λxu=>
 Sw xu cC #[jB,gx,gf] λnC=>
 dJ Tryz.prog v10 [.agg #[ao,ak,aw]] nC.drew (Ri λje hX=>K2 w cC nC.drew hX (
 ah 94 #[je] hX (Rb λb40 iU=>K2 w cC hX iU (
 Br b40
 (Br (decide ((((eM.n:Nat):Int):Int)>0))
 (∃(v41:Value),ld iU (ae (some a0) 4)=some (v41)/\
 dJ Tryz.prog v41 [.agg #[jB,gx,gf]] iU (Rb λb43 ny=>K2 w cC iU ny (
 Br b43
 (Aw ny #[ao,ak,aw,af] 71 λjA=>
 ∃(Bn:Sl),ld jA.drew (ae (some a0) 5)=some (.slice Bn.a Bn.n Bn.c)/\
 Aw jA.drew #[jB,gx,gf] 23 λDQ=>
 aF 24 3 DQ Bn 1 [jB,gx,gf]/\∀(uN:Sl)(uK:World),aE 23 3 DQ Bn 1 [jB,gx,gf] uN uK->K3 w cC ny DQ uK (
 uK.heap[jA.drew.heap.size]? =DQ.heap[jA.drew.heap.size]?/\
 (true=true/\Wr uK (ae (some a0) 5) 1)/\cS (ae (some a0) 5)≠some w.heap.size/\cS (ae (some a0) 5)≠some cC.heap.size/\cS (ae (some a0) 5)≠some ny.heap.size/\cS (ae (some a0) 5)≠some jA.drew.heap.size/\(∀BS,BS=bc uK (ae (some a0) 5) [uN]->
 ∃YP:Nat->Int->World->Prop,
 (∃Qc,aP [ao,ak,aw]/\aP [jB,gx,gf]/\aP [ao,ak,aw,af]/\aP [jB,gx,gf]/\YP Qc (0) BS)/\
 ∀(Qc:Nat)(ais:Nat->Value)(uO:Int)(wh:World),YP Qc uO wh->
 Br (decide (uO<((1:Nat):Int)))
 (cA (bu ny) uO 1/\∃(DR vb oW xy:Int),au wh (ae (bu ny) ((uO:Int).toNat*4)) 0 [DR,vb,oW,xy]/\
 Aw wh #[af,af,af,af] 71 λBQ=>
 Sw BQ wh #[DR,vb,oW,xy] λyY=>
 ah 95 #[a0,.agg #[DR,vb,oW,xy]] yY (Rt λBi=>K3 w cC ny yY Bi (
 Bi.heap[jA.drew.heap.size]? =yY.heap[jA.drew.heap.size]?/\Kp wh yY Bi/\
 ∃n55,n55<Qc/\aP [ao,ak,aw]/\aP [jB,gx,gf]/\aP [ao,ak,aw,af]/\aP [jB,gx,gf]/\YP n55 ((ai (uO+1))) Bi)))
 (R FX wh))))
 (∃I63:Nat->Int->World->Prop,
 (∃n64,aP [ao,ak,aw]/\aP [jB,gx,gf]/\I63 n64 (0) ny)/\
 ∀(n64:Nat)(ape:Nat->Value)(lP:Int)(sJ:World),I63 n64 lP sJ->
 Br (decide (lP<((eM.n:Nat):Int)))
 (cA eM.a lP eM.n/\∃(mO jD sK qQ:Int),au sJ (ae eM.a ((lP:Int).toNat*4)) 0 [mO,jD,sK,qQ]/\
 Aw sJ #[af,af,af,af] 71 λw73=>
 Sw w73 sJ #[mO,jD,sK,qQ] λw74=>
 ah 95 #[a0,.agg #[mO,jD,sK,qQ]] w74 (Rt λJX=>K3 w cC sJ w74 JX (
 ∃n68,n68<n64/\aP [ao,ak,aw]/\aP [jB,gx,gf]/\I63 n68 ((ai (lP+1))) JX)))
 (R FX sJ)))))
 (∃I76:Nat->Int->World->Prop,
 (∃n77,aP [ao,ak,aw]/\aP [jB,gx,gf]/\I76 n77 (0) iU)/\
 ∀(n77:Nat)(apf:Nat->Value)(Fy:Int)(sL:World),I76 n77 Fy sL->
 Br (decide (Fy<((eM.n:Nat):Int)))
 (cA eM.a Fy eM.n/\∃(rE xz NH NI:Int),au sL (ae eM.a ((Fy:Int).toNat*4)) 0 [rE,xz,NH,NI]/\
 Aw sL #[af,af,af,af] 71 λy3=>
 Sw y3 sL #[rE,xz,NH,NI] λlV=>
 ah 95 #[a0,.agg #[rE,xz,NH,NI]] lV (Rt λy7=>K3 w cC sL lV y7 (
 ∃YU,YU<n77/\aP [ao,ak,aw]/\aP [jB,gx,gf]/\I76 YU ((ai (Fy+1))) y7)))
 (R FX sL)))
 (∃I89:Nat->Int->World->Prop,
 (∃Xj,aP [ao,ak,aw]/\aP [jB,gx,gf]/\I89 Xj (0) iU)/\
 ∀(Xj:Nat)(aiv:Nat->Value)(sZ:Int)(Qd:World),I89 Xj sZ Qd->
 Br (decide (sZ<((eM.n:Nat):Int)))
 (cA eM.a sZ eM.n/\∃(Cy BT vd td:Int),au Qd (ae eM.a ((sZ:Int).toNat*4)) 0 [Cy,BT,vd,td]/\
 Aw Qd #[af,af,af,af] 71 λw99=>
 Sw w99 Qd #[Cy,BT,vd,td] λFz=>
 ah 95 #[a0,.agg #[Cy,BT,vd,td]] Fz (Rt λCz=>K3 w cC Qd Fz Cz (
 ∃n94,n94<Xj/\aP [ao,ak,aw]/\aP [jB,gx,gf]/\I89 n94 ((ai (sZ+1))) Cz)))
 (R FX Qd)))))))))))):ah 47 #[a0,.agg #[ao,ak,aw]] w R:=
 cq ⟨[(10,⟨[(70,.int .i64)],[],[]⟩),(10,⟨[(70,.int .i64)],[],[]⟩),(10,⟨[(70,.int .i64)],[],[]⟩),(10,⟨[(70,.int .i64)],[],[]⟩)],[],[]⟩ Tryz.func47 h
def Es.vc{a0:Addr}(h:
 ∃(x0:Int),ld w (ae (some a0) 3)=some (.int .i64 x0)/\
 (true=true/\Wr w (ae (some a0) 3) 1)/\(∀w1,w1=bc w (ae (some a0) 3) [.int .i64 (if 1099511627776<(ai (x0+1)) then 1099511627776 else (ai (x0+1)))]->
 ∃(p2:Option Addr),ld w1.drew (ae (some a0) 0)=some (.pointer p2)/\
 ∃(x3:Int),ld w1.drew (ae (some a0) 3)=some (.int .i64 x3)/\
 ∃(x4:Int),ld w1.drew (ae (some a0) 2)=some (.int .i64 x4)/\
 ah 46 #[p2,x3,x4] w1.drew (λe w5=>∃(s6:Sl),e=s6/\
 ∃I7:Nat->Int->World->Prop,
 (∃n8,I7 n8 (0) w5)/\
 ∀(n8:Nat)(us9:Nat->Value)(bq:Int)(cB:World),I7 n8 bq cB->
 Br (decide (bq<((s6.n:Nat):Int)))
 (cA s6.a bq s6.n/\∃(cz bW bw:Int),au cB (ae s6.a ((bq:Int).toNat*3)) 0 [cz,bW,bw]/\
 Aw cB #[af,af,af] 23 λcY=>
 Sw cY cB #[cz,bW,bw] λcE=>
 ah 47 #[a0,.agg #[cz,bW,bw]] cE (Rt λdA=>Kp cB cE dA/\
 ∃n12,n12<n8/\I7 n12 ((ai (bq+1))) dA))
 (R (Value.int .i64 ((s6.n:Nat):Int)) cB)))):ah 15 #[a0] w R:=
 cq ⟨[(4,⟨[(30,.int .i64)],[],[]⟩)],[],[]⟩ Tryz.func15 h
def G8.vc{a0:Addr}(h:
 ∃I0:Nat->Int->World->Prop,
 (∃n1,I0 n1 (0) w)/\
 ∀(n1:Nat)(oB:Nat->Value)(x3:Int)(w4:World),I0 n1 x3 w4->
 ∃(p6:Option Addr),ld w4 (ae (some a0) 0)=some (.pointer p6)/\
 ah 48 #[p6] w4 (λe w7=>∃(x8:Int),e=x8/\
 Br (x8>0)
 (Br (x3<(if 1000<a1 then 1000 else a1))
 (ah 15 #[a0] w7 (λe w9=>∃(bq:Int),e=bq/\
 ∃n5,n5<n1/\I0 n5 ((ai (x3+1))) w9))
 (R x3 w7))
 (R x3 w7))):ah 16 #[a0,a1] w R:=
 cq ⟨[(2,⟨[(5,.int .i64)],[],[]⟩)],[],[]⟩ Tryz.func16 h
end Go.Proofs.YtalpkjfpmdpbiaaGreatDoor
