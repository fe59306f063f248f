import Derived.Test.YtalpkjfpmdpbiaaGreatDoorGQ
set_option linter.all false
namespace Go.Proofs.YtalpkjfpmdpbiaaGreatDoor
open Go Go.Vc Go.RowKit Go.Proofs
set_option maxRecDepth 100000
set_option maxHeartbeats 8000000
set_option linter.unusedVariables false
variable {R:Ending->World->Prop} {w:World} {a0 a1 a2 a3 a4 a5 a6 a7 a8 a9 aq ar au aI aJ aK aL aH bM eB ao aj aw dO ic jg jh ji gq gY dj dZ dU lg lO nm xO xP xQ xR xS xU xV xW xX xY xZ ya yb yc:Int}
def QZ.vc(h:
 Aw w #[aq,ar,au] 23 λw0=>
 Aw w0 #[af,af,af] 23 λw1=>
 ah 143 #[aq] w1.drew (Ri λx3 w2=>K2 w w0 w1.drew w2 (
 av w2 (pd w 2) 0 [au]/\av w2 (pd w 1) 0 [ar]/\ah 143 #[ar] w2 (Ri λx5 w4=>K2 w w0 w2 w4 (
 av w4 (pd w 2) 0 [au]/\ah 143 #[au] w4 (Ri λx7 w6=>K2 w w0 w4 w6 (
 Sw w6 w0 #[x3,x5,x7] λw8=>
 R (Value.agg #[x3,x5,x7]) w8))))))):ah 142 #[.agg #[aq,ar,au]] w R:=
 cq cf Tryz.func142 h
def Q0.vc(h:
 R (Value.int .i64 (if 2147483648<(if (-2147483648)>a0 then (-2147483648) else a0) then 2147483648 else (if (-2147483648)>a0 then (-2147483648) else a0))) w):ah 143 #[a0] w R:=
 cq cf Tryz.func143 h
def NB.vc(h:
 Aw w #[aq,ar,au] 23 λw0=>
 Aw w0 #[af,af,af,af,af,af,af,af,af,af,af,af,af,af,af,af,af,af] 161 λw1=>
 ah 141 #[(-1:Int),af,af,w] w1 (λe w2=>∃(x3 x4 x5:Int),e=Value.agg #[x3,x4,x5]/\
 ah 141 #[(1:Int),af,af,w] w2 (λe w6=>∃(x7 x8 x9:Int),e=Value.agg #[x7,x8,x9]/\
 ah 141 #[af,(-1:Int),af,w] w6 (λe bL=>∃(bV bT cD:Int),e=Value.agg #[bV,bT,cD]/\
 ah 141 #[af,(1:Int),af,w] bL (λe cm=>∃(bA cY cP:Int),e=Value.agg #[bA,cY,cP]/\
 ah 141 #[af,af,(-1:Int),w] cm (λe dJ=>∃(cN dK fW:Int),e=Value.agg #[cN,dK,fW]/\
 ah 141 #[af,af,(1:Int),w] dJ (λe cx=>∃(de di cW:Int),e=Value.agg #[de,di,cW]/\
 Wt cx ⟨w0,0,none⟩ 18/\(∀g7,g7=aZ cx (bu w0) [x3,x4,x5,x7,x8,x9,bV,bT,cD,bA,cY,cP,cN,dK,fW,de,di,cW]->
 ∃(dc eM iL oL iK jA gn fX jy kx gd ja kq nz kK lU ky jF:Int),av g7 (bu w0) 0 [dc,eM,iL,oL,iK,jA,gn,fX,jy,kx,gd,ja,kq,nz,kK,lU,ky,jF]/\
 R (Value.agg #[dc,eM,iL,oL,iK,jA,gn,fX,jy,kx,gd,ja,kq,nz,kK,lU,ky,jF]) g7)))))))):ah 93 #[.agg #[aq,ar,au]] w R:=
 cq cf Tryz.func93 h
def Gn.vc{c0:Addr}(h:
 Aw w #[af,af,af] 23 λw0=>
 ∃(x1:Int),ld w0.drew (ae (some c0) 0)=some (.int .i64 x1)/\
 ∃(x2:Int),ld w0.drew (ae (some c0) 1)=some (.int .i64 x2)/\
 ∃(x3:Int),ld w0.drew (ae (some c0) 2)=some (.int .i64 x3)/\
 ah 143 #[x1] w0.drew (Ri λx5 w4=>Kp w w0.drew w4/\
 av w4 (ae (some c0) 2) 0 [x3]/\av w4 (ae (some c0) 1) 0 [x2]/\ah 143 #[x2] w4 (Ri λx7 w6=>Kp w w4 w6/\
 av w6 (ae (some c0) 2) 0 [x3]/\ah 143 #[x3] w6 (Ri λx9 w8=>Kp w w6 w8/\
 ah 142 #[.agg #[(ai (x5+a0)),(ai (x7+a1)),(ai (x9+a2))]] w8 (Je λbV bT cD bL=>Kp w w8 bL/\
 Sw bL w #[bV,bT,cD] λcm=>
 R (Value.agg #[bV,bT,cD]) cm))))):ah 141 #[a0,a1,a2,c0] w R:=
 cq cf Tryz.func141 h
def J1.vc(h:
 ah 94 #[a0] w (λe w0=>∃(b1:Bool),e=b1/\
 Br b1
 (R (2:Int) w0)
 (ah 134 #[a0] w0 (λe w2=>∃(b3:Bool),e=b3/\
 Br b3
 (R (5:Int) w2)
 (R (0:Int) w2))))):ah 89 #[a0] w R:=
 cq cf Tryz.func89 h
def J2.vc{a0:Value}(h:
 Aw w #[ao,aj,aw] 23 λw0=>
 ah 93 #[.agg #[ao,aj,aw]] w0 (λe w1=>∃(x2 x3 x4 x5 x6 x7 x8 x9 br bV bT cD cl bA cY cP cn cN:Int),e=Value.agg #[x2,x3,x4,x5,x6,x7,x8,x9,br,bV,bT,cD,cl,bA,cY,cP,cn,cN]/\Kp w w0 w1/\
 ((0:Int)<=3/\(3:Int)<((6:Nat):Int))/\∃(dK fW eY:Int),(([x2,x3,x4,x5,x6,x7,x8,x9,br,bV,bT,cD,cl,bA,cY,cP,cn,cN]:LV).drop ((3:Int).toNat*3)).take 3=[.int .i64 dK,.int .i64 fW,.int .i64 eY]/\
 dH Tryz.prog a0 [.agg #[dK,fW,eY]] w1 (Ri λdi gi=>Kp w w1 gi/\
 ah 134 #[di] gi (Rb λb26 eg=>Kp w gi eg/\
 Br b26
 (R (Value.tuple #[(1:Int),true]) eg)
 (ah 188 #[.agg #[ao,aj,aw]] eg (Rs λsB jb=>Kp w eg jb/\
 ∃I29:Nat->Int->Int->World->Prop,
 (∃n30,aP [ao,aj,aw]/\I29 n30 (0) (7) jb)/\
 ∀(n30:Nat)(ahL:Nat->Value)(jA gn:Int)(ly:World),I29 n30 jA gn ly->
 Br (decide (jA<((sB.n:Nat):Int)))
 (cB sB.a jA sB.n/\∃(kx gd ja:Int),av ly (ae sB.a ((jA:Int).toNat*3)) 0 [kx,gd,ja]/\
 Aw ly #[af,af,af] 23 λiP=>
 Sw iP ly #[kx,gd,ja] λiQ=>
 dH Tryz.prog a0 [.agg #[kx,gd,ja]] iQ (Ri λlU j7=>K2 w ly iQ j7 (
 ah 140 #[lU] j7 (Ri λjF pY=>K2 w ly j7 pY (
 Br (jF>=0)
 (∃TG,TG<n30/\aP [ao,aj,aw]/\I29 TG ((ai (jA+1))) ((if jF<gn then jF else gn)) pY)
 (∃TG,TG<n30/\aP [ao,aj,aw]/\I29 TG ((ai (jA+1))) gn pY))))))
 (Br (gn==7)
 (R (Value.tuple #[af,false]) ly)
 (R (Value.tuple #[(ai (gn+1)),true]) ly)))))))):ah 186 #[a0,.agg #[ao,aj,aw]] w R:=
 cq ⟨[(5,⟨[(19,.int .i64),(6,.int .i64)],[],[]⟩)],[],[]⟩ Tryz.func186 h
def Nu.vc{a0:Value}(h:
 Aw w #[ao,aj,aw] 23 λw0=>
 dH Tryz.prog a0 [.agg #[ao,aj,aw]] w0 (Ri λx2 w1=>Kp w w0 w1/\
 ah 94 #[x2] w1 (Rb λb4 w3=>Kp w w1 w3/\
 Br b4
 (ah 138 #[a0,.agg #[ao,aj,aw]] w3 (Rs λs6 w5=>Kp w w3 w5/\
 R s6 w5))
 (ah 134 #[x2] w3 (Rb λb8 w7=>Kp w w3 w7/\
 Br b8
 (ah 140 #[x2] w7.drew (Ri λbr w9=>Kp w w7.drew w9/\
 av w9 w 0 [ao,aj,aw]/\ah 139 #[a0,.agg #[ao,aj,aw],br] w9 (Rs λeH cH=>Kp w w9 cH/\
 R eH cH)))
 (R (Value.slice none 0 0) w7)))))):ah 92 #[a0,.agg #[ao,aj,aw]] w R:=
 cq cf Tryz.func92 h
def J5.vc{a0:Value}(h:
 Aw w #[ao,aj,aw] 23 λw0=>
 ah 93 #[.agg #[ao,aj,aw]] w0 (λe w1=>∃(x2 x3 x4 x5 x6 x7 x8 x9 br bV bT cD cl bA cY cP cn cN:Int),e=Value.agg #[x2,x3,x4,x5,x6,x7,x8,x9,br,bV,bT,cD,cl,bA,cY,cP,cn,cN]/\Kp w w0 w1/\
 Aw w1 #[af,af,af,af,af,af,af,af,af,af,af,af,af,af,af,af,af,af] 161 λeC=>
 Wt eC ⟨w1,0,none⟩ 18/\Nb w1 w/\(∀ea,ea=aZ eC (bu w1) [x2,x3,x4,x5,x6,x7,x8,x9,br,bV,bT,cD,cl,bA,cY,cP,cn,cN]->
 Aw ea.drew #[ao,aj,aw] 23 λcx=>
 ∃l23:LV,Rd cx (aA (bu w1) (0) (6) 3) l23/\aF 24 3 cx ⟨(bu ea.drew.heap.size),1,1⟩ (6-0) l23/\∀(kL:Sl)(eg:World),aD 23 3 cx ⟨(bu ea.drew.heap.size),1,1⟩ (6-0) l23 kL eg->Kp w cx eg/\eg.heap[ea.drew.heap.size]? =cx.heap[ea.drew.heap.size]?/\
 ∃I26:Nat->Int->Sl->World->Prop,
 (∃n27,aP [ao,aj,aw]/\aP [ao,aj,aw]/\I26 n27 (0) ⟨none,0,0⟩ eg)/\
 ∀(n27:Nat)(aos:Nat->Value)(iL:Int)(gP:Sl)(ig:World),I26 n27 iL gP ig->
 Br (decide (iL<((kL.n:Nat):Int)))
 (cB kL.a iL kL.n/\∃(gn fX jy:Int),av ig (ae kL.a ((iL:Int).toNat*3)) 0 [gn,fX,jy]/\
 Aw ig #[af,af,af] 23 λnv=>
 Sw nv ig #[gn,fX,jy] λjj=>
 dH Tryz.prog a0 [.agg #[gn,fX,jy]] jj (Ri λkq qx=>Kp w jj qx/\qx.heap[ea.drew.heap.size]? =jj.heap[ea.drew.heap.size]?/\Kp ig jj qx/\
 ah 89 #[kq] qx (Ri λkK iQ=>Kp w qx iQ/\iQ.heap[ea.drew.heap.size]? =qx.heap[ea.drew.heap.size]?/\Kp ig qx iQ/\
 Br (kK>0)
 (Aw iQ #[gn,fX,jy] 23 λnp=>
 aF 24 3 np gP 1 [gn,fX,jy]/\∀(TH:Sl)(jz:World),aD 23 3 np gP 1 [gn,fX,jy] TH jz->Kp w np jz/\jz.heap[ea.drew.heap.size]? =np.heap[ea.drew.heap.size]?/\K2 ig iQ np jz (
 ∃X0,X0<n27/\aP [ao,aj,aw]/\aP [ao,aj,aw]/\I26 X0 ((ai (iL+1))) TH jz))
 (∃X0,X0<n27/\aP [ao,aj,aw]/\aP [ao,aj,aw]/\I26 X0 ((ai (iL+1))) gP iQ))))
 (R gP ig)))):ah 87 #[a0,.agg #[ao,aj,aw]] w R:=
 cq ⟨[(4,⟨[(16,.int .i64),(5,.slice)],[],[]⟩)],[],[]⟩ Tryz.func87 h
def Gp.vc(h:
 Aw w #[aq,ar,au] 23 λw0=>
 ah 93 #[.agg #[aq,ar,au]] w0 (λe w1=>∃(x2 x3 x4 x5 x6 x7 x8 x9 br bV bT cD cl bA cY cP cn cN:Int),e=Value.agg #[x2,x3,x4,x5,x6,x7,x8,x9,br,bV,bT,cD,cl,bA,cY,cP,cn,cN]/\Kp w w0 w1/\
 Aw w1 #[af,af,af,af,af,af,af,af,af,af,af,af,af,af,af,af,af,af] 161 λeC=>
 Wt eC ⟨w1,0,none⟩ 18/\Nb w1 w/\(∀ea,ea=aZ eC (bu w1) [x2,x3,x4,x5,x6,x7,x8,x9,br,bV,bT,cD,cl,bA,cY,cP,cn,cN]->
 (0:Int)<=2/\2<=((6:Nat):Int)/\(0:Int)<=2/\(2:Int)<=2/\(0:Int)<=4/\4<=((6:Nat):Int)/\∃l22:LV,Rd ea.drew (aA (bu w1) ((4:Int).toNat) (6) 3) l22/\aF 24 3 ea.drew ⟨(aA (bu w1) (0) ((2:Int).toNat) 3),((2:Int).toNat-0),((2:Int).toNat-0)⟩ (6-(4:Int).toNat) l22/\∀(B4:Sl)(fu:World),aD 23 3 ea.drew ⟨(aA (bu w1) (0) ((2:Int).toNat) 3),((2:Int).toNat-0),((2:Int).toNat-0)⟩ (6-(4:Int).toNat) l22 B4 fu->Kp w ea.drew fu/\
 R B4 fu))):ah 188 #[.agg #[aq,ar,au]] w R:=
 cq cf Tryz.func188 h
def NC.vc{a0:Value}(h:
 Aw w #[ao,aj,aw] 23 λw0=>
 ah 93 #[.agg #[ao,aj,aw]] w0 (λe w1=>∃(x2 x3 x4 x5 x6 x7 x8 x9 br bV bT cD cl bA cY cP cn cN:Int),e=Value.agg #[x2,x3,x4,x5,x6,x7,x8,x9,br,bV,bT,cD,cl,bA,cY,cP,cn,cN]/\Kp w w0 w1/\
 ((0:Int)<=2/\(2:Int)<((6:Nat):Int))/\∃(dK fW eY:Int),(([x2,x3,x4,x5,x6,x7,x8,x9,br,bV,bT,cD,cl,bA,cY,cP,cn,cN]:LV).drop ((2:Int).toNat*3)).take 3=[.int .i64 dK,.int .i64 fW,.int .i64 eY]/\
 Aw w1 #[af,af,af] 23 λgi=>
 Sw gi w1 #[dK,fW,eY] λfu=>
 dH Tryz.prog a0 [.agg #[dK,fW,eY]] fu (Ri λdV eg=>K2 w w1 fu eg (
 ah 185 #[dV] eg (Rb λb28 jb=>K2 w w1 eg jb (
 Br (!b28)
 (R (Value.slice none 0 0) jb)
 (Aw jb #[ao,aj,aw,dV,dK,fW,eY,(3:Int)] 71 λfJ=>
 R (Value.slice (bu jb) 2 2) fJ))))))):ah 138 #[a0,.agg #[ao,aj,aw]] w R:=
 cq cf Tryz.func138 h
def VB.vc{a0:Addr}(h:
 ah 60 #[(4096:Int)] w (λe w0=>∃(p1:Option Addr),e=p1/\
 ∀w2,w2=w0.alloc (.cells #[p1,a0,.int .i64 (if 64<(if 1>a1 then 1 else a1) then 64 else (if 1>a1 then 1 else a1)),(0:Int),.func (.func 83) #[] #[],.slice none 0 0] 98)->
 R (Value.pointer (bu w0)) w2)):ah 40 #[a0,a1] w R:=
 cq cf Tryz.func40 h
def BD.vc{a0:Addr}(h:
 ∃(p0:Option Addr),ld w (ae (some a0) 1)=some (.pointer p0)/\
 R p0 w):ah 10 #[a0] w R:=
 cq cf Tryz.func10 h
def xm.vc{a0:Addr}(h:
 ∃(p0:Option Addr),ld w (ae (some a0) 0)=some (.pointer p0)/\
 ah 52 #[p0] w (λe w1=>∃(s2:Sl),e=s2/\
 R s2 w1)):ah 23 #[a0] w R:=
 cq cf Tryz.func23 h
def zw.vc{a0:Addr}{f1:Fn}{p1 q1:Array Value}(h:
 ((true=true/\Wr w (ae (some a0) 4) 1)/\(∀w0,w0=aZ w (ae (some a0) 4) [.func f1 p1 q1]->
 R Fl w0))):ah 17 #[a0,.func f1 p1 q1] w R:=
 cq cf Tryz.func17 h
def Gq.vc{a0:Addr}(h:
 ∃(x0:Int),ld w (ae (some a0) 3)=some (.int .i64 x0)/\
 R x0 w):ah 29 #[a0] w R:=
 cq cf Tryz.func29 h
def DW.vc{a0:Addr}(h:
 Aw w #[ao,aj,aw] 23 λw0=>
 ∃(p1:Option Addr),ld w0.drew (ae (some a0) 1)=some (.pointer p1)/\
 ah 27 #[p1,.agg #[ao,aj,aw],a2] w0.drew (Ri λx3 w2=>Kp w w0.drew w2/\
 Br (x3==0)
 (ah 45 #[a0,.agg #[ao,aj,aw]] w2 (Rt λw4=>Kp w w2 w4/\
 R x3 w4))
 (R x3 w2))):ah 14 #[a0,.agg #[ao,aj,aw],a2] w R:=
 cq cf Tryz.func14 h
def DX.vc{a0:Addr}(h:
 Aw w #[ao,aj,aw] 23 λw0=>
 ∃(p1:Option Addr),ld w0 (ae (some a0) 1)=some (.pointer p1)/\
 ah 11 #[p1] w0 (Rv λv3 w2=>Kp w w0 w2/\
 ah 87 #[v3,.agg #[ao,aj,aw]] w2 (Rs λs5 w4=>Kp w w2 w4/\
 ∃I6:Nat->Int->World->Prop,
 (∃n7,aP [ao,aj,aw]/\I6 n7 (0) w4)/\
 ∀(n7:Nat)(us8:Nat->Value)(x9:Int)(bL:World),I6 n7 x9 bL->
 Br (decide (x9<((s5.n:Nat):Int)))
 (cB s5.a x9 s5.n/\∃(bT cD cl:Int),av bL (ae s5.a ((x9:Int).toNat*3)) 0 [bT,cD,cl]/\
 Aw bL #[af,af,af] 23 λcS=>
 Sw cS bL #[bT,cD,cl] λdy=>
 ∃(X1:Option Addr),ld dy.drew (ae (some a0) 0)=some (.pointer X1)/\
 ∃(cn:Int),ld dy.drew (ae (some a0) 3)=some (.int .i64 cn)/\
 dH Tryz.prog v3 [.agg #[bT,cD,cl]] dy.drew (Ri λdK fD=>K2 w bL dy.drew fD (
 av fD (ae (some a0) 3) 0 [cn]/\av fD bL 0 [bT,cD,cl]/\av fD (ae (some a0) 0) 0 [.pointer X1]/\ah 89 #[dK] fD (Ri λeY ea=>K2 w bL fD ea (
 av ea (ae (some a0) 3) 0 [cn]/\av ea bL 0 [bT,cD,cl]/\av ea (ae (some a0) 0) 0 [.pointer X1]/\ah 88 #[X1,.agg #[bT,cD,cl],(ai (cn+eY))] ea (Rb λb24 gi=>K2 w bL ea gi (
 av gi (ae (some a0) 3) 0 [cn]/\∃wM,wM<n7/\aP [ao,aj,aw]/\I6 wM ((ai (x9+1))) gi)))))))
 (R Fl bL)))):ah 45 #[a0,.agg #[ao,aj,aw]] w R:=
 cq ⟨[(3,⟨[(16,.int .i64)],[],[]⟩)],[],[]⟩ Tryz.func45 h
def zx.vc{a0:Addr}(h:
 Aw w #[ao,aj,aw,dO] 71 λw0=>
 ∃(p1:Option Addr),ld w0.drew (ae (some a0) 1)=some (.pointer p1)/\
 ah 11 #[p1] w0.drew (Rv λv3 w2=>Kp w w0.drew w2/\
 av w2 (pd w 3) 0 [dO]/\av w2 w 0 [ao,aj,aw]/\dH Tryz.prog v3 [.agg #[ao,aj,aw]] w2 (Ri λx5 w4=>Kp w w2 w4/\
 av w4 (pd w 3) 0 [dO]/\Br (x5 !=dO)
 (ah 14 #[a0,.agg #[ao,aj,aw],dO] w4 (Ri λx7 w6=>Kp w w4 w6/\
 R Fl w6))
 (R Fl w4)))):ah 95 #[a0,.agg #[ao,aj,aw,dO]] w R:=
 cq cf Tryz.func95 h
def zy.vc{a0:Addr}(h:
 Aw w #[ao,aj,aw] 23 λw0=>
 ∃(p1:Option Addr),ld w0.drew (ae (some a0) 1)=some (.pointer p1)/\
 ah 91 #[p1,.agg #[ao,aj,aw]] w0.drew (Rb λb3 w2=>Kp w w0.drew w2/\
 Br (!b3)
 (∃(p4:Option Addr),ld w2.drew (ae (some a0) 0)=some (.pointer p4)/\
 ∃(x5:Int),ld w2.drew (ae (some a0) 3)=some (.int .i64 x5)/\
 ah 88 #[p4,.agg #[ao,aj,aw],(ai (x5+1))] w2.drew (Rb λb7 w6=>Kp w w2.drew w6/\
 av w6 (ae (some a0) 3) 0 [x5]/\R Fl w6))
 (∃(p8:Option Addr),ld w2 (ae (some a0) 1)=some (.pointer p8)/\
 ah 11 #[p8] w2 (Rv λv10 w9=>Kp w w2 w9/\
 ah 92 #[v10,.agg #[ao,aj,aw]] w9 (Rs λeH cH=>Kp w w9 cH/\
 ah 93 #[.agg #[ao,aj,aw]] cH (λe cA=>∃(cl bA cY cP cn cN dK fW eY de di cW dV dc eM iL oL iK:Int),e=Value.agg #[cl,bA,cY,cP,cn,cN,dK,fW,eY,de,di,cW,dV,dc,eM,iL,oL,iK]/\Kp w cH cA/\
 ((0:Int)<=2/\(2:Int)<((6:Nat):Int))/\∃(jA gn fX:Int),(([cl,bA,cY,cP,cn,cN,dK,fW,eY,de,di,cW,dV,dc,eM,iL,oL,iK]:LV).drop ((2:Int).toNat*3)).take 3=[.int .i64 jA,.int .i64 gn,.int .i64 fX]/\
 Aw cA #[af,af,af] 23 λwP=>
 Sw wP cA #[jA,gn,fX] λnv=>
 dH Tryz.prog v10 [.agg #[ao,aj,aw]] nv.drew (Ri λja jj=>K2 w cA nv.drew jj (
 ah 94 #[ja] jj (Rb λb40 iP=>K2 w cA jj iP (
 Br b40
 (Br (decide ((((eH.n:Nat):Int):Int)>0))
 (∃(v41:Value),ld iP (ae (some a0) 4)=some (v41)/\
 dH Tryz.prog v41 [.agg #[jA,gn,fX]] iP (Rb λb43 np=>K2 w cA iP np (
 Br b43
 (Aw np #[ao,aj,aw,af] 71 λjz=>
 ∃(AY:Sl),ld jz.drew (ae (some a0) 5)=some (.slice AY.a AY.n AY.c)/\
 Aw jz.drew #[jA,gn,fX] 23 λDn=>
 aF 24 3 Dn AY 1 [jA,gn,fX]/\∀(uj:Sl)(uh:World),aD 23 3 Dn AY 1 [jA,gn,fX] uj uh->K3 w cA np Dn uh (
 uh.heap[jz.drew.heap.size]? =Dn.heap[jz.drew.heap.size]?/\
 (true=true/\Wr uh (ae (some a0) 5) 1)/\cQ (ae (some a0) 5)≠some w.heap.size/\cQ (ae (some a0) 5)≠some cA.heap.size/\cQ (ae (some a0) 5)≠some np.heap.size/\cQ (ae (some a0) 5)≠some jz.drew.heap.size/\(∀Bq,Bq=aZ uh (ae (some a0) 5) [uj]->
 ∃X2:Nat->Int->World->Prop,
 (∃Px,aP [ao,aj,aw]/\aP [jA,gn,fX]/\aP [ao,aj,aw,af]/\aP [jA,gn,fX]/\X2 Px (0) Bq)/\
 ∀(Px:Nat)(ahO:Nat->Value)(uk:Int)(ye:World),X2 Px uk ye->
 Br (decide (uk<((1:Nat):Int)))
 (cB (bu np) uk 1/\∃(Dp uC oP wQ:Int),av ye (ae (bu np) ((uk:Int).toNat*4)) 0 [Dp,uC,oP,wQ]/\
 Aw ye #[af,af,af,af] 71 λBo=>
 Sw Bo ye #[Dp,uC,oP,wQ] λyG=>
 ah 95 #[a0,.agg #[Dp,uC,oP,wQ]] yG (Rt λAV=>K3 w cA np yG AV (
 AV.heap[jz.drew.heap.size]? =yG.heap[jz.drew.heap.size]?/\Kp ye yG AV/\
 ∃n55,n55<Px/\aP [ao,aj,aw]/\aP [jA,gn,fX]/\aP [ao,aj,aw,af]/\aP [jA,gn,fX]/\X2 n55 ((ai (uk+1))) AV)))
 (R Fl ye))))
 (∃I63:Nat->Int->World->Prop,
 (∃n64,aP [ao,aj,aw]/\aP [jA,gn,fX]/\I63 n64 (0) np)/\
 ∀(n64:Nat)(aox:Nat->Value)(lP:Int)(um:World),I63 n64 lP um->
 Br (decide (lP<((eH.n:Nat):Int)))
 (cB eH.a lP eH.n/\∃(qG jB rX qy:Int),av um (ae eH.a ((lP:Int).toNat*4)) 0 [qG,jB,rX,qy]/\
 Aw um #[af,af,af,af] 71 λw73=>
 Sw w73 um #[qG,jB,rX,qy] λw74=>
 ah 95 #[a0,.agg #[qG,jB,rX,qy]] w74 (Rt λJj=>K3 w cA um w74 Jj (
 ∃n68,n68<n64/\aP [ao,aj,aw]/\aP [jA,gn,fX]/\I63 n68 ((ai (lP+1))) Jj)))
 (R Fl um)))))
 (∃I76:Nat->Int->World->Prop,
 (∃n77,aP [ao,aj,aw]/\aP [jA,gn,fX]/\I76 n77 (0) iP)/\
 ∀(n77:Nat)(aoy:Nat->Value)(EZ:Int)(rY:World),I76 n77 EZ rY->
 Br (decide (EZ<((eH.n:Nat):Int)))
 (cB eH.a EZ eH.n/\∃(q8 wR MR MS:Int),av rY (ae eH.a ((EZ:Int).toNat*4)) 0 [q8,wR,MR,MS]/\
 Aw rY #[af,af,af,af] 71 λAZ=>
 Sw AZ rY #[q8,wR,MR,MS] λpZ=>
 ah 95 #[a0,.agg #[q8,wR,MR,MS]] pZ (Rt λyI=>K3 w cA rY pZ yI (
 ∃X3,X3<n77/\aP [ao,aj,aw]/\aP [jA,gn,fX]/\I76 X3 ((ai (EZ+1))) yI)))
 (R Fl rY)))
 (∃I89:Nat->Int->World->Prop,
 (∃WE,aP [ao,aj,aw]/\aP [jA,gn,fX]/\I89 WE (0) iP)/\
 ∀(WE:Nat)(ahR:Nat->Value)(sC:Int)(Py:World),I89 WE sC Py->
 Br (decide (sC<((eH.n:Nat):Int)))
 (cB eH.a sC eH.n/\∃(Dq B5 vF uo:Int),av Py (ae eH.a ((sC:Int).toNat*4)) 0 [Dq,B5,vF,uo]/\
 Aw Py #[af,af,af,af] 71 λw99=>
 Sw w99 Py #[Dq,B5,vF,uo] λE0=>
 ah 95 #[a0,.agg #[Dq,B5,vF,uo]] E0 (Rt λB6=>K3 w cA Py E0 B6 (
 ∃n94,n94<WE/\aP [ao,aj,aw]/\aP [jA,gn,fX]/\I89 n94 ((ai (sC+1))) B6)))
 (R Fl Py)))))))))))):ah 47 #[a0,.agg #[ao,aj,aw]] w R:=
 cq ⟨[(10,⟨[(70,.int .i64)],[],[]⟩),(10,⟨[(70,.int .i64)],[],[]⟩),(10,⟨[(70,.int .i64)],[],[]⟩),(10,⟨[(70,.int .i64)],[],[]⟩)],[],[]⟩ Tryz.func47 h
def DY.vc{a0:Addr}(h:
 ∃(x0:Int),ld w (ae (some a0) 3)=some (.int .i64 x0)/\
 (true=true/\Wr w (ae (some a0) 3) 1)/\(∀w1,w1=aZ w (ae (some a0) 3) [.int .i64 (if 1099511627776<(ai (x0+1)) then 1099511627776 else (ai (x0+1)))]->
 ∃(p2:Option Addr),ld w1.drew (ae (some a0) 0)=some (.pointer p2)/\
 ∃(x3:Int),ld w1.drew (ae (some a0) 3)=some (.int .i64 x3)/\
 ∃(x4:Int),ld w1.drew (ae (some a0) 2)=some (.int .i64 x4)/\
 ah 46 #[p2,x3,x4] w1.drew (λe w5=>∃(s6:Sl),e=s6/\
 ∃I7:Nat->Int->World->Prop,
 (∃n8,I7 n8 (0) w5)/\
 ∀(n8:Nat)(us9:Nat->Value)(br:Int)(cH:World),I7 n8 br cH->
 Br (decide (br<((s6.n:Nat):Int)))
 (cB s6.a br s6.n/\∃(cD cl bA:Int),av cH (ae s6.a ((br:Int).toNat*3)) 0 [cD,cl,bA]/\
 Aw cH #[af,af,af] 23 λdy=>
 Sw dy cH #[cD,cl,bA] λcC=>
 ah 47 #[a0,.agg #[cD,cl,bA]] cC (Rt λdJ=>Kp cH cC dJ/\
 ∃n12,n12<n8/\I7 n12 ((ai (br+1))) dJ))
 (R (Value.int .i64 ((s6.n:Nat):Int)) cH)))):ah 15 #[a0] w R:=
 cq ⟨[(4,⟨[(30,.int .i64)],[],[]⟩)],[],[]⟩ Tryz.func15 h
def Gr.vc{a0:Addr}(h:
 ∃I0:Nat->Int->World->Prop,
 (∃n1,I0 n1 (0) w)/\
 ∀(n1:Nat)(oX:Nat->Value)(x3:Int)(w4:World),I0 n1 x3 w4->
 ∃(p6:Option Addr),ld w4 (ae (some a0) 0)=some (.pointer p6)/\
 ah 48 #[p6] w4 (λe w7=>∃(x8:Int),e=x8/\
 Br (x8>0)
 (Br (x3<(if 1000<a1 then 1000 else a1))
 (ah 15 #[a0] w7 (λe w9=>∃(br:Int),e=br/\
 ∃n5,n5<n1/\I0 n5 ((ai (x3+1))) w9))
 (R x3 w7))
 (R x3 w7))):ah 16 #[a0,a1] w R:=
 cq ⟨[(2,⟨[(5,.int .i64)],[],[]⟩)],[],[]⟩ Tryz.func16 h
end Go.Proofs.YtalpkjfpmdpbiaaGreatDoor
