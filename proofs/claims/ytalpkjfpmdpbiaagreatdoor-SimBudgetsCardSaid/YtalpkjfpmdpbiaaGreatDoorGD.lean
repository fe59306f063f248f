import Derived.Test.YtalpkjfpmdpbiaaGreatDoorGC
set_option linter.all false
namespace Go.Proofs.YtalpkjfpmdpbiaaGreatDoor
open Go Go.Vc Go.RowKit Go.Proofs
set_option maxRecDepth 100000
set_option maxHeartbeats 8000000
set_option linter.unusedVariables false
variable {R:Ending->World->Prop} {w:World} {a0 a1 a2 a3 a4 a5 a6 a7 a8 a9 aq ar au aI aJ aK aL aH bM eB ao aj aw dO ic jg jh ji gq gY dj dZ dU lg lO nm xO xP xQ xR xS xU xV xW xX xY xZ ya yb yc:Int}
def Lk.vc{aK:Sl}{aL:Sl}{aH:Sl}{bM:Sl}{cR:Int}{cz:Sl}{cF:Int}{cg:Int}{bX:Sl}{bY:Sl}(h:
 Aw w #[aq,ar,au,aI,aJ,aK,aL,aH,bM,eB,cR,cz,cF,cg,bX,bY] 39 λw0=>
 Aw w0 #[ao,aj,aw] 23 λw1=>
 Aw w1 #[af,af,af,af,af,.slice none 0 0,.slice none 0 0,.slice none 0 0,.slice none 0 0,af,af,.slice none 0 0,af,af,.slice none 0 0,.slice none 0 0] 39 λw2=>
 ah 54 #[.agg #[aq,ar,au,aI,aJ,aK,aL,aH,bM],.agg #[ao,aj,aw],a2] w2 (λe w3=>∃(x4 x5 x6 x7 x8:Int)(s9 cL eJ eH:Sl)(cD:Int),e=Value.tuple #[.agg #[x4,x5,x6,x7,x8,s9,cL,eJ,eH],cD]/\K3 w w0 w1 w2 w3 (
 Aw w3 #[af,af,af,af,af,.slice none 0 0,.slice none 0 0,.slice none 0 0,.slice none 0 0] 33 λcm=>
 Sw cm w3 #[x4,x5,x6,x7,x8,s9,cL,eJ,eH] λcS=>
 Sw cS w #[x4,x5,x6,x7,x8,s9,cL,eJ,eH,eB,cR,cz,cF,cg,bX,bY] λdy=>
 Br (cD !=0)
 (Sw dy w1 #[x4,x5,x6,x7,x8,s9,cL,eJ,eH,eB,cR,cz,cF,cg,bX,bY] λcC=>
 R (Value.tuple #[.agg #[x4,x5,x6,x7,x8,s9,cL,eJ,eH,eB,cR,cz,cF,cg,bX,bY],cD]) cC)
 (ah 55 #[.agg #[ao,aj,aw]] dy (Rs λoW dJ=>K4 w w0 w1 w3 dy dJ (
 ∃MU:Nat->Int->Int->Int->Int->Int->Int->Sl->Sl->Sl->Sl->Int->Int->Sl->Int->Int->Sl->Sl->World->Prop,
 (∃A2,aP [ao,aj,aw]/\aP [af,af,af,af,af,.slice none 0 0,.slice none 0 0,.slice none 0 0,.slice none 0 0,af,af,.slice none 0 0,af,af,.slice none 0 0,.slice none 0 0]/\aP [x4,x5,x6,x7,x8,s9,cL,eJ,eH]/\MU A2 (0) x4 x5 x6 x7 x8 s9 cL eJ eH eB cR cz cF cg bX bY dJ)/\
 ∀(A2:Nat)(adw:Nat->Value)(de di cW dV dc eM:Int)(mc gP g9 iR:Sl)(gn fX:Int)(MZ:Sl)(kx gd:Int)(vO si:Sl)(iQ:World),MU A2 de di cW dV dc eM mc gP g9 iR gn fX MZ kx gd vO si iQ->
 Br (decide (de<((oW.n:Nat):Int)))
 (cB oW.a de oW.n/\∃(lU ky jF:Int),av iQ.drew (ae oW.a ((de:Int).toNat*3)) 0 [lU,ky,jF]/\
 ah 57 #[.agg #[di,cW,dV,dc,eM,mc,gP,g9,iR,gn,fX,MZ,kx,gd,vO,si],.agg #[lU,ky,jF]] iQ.drew (Ri λoY Dr=>K4 w w0 w1 w3 iQ.drew Dr (
 ah 56 #[oY] Dr (Ri λrW oO=>K4 w w0 w1 w3 Dr oO (
 Br (rW>0)
 (cB oW.a de oW.n/\∃(jY B9 U6:Int),av oO.drew (ae oW.a ((de:Int).toNat*3)) 0 [jY,B9,U6]/\
 (ah 58 #[.agg #[gn,fX,MZ],.agg #[jY,B9,U6],(ai (gd+rW))] oO.drew (λe Jr=>∃(uk wW:Int)(E7:Sl)(b56:Bool),e=Value.tuple #[.agg #[uk,wW,E7],b56]/\K4 w w0 w1 w3 oO.drew Jr (
 av Jr (pd w 13) 0 [gd]/\Aw Jr #[af,af,.slice none 0 0] 36 λU4=>
 Sw U4 Jr #[uk,wW,E7] λA8=>
 Sw A8 w #[di,cW,dV,dc,eM,mc,gP,g9,iR,uk,wW,E7,kx,gd,vO,si] λWU=>
 ∃Uw,Uw<A2/\aP [ao,aj,aw]/\aP [af,af,af,af,af,.slice none 0 0,.slice none 0 0,.slice none 0 0,.slice none 0 0,af,af,.slice none 0 0,af,af,.slice none 0 0,.slice none 0 0]/\aP [x4,x5,x6,x7,x8,s9,cL,eJ,eH]/\MU Uw ((ai (de+1))) di cW dV dc eM mc gP g9 iR uk wW E7 kx gd vO si WU)))/\(Aw oO.drew #[af,af,.slice none 0 0] 36 λBo=>
 ah 58 #[.agg #[gn,fX,MZ],.agg #[jY,B9,U6],(ai (gd+rW))] Bo (λe yG=>∃(B3 lQ:Int)(E3:Sl)(b65:Bool),e=Value.tuple #[.agg #[B3,lQ,E3],b65]/\K4 w w0 w1 w3 Bo yG (
 yG.heap[oO.drew.heap.size]? =Bo.heap[oO.drew.heap.size]?/\
 av yG (pd w 13) 0 [gd]/\Sw yG oO.drew.heap.size #[B3,lQ,E3] λsy=>
 Sw sy w #[di,cW,dV,dc,eM,mc,gP,g9,iR,B3,lQ,E3,kx,gd,vO,si] λum=>
 ∃Uw,Uw<A2/\aP [ao,aj,aw]/\aP [af,af,af,af,af,.slice none 0 0,.slice none 0 0,.slice none 0 0,.slice none 0 0,af,af,.slice none 0 0,af,af,.slice none 0 0,.slice none 0 0]/\aP [x4,x5,x6,x7,x8,s9,cL,eJ,eH]/\MU Uw ((ai (de+1))) di cW dV dc eM mc gP g9 iR B3 lQ E3 kx gd vO si um))))
 (∃Uw,Uw<A2/\aP [ao,aj,aw]/\aP [af,af,af,af,af,.slice none 0 0,.slice none 0 0,.slice none 0 0,.slice none 0 0,af,af,.slice none 0 0,af,af,.slice none 0 0,.slice none 0 0]/\aP [x4,x5,x6,x7,x8,s9,cL,eJ,eH]/\MU Uw ((ai (de+1))) di cW dV dc eM mc gP g9 iR gn fX MZ kx gd vO si oO))))))
 (Sw iQ w1 #[di,cW,dV,dc,eM,mc,gP,g9,iR,gn,fX,MZ,kx,gd,vO,si] λJh=>
 R (Value.tuple #[.agg #[di,cW,dV,dc,eM,mc,gP,g9,iR,gn,fX,MZ,kx,gd,vO,si],(0:Int)]) Jh))))))):ah 26 #[.agg #[aq,ar,au,aI,aJ,aK,aL,aH,bM,eB,cR,cz,cF,cg,bX,bY],.agg #[ao,aj,aw],a2] w R:=
 cq ⟨[(7,⟨[(11,.int .i64)],[(0,[.int .i64,.int .i64,.int .i64,.int .i64,.int .i64,.slice,.slice,.slice,.slice,.int .i64,.int .i64,.slice,.int .i64,.int .i64,.slice,.slice])],[]⟩)],[],[]⟩ Tryz.func26 h
def Tf.vc{aK:Sl}{aL:Sl}{aH:Sl}{bM:Sl}{cR:Int}{cz:Sl}{cF:Int}{cg:Int}{bX:Sl}{bY:Sl}(h:
 Aw w #[aq,ar,au,aI,aJ,aK,aL,aH,bM,eB,cR,cz,cF,cg,bX,bY] 39 λw0=>
 Aw w0 #[ao,aj,aw] 23 λw1=>
 ah 22 #[.agg #[aq,ar,au,aI,aJ,aK,aL,aH],.agg #[ao,aj,aw]] w1 (Ri λx3 w2=>K2 w w0 w1 w2 (
 R x3 w2))):ah 57 #[.agg #[aq,ar,au,aI,aJ,aK,aL,aH,bM,eB,cR,cz,cF,cg,bX,bY],.agg #[ao,aj,aw]] w R:=
 cq cf Tryz.func57 h
def KL.vc(h:
 Aw w #[aq,ar,au] 23 λw0=>
 ah 100 #[.agg #[aq,ar,au],(-1:Int),(0:Int),(0:Int)] w0.drew (Je λx2 x3 x4 w1=>Kp w w0.drew w1/\
 av w1 w 0 [aq,ar,au]/\av w1 w 0 [aq,ar,au]/\av w1 w 0 [aq,ar,au]/\av w1 w 0 [aq,ar,au]/\av w1 w 0 [aq,ar,au]/\av w1 w 0 [aq,ar,au]/\ah 100 #[.agg #[aq,ar,au],(1:Int),(0:Int),(0:Int)] w1 (Je λx6 x7 x8 w5=>Kp w w1 w5/\
 av w5 w 0 [aq,ar,au]/\av w5 w 0 [aq,ar,au]/\av w5 w 0 [aq,ar,au]/\av w5 w 0 [aq,ar,au]/\av w5 w 0 [aq,ar,au]/\ah 100 #[.agg #[aq,ar,au],(0:Int),(-1:Int),(0:Int)] w5 (Je λbr bV bT w9=>Kp w w5 w9/\
 av w9 w 0 [aq,ar,au]/\av w9 w 0 [aq,ar,au]/\av w9 w 0 [aq,ar,au]/\av w9 w 0 [aq,ar,au]/\ah 100 #[.agg #[aq,ar,au],(0:Int),(1:Int),(0:Int)] w9 (Je λcl bA cY cA=>Kp w w9 cA/\
 av cA w 0 [aq,ar,au]/\av cA w 0 [aq,ar,au]/\av cA w 0 [aq,ar,au]/\ah 100 #[.agg #[aq,ar,au],(0:Int),(0:Int),(-1:Int)] cA (Je λcn cN dK cC=>Kp w cA cC/\
 av cC w 0 [aq,ar,au]/\av cC w 0 [aq,ar,au]/\ah 100 #[.agg #[aq,ar,au],(0:Int),(0:Int),(1:Int)] cC (Je λeY de di ea=>Kp w cC ea/\
 av ea w 0 [aq,ar,au]/\Aw ea #[aq,ar,au,x2,x3,x4,x6,x7,x8,br,bV,bT,cl,bA,cY,cn,cN,dK,eY,de,di] 23 λeg=>
 R (Value.slice (bu ea) 7 7) eg))))))):ah 55 #[.agg #[aq,ar,au]] w R:=
 cq cf Tryz.func55 h
def Hm.vc(h:
 Br (a0==3)
 (R (2:Int) w)
 (ah 101 #[a0] w (λe w0=>∃(b1:Bool),e=b1/\
 Br b1
 (R (5:Int) w0)
 (R (0:Int) w0)))):ah 56 #[a0] w R:=
 cq cf Tryz.func56 h
def R0.vc(h:
 Aw w #[aq,ar,au] 23 λw0=>
 Aw w0 #[af,af,af] 23 λw1=>
 Sw w1 w0 #[(ai (aq+a1)),(ai (ar+a2)),(ai (au+a3))] λw2=>
 R (Value.agg #[(ai (aq+a1)),(ai (ar+a2)),(ai (au+a3))]) w2):ah 100 #[.agg #[aq,ar,au],a1,a2,a3] w R:=
 cq cf Tryz.func100 h
def CS.vc(h:
 Br (a0>=8)
 (R (Value.bool (decide (a0<=15))) w)
 (R false w)):ah 101 #[a0] w R:=
 cq cf Tryz.func101 h
def ON.vc{au:Sl}(h:
 Aw w #[aq,ar,au] 36 λw0=>
 Aw w0 #[ao,aj,aw] 23 λw1=>
 Aw w1 #[af,af,.slice none 0 0] 36 λw2=>
 ah 102 #[.agg #[aq,ar,au],.agg #[ao,aj,aw]] w2 (Ri λx4 w3=>K3 w w0 w1 w2 w3 (
 Br (x4>=0)
 (cB au.a x4 au.n/\bn (eQ (ae au.a ((x4:Int).toNat*4))) (∃(x5:Int),ld w3 (ae (ae au.a ((x4:Int).toNat*4)) 0)=some (.int .i64 x5)/\
 Br (x5<=a2)
 (Sw w3 w1 #[aq,ar,au] λw6=>
 R (Value.tuple #[.agg #[aq,ar,au],false]) w6)
 (ah 103 #[.agg #[aq,ar,au],.agg #[ao,aj,aw]] w3 (λe w7=>∃(x8 x9:Int)(cL:Sl)(Fo:Bool),e=Value.tuple #[.agg #[x8,x9,cL],Fo]/\K3 w w0 w1 w3 w7 (
 Aw w7 #[af,af,.slice none 0 0] 36 λbR=>
 Sw bR w7 #[x8,x9,cL] λcA=>
 Sw cA w #[x8,x9,cL] λcm=>
 Br (x4<0)
 (Br (decide ((((cL.n:Nat):Int):Int)>=x8))
 (Sw cm w #[x8,(ai (x9+1)),cL] λcS=>
 Sw cS w1 #[x8,(ai (x9+1)),cL] λdy=>
 R (Value.tuple #[.agg #[x8,(ai (x9+1)),cL],false]) dy)
 (∃I17:Nat->Int->World->Prop,
 (∃Pz,aP [x8,x9,cL]/\aP [ao,aj,aw]/\aP [af,af,.slice none 0 0]/\aP [x8,x9,cL]/\I17 Pz (((cL.n:Nat):Int)) cm)/\
 ∀(Pz:Nat)(aqI:Nat->Value)(dK:Int)(ea:World),I17 Pz dK ea->
 Br (dK>0)
 (cB cL.a (ai (dK-1)) cL.n/\bn (eQ (ae cL.a (((ai (dK-1)):Int).toNat*4))) (∃(de:Int),ld ea (ae (ae cL.a (((ai (dK-1)):Int).toNat*4)) 0)=some (.int .i64 de)/\
 Br (de>a2)
 (∃n22,n22<Pz/\aP [x8,x9,cL]/\aP [ao,aj,aw]/\aP [af,af,.slice none 0 0]/\aP [x8,x9,cL]/\I17 n22 ((ai (dK-1))) ea)
 ((0:Int)<=dK/\dK<=((cL.c:Nat):Int)/\∃l24:LV,Rd ea (aA cL.a (0) (cL.c) 4) l24/\aF 32 4 ea ⟨none,0,0⟩ ((dK:Int).toNat-0) l24/\∀(mb:Sl)(g7:World),aD 79 4 ea ⟨none,0,0⟩ ((dK:Int).toNat-0) l24 mb g7->K4 w w0 w1 w7 ea g7 (
 Aw g7 #[a2,ao,aj,aw] 79 λjb=>
 aF 32 4 jb mb 1 [a2,ao,aj,aw]/\∀(sB:Sl)(fJ:World),aD 79 4 jb mb 1 [a2,ao,aj,aw] sB fJ->K5 w w0 w1 w7 g7 jb fJ (
 (0:Int)<=dK/\dK<=((cL.n:Nat):Int)/\∃l30:LV,Rd fJ (aA cL.a ((dK:Int).toNat) (cL.c) 4) l30/\aF 32 4 fJ sB (cL.n-(dK:Int).toNat) l30/\∀(g9:Sl)(yJ:World),aD 79 4 fJ sB (cL.n-(dK:Int).toNat) l30 g9 yJ->K5 w w0 w1 w7 g7 fJ yJ (
 Sw yJ w #[x8,x9,g9] λlz=>
 Sw lz w1 #[x8,x9,g9] λly=>
 R (Value.tuple #[.agg #[x8,x9,g9],true]) ly))))))
 ((0:Int)<=dK/\dK<=((cL.c:Nat):Int)/\∃l35:LV,Rd ea (aA cL.a (0) (cL.c) 4) l35/\aF 32 4 ea ⟨none,0,0⟩ ((dK:Int).toNat-0) l35/\∀(o4:Sl)(jj:World),aD 79 4 ea ⟨none,0,0⟩ ((dK:Int).toNat-0) l35 o4 jj->K4 w w0 w1 w7 ea jj (
 Aw jj #[a2,ao,aj,aw] 79 λqx=>
 aF 32 4 qx o4 1 [a2,ao,aj,aw]/\∀(si:Sl)(iQ:World),aD 79 4 qx o4 1 [a2,ao,aj,aw] si iQ->K5 w w0 w1 w7 jj qx iQ (
 (0:Int)<=dK/\dK<=((cL.n:Nat):Int)/\∃l41:LV,Rd iQ (aA cL.a ((dK:Int).toNat) (cL.c) 4) l41/\aF 32 4 iQ si (cL.n-(dK:Int).toNat) l41/\∀(nA:Sl)(pY:World),aD 79 4 iQ si (cL.n-(dK:Int).toNat) l41 nA pY->K5 w w0 w1 w7 jj iQ pY (
 Sw pY w #[x8,x9,nA] λjz=>
 Sw jz w1 #[x8,x9,nA] λDr=>
 R (Value.tuple #[.agg #[x8,x9,nA],true]) Dr))))))
 (∃I46:Nat->Int->World->Prop,
 (∃n47,aP [x8,x9,cL]/\aP [ao,aj,aw]/\aP [af,af,.slice none 0 0]/\aP [x8,x9,cL]/\I46 n47 (((cL.n:Nat):Int)) cm)/\
 ∀(n47:Nat)(aqJ:Nat->Value)(jY:Int)(xc:World),I46 n47 jY xc->
 Br (jY>0)
 (cB cL.a (ai (jY-1)) cL.n/\bn (eQ (ae cL.a (((ai (jY-1)):Int).toNat*4))) (∃(wS:Int),ld xc (ae (ae cL.a (((ai (jY-1)):Int).toNat*4)) 0)=some (.int .i64 wS)/\
 Br (wS>a2)
 (∃Px,Px<n47/\aP [x8,x9,cL]/\aP [ao,aj,aw]/\aP [af,af,.slice none 0 0]/\aP [x8,x9,cL]/\I46 Px ((ai (jY-1))) xc)
 ((0:Int)<=jY/\jY<=((cL.c:Nat):Int)/\∃l53:LV,Rd xc (aA cL.a (0) (cL.c) 4) l53/\aF 32 4 xc ⟨none,0,0⟩ ((jY:Int).toNat-0) l53/\∀(Bn:Sl)(A5:World),aD 79 4 xc ⟨none,0,0⟩ ((jY:Int).toNat-0) l53 Bn A5->K4 w w0 w1 w7 xc A5 (
 Aw A5 #[a2,ao,aj,aw] 79 λMX=>
 aF 32 4 MX Bn 1 [a2,ao,aj,aw]/\∀(Ql:Sl)(A8:World),aD 79 4 MX Bn 1 [a2,ao,aj,aw] Ql A8->K5 w w0 w1 w7 A5 MX A8 (
 (0:Int)<=jY/\jY<=((cL.n:Nat):Int)/\∃l59:LV,Rd A8 (aA cL.a ((jY:Int).toNat) (cL.c) 4) l59/\aF 32 4 A8 Ql (cL.n-(jY:Int).toNat) l59/\∀(U8:Sl)(yG:World),aD 79 4 A8 Ql (cL.n-(jY:Int).toNat) l59 U8 yG->K5 w w0 w1 w7 A5 A8 yG (
 Sw yG w #[x8,x9,U8] λAV=>
 Sw AV w1 #[x8,x9,U8] λw63=>
 R (Value.tuple #[.agg #[x8,x9,U8],true]) w63))))))
 ((0:Int)<=jY/\jY<=((cL.c:Nat):Int)/\∃l64:LV,Rd xc (aA cL.a (0) (cL.c) 4) l64/\aF 32 4 xc ⟨none,0,0⟩ ((jY:Int).toNat-0) l64/\∀(TL:Sl)(sy:World),aD 79 4 xc ⟨none,0,0⟩ ((jY:Int).toNat-0) l64 TL sy->K4 w w0 w1 w7 xc sy (
 Aw sy #[a2,ao,aj,aw] 79 λum=>
 aF 32 4 um TL 1 [a2,ao,aj,aw]/\∀(s68:Sl)(lA:World),aD 79 4 um TL 1 [a2,ao,aj,aw] s68 lA->K5 w w0 w1 w7 sy um lA (
 (0:Int)<=jY/\jY<=((cL.n:Nat):Int)/\∃l70:LV,Rd lA (aA cL.a ((jY:Int).toNat) (cL.c) 4) l70/\aF 32 4 lA s68 (cL.n-(jY:Int).toNat) l70/\∀(Jt:Sl)(w72:World),aD 79 4 lA s68 (cL.n-(jY:Int).toNat) l70 Jt w72->K5 w w0 w1 w7 sy lA w72 (
 Sw w72 w #[x8,x9,Jt] λw73=>
 Sw w73 w1 #[x8,x9,Jt] λw74=>
 R (Value.tuple #[.agg #[x8,x9,Jt],true]) w74))))))))))
 (Br (x4<0)
 (Br (decide ((((au.n:Nat):Int):Int)>=aq))
 (Sw w3 w #[aq,(ai (ar+1)),au] λJj=>
 Sw Jj w1 #[aq,(ai (ar+1)),au] λBu=>
 R (Value.tuple #[.agg #[aq,(ai (ar+1)),au],false]) Bu)
 (∃I77:Nat->Int->World->Prop,
 (∃n78,aP [aq,ar,au]/\aP [ao,aj,aw]/\aP [af,af,.slice none 0 0]/\I77 n78 (((au.n:Nat):Int)) w3)/\
 ∀(n78:Nat)(aqK:Nat->Value)(oQ:Int)(wT:World),I77 n78 oQ wT->
 Br (oQ>0)
 (cB au.a (ai (oQ-1)) au.n/\bn (eQ (ae au.a (((ai (oQ-1)):Int).toNat*4))) (∃(wR:Int),ld wT (ae (ae au.a (((ai (oQ-1)):Int).toNat*4)) 0)=some (.int .i64 wR)/\
 Br (wR>a2)
 (∃n82,n82<n78/\aP [aq,ar,au]/\aP [ao,aj,aw]/\aP [af,af,.slice none 0 0]/\I77 n82 ((ai (oQ-1))) wT)
 ((0:Int)<=oQ/\oQ<=((au.c:Nat):Int)/\∃l84:LV,Rd wT (aA au.a (0) (au.c) 4) l84/\aF 32 4 wT ⟨none,0,0⟩ ((oQ:Int).toNat-0) l84/\∀(PU:Sl)(AZ:World),aD 79 4 wT ⟨none,0,0⟩ ((oQ:Int).toNat-0) l84 PU AZ->K3 w w0 w1 wT AZ (
 Aw AZ #[a2,ao,aj,aw] 79 λpZ=>
 aF 32 4 pZ PU 1 [a2,ao,aj,aw]/\∀(s88:Sl)(FG:World),aD 79 4 pZ PU 1 [a2,ao,aj,aw] s88 FG->K4 w w0 w1 AZ pZ FG (
 (0:Int)<=oQ/\oQ<=((au.n:Nat):Int)/\∃l90:LV,Rd FG (aA au.a ((oQ:Int).toNat) (au.c) 4) l90/\aF 32 4 FG s88 (au.n-(oQ:Int).toNat) l90/\∀(s91:Sl)(wU:World),aD 79 4 FG s88 (au.n-(oQ:Int).toNat) l90 s91 wU->K4 w w0 w1 AZ FG wU (
 Sw wU w #[aq,ar,s91] λPy=>
 Sw Py w1 #[aq,ar,s91] λw94=>
 R (Value.tuple #[.agg #[aq,ar,s91],true]) w94))))))
 ((0:Int)<=oQ/\oQ<=((au.c:Nat):Int)/\∃l95:LV,Rd wT (aA au.a (0) (au.c) 4) l95/\aF 32 4 wT ⟨none,0,0⟩ ((oQ:Int).toNat-0) l95/\∀(s96:Sl)(se:World),aD 79 4 wT ⟨none,0,0⟩ ((oQ:Int).toNat-0) l95 s96 se->K3 w w0 w1 wT se (
 Aw se #[a2,ao,aj,aw] 79 λM3=>
 aF 32 4 M3 s96 1 [a2,ao,aj,aw]/\∀(IP:Sl)(E0:World),aD 79 4 M3 s96 1 [a2,ao,aj,aw] IP E0->K4 w w0 w1 se M3 E0 (
 (0:Int)<=oQ/\oQ<=((au.n:Nat):Int)/\∃abu:LV,Rd E0 (aA au.a ((oQ:Int).toNat) (au.c) 4) abu/\aF 32 4 E0 IP (au.n-(oQ:Int).toNat) abu/\∀(Ja:Sl)(abv:World),aD 79 4 E0 IP (au.n-(oQ:Int).toNat) abu Ja abv->K4 w w0 w1 se E0 abv (
 Sw abv w #[aq,ar,Ja] λE9=>
 Sw E9 w1 #[aq,ar,Ja] λakM=>
 R (Value.tuple #[.agg #[aq,ar,Ja],true]) akM))))))
 (∃abw:Nat->Int->World->Prop,
 (∃Xn,aP [aq,ar,au]/\aP [ao,aj,aw]/\aP [af,af,.slice none 0 0]/\abw Xn (((au.n:Nat):Int)) w3)/\
 ∀(Xn:Nat)(ana:Nat->Value)(ie:Int)(fY:World),abw Xn ie fY->
 Br (ie>0)
 (cB au.a (ai (ie-1)) au.n/\bn (eQ (ae au.a (((ai (ie-1)):Int).toNat*4))) (∃(mJ:Int),ld fY (ae (ae au.a (((ai (ie-1)):Int).toNat*4)) 0)=some (.int .i64 mJ)/\
 Br (mJ>a2)
 (∃aeY,aeY<Xn/\aP [aq,ar,au]/\aP [ao,aj,aw]/\aP [af,af,.slice none 0 0]/\abw aeY ((ai (ie-1))) fY)
 ((0:Int)<=ie/\ie<=((au.c:Nat):Int)/\∃abx:LV,Rd fY (aA au.a (0) (au.c) 4) abx/\aF 32 4 fY ⟨none,0,0⟩ ((ie:Int).toNat-0) abx/\∀(aby:Sl)(Ux:World),aD 79 4 fY ⟨none,0,0⟩ ((ie:Int).toNat-0) abx aby Ux->K3 w w0 w1 fY Ux (
 Aw Ux #[a2,ao,aj,aw] 79 λabz=>
 aF 32 4 abz aby 1 [a2,ao,aj,aw]/\∀(Cn:Sl)(vN:World),aD 79 4 abz aby 1 [a2,ao,aj,aw] Cn vN->K4 w w0 w1 Ux abz vN (
 (0:Int)<=ie/\ie<=((au.n:Nat):Int)/\∃abA:LV,Rd vN (aA au.a ((ie:Int).toNat) (au.c) 4) abA/\aF 32 4 vN Cn (au.n-(ie:Int).toNat) abA/\∀(mI:Sl)(Uo:World),aD 79 4 vN Cn (au.n-(ie:Int).toNat) abA mI Uo->K4 w w0 w1 Ux vN Uo (
 Sw Uo w #[aq,ar,mI] λWX=>
 Sw WX w1 #[aq,ar,mI] λWY=>
 R (Value.tuple #[.agg #[aq,ar,mI],true]) WY))))))
 ((0:Int)<=ie/\ie<=((au.c:Nat):Int)/\∃abB:LV,Rd fY (aA au.a (0) (au.c) 4) abB/\aF 32 4 fY ⟨none,0,0⟩ ((ie:Int).toNat-0) abB/\∀(LK:Sl)(IV:World),aD 79 4 fY ⟨none,0,0⟩ ((ie:Int).toNat-0) abB LK IV->K3 w w0 w1 fY IV (
 Aw IV #[a2,ao,aj,aw] 79 λE4=>
 aF 32 4 E4 LK 1 [a2,ao,aj,aw]/\∀(Fj:Sl)(IW:World),aD 79 4 E4 LK 1 [a2,ao,aj,aw] Fj IW->K4 w w0 w1 IV E4 IW (
 (0:Int)<=ie/\ie<=((au.n:Nat):Int)/\∃abC:LV,Rd IW (aA au.a ((ie:Int).toNat) (au.c) 4) abC/\aF 32 4 IW Fj (au.n-(ie:Int).toNat) abC/\∀(vR:Sl)(abD:World),aD 79 4 IW Fj (au.n-(ie:Int).toNat) abC vR abD->K4 w w0 w1 IV IW abD (
 Sw abD w #[aq,ar,vR] λLW=>
 Sw LW w1 #[aq,ar,vR] λakN=>
 R (Value.tuple #[.agg #[aq,ar,vR],true]) akN))))))))):ah 58 #[.agg #[aq,ar,au],.agg #[ao,aj,aw],a2] w R:=
 cq ⟨[(11,⟨[(11,.int .i64)],[],[]⟩),(11,⟨[(11,.int .i64)],[],[]⟩),(11,⟨[(11,.int .i64)],[],[]⟩),(11,⟨[(11,.int .i64)],[],[]⟩)],[],[]⟩ Tryz.func58 h
def Ll.vc{au:Sl}(h:
 Aw w #[aq,ar,au] 36 λw0=>
 Aw w0 #[ao,aj,aw] 23 λw1=>
 ∃I2:Nat->Int->World->Prop,
 (∃n3,aP [aq,ar,au]/\aP [ao,aj,aw]/\I2 n3 (0) w1)/\
 ∀(n3:Nat)(U3:Nat->Value)(x5:Int)(w6:World),I2 n3 x5 w6->
 Br (decide (x5<((au.n:Nat):Int)))
 (cB au.a x5 au.n/\bn (eQ (ae au.a ((x5:Int).toNat*4))) (∃(x8 x9 br:Int),av w6.drew (ae (ae au.a ((x5:Int).toNat*4)) 1) 0 [x8,x9,br]/\
 Br ((x8==ao) &&((x9==aj) &&(br==aw)))
 (R x5 w6.drew)
 (∃n7,n7<n3/\aP [aq,ar,au]/\aP [ao,aj,aw]/\I2 n7 ((ai (x5+1))) w6.drew)))
 (R (Value.int .i64 (-1)) w6)):ah 102 #[.agg #[aq,ar,au],.agg #[ao,aj,aw]] w R:=
 cq ⟨[(2,⟨[(5,.int .i64)],[],[]⟩)],[],[]⟩ Tryz.func102 h
def KH.vc{au:Sl}(h:
 Aw w #[aq,ar,au] 36 λw0=>
 Aw w0 #[ao,aj,aw] 23 λw1=>
 Aw w1 #[af,af,.slice none 0 0] 36 λw2=>
 ah 102 #[.agg #[aq,ar,au],.agg #[ao,aj,aw]] w2 (Ri λx4 w3=>K3 w w0 w1 w2 w3 (
 Br (x4<0)
 (Sw w3 w1 #[aq,ar,au] λw5=>
 R (Value.tuple #[.agg #[aq,ar,au],false]) w5)
 ((0:Int)<=x4/\x4<=((au.c:Nat):Int)/\∃l6:LV,Rd w3 (aA au.a (0) (au.c) 4) l6/\aF 32 4 w3 ⟨none,0,0⟩ ((x4:Int).toNat-0) l6/\∀(s7:Sl)(w8:World),aD 79 4 w3 ⟨none,0,0⟩ ((x4:Int).toNat-0) l6 s7 w8->K3 w w0 w1 w3 w8 (
 (0:Int)<=(ai (x4+1))/\(ai (x4+1))<=((au.n:Nat):Int)/\∃l9:LV,Rd w8 (aA au.a (((ai (x4+1)):Int).toNat) (au.c) 4) l9/\aF 32 4 w8 s7 (au.n-((ai (x4+1)):Int).toNat) l9/\∀(cL:Sl)(cH:World),aD 79 4 w8 s7 (au.n-((ai (x4+1)):Int).toNat) l9 cL cH->K3 w w0 w1 w8 cH (
 Sw cH w #[aq,ar,cL] λbR=>
 Sw bR w1 #[aq,ar,cL] λcA=>
 R (Value.tuple #[.agg #[aq,ar,cL],true]) cA)))))):ah 103 #[.agg #[aq,ar,au],.agg #[ao,aj,aw]] w R:=
 cq cf Tryz.func103 h
def Iq.vc(h:
 ah 44 #[a0,(8:Int)] w (λe w0=>∃(x1:Int),e=x1/\
 Br (x1==7)
 (ah 53 #[a0] w0 (λe w2=>∃(x3:Int),e=x3/\
 R x3 w2))
 (Aw w0 #[(3:Int),(3:Int),(8:Int),(8:Int),(1:Int),af,(4:Int)] 3 λw4=>
 cB (bu w0) x1 7/\∃(x5:Int),ld w4 (ae (bu w0) ((x1:Int).toNat*1))=some (.int .i64 x5)/\
 R x5 w4))):ah 25 #[a0] w R:=
 cq cf Tryz.func25 h
def Ir.vc{a0:Sl}(h:
 ∃I0:Nat->Int->Sl->World->Prop,
 (∃n1,I0 n1 (0) ⟨none,0,0⟩ w)/\
 ∀(n1:Nat)(oX:Nat->Value)(x3:Int)(s4:Sl)(w5:World),I0 n1 x3 s4 w5->
 Br (decide (x3<((a0.n:Nat):Int)))
 (cB a0.a x3 a0.n/\bn (eQ (ae a0.a ((x3:Int).toNat*4))) (∃(x7:Int),ld w5.drew (ae (ae a0.a ((x3:Int).toNat*4)) 0)=some (.int .i64 x7)/\
 cB a0.a x3 a0.n/\bn (eQ (ae a0.a ((x3:Int).toNat*4))) (∃(x8 x9 br:Int),av w5.drew (ae (ae a0.a ((x3:Int).toNat*4)) 1) 0 [x8,x9,br]/\
 Aw w5.drew #[x7,x8,x9,br] 79 λcH=>
 aF 32 4 cH s4 1 [x7,x8,x9,br]/\∀(eH:Sl)(cA:World),aD 79 4 cH s4 1 [x7,x8,x9,br] eH cA->cA.heap[w5.drew.heap.size]? =cH.heap[w5.drew.heap.size]?/\
 ∃n6,n6<n1/\I0 n6 ((ai (x3+1))) eH cA)))
 (R s4 w5)):ah 31 #[a0] w R:=
 cq ⟨[(3,⟨[(4,.int .i64),(3,.slice)],[],[]⟩)],[],[]⟩ Tryz.func31 h
end Go.Proofs.YtalpkjfpmdpbiaaGreatDoor
