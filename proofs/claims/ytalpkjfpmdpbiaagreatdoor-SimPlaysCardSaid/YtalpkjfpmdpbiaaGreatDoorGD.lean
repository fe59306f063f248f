import Derived.Test.YtalpkjfpmdpbiaaGreatDoorGC
set_option linter.all false
namespace Go.Proofs.YtalpkjfpmdpbiaaGreatDoor
open Go Go.Vc Go.RowKit Go.Proofs
set_option maxRecDepth 100000
set_option maxHeartbeats 8000000
set_option linter.unusedVariables false
variable {R:Ending->World->Prop} {w:World} {a0 a1 a2 a3 a4 a5 a6 a7 a8 a9 aq ar av aI aJ aK aL aH bO eE ao ak aw dB gn gB gC gD fM gE db dR dO ln lO nv ym yn yp yq yt yu yw yx yy yz yA yB yC yD:Int}
def L4.vc{aK:Sl}{aL:Sl}{aH:Sl}{bO:Sl}{cT:Int}{cD:Sl}{cH:Int}{cn:Int}{cg:Sl}{cj:Sl}(h:
 Aw w #[aq,ar,av,aI,aJ,aK,aL,aH,bO,eE,cT,cD,cH,cn,cg,cj] 39 λw0=>
 Aw w0 #[ao,ak,aw] 23 λw1=>
 Aw w1 #[af,af,af,af,af,.slice none 0 0,.slice none 0 0,.slice none 0 0,.slice none 0 0,af,af,.slice none 0 0,af,af,.slice none 0 0,.slice none 0 0] 39 λw2=>
 ah 54 #[.agg #[aq,ar,av,aI,aJ,aK,aL,aH,bO],.agg #[ao,ak,aw],a2] w2 (λe w3=>∃(x4 x5 x6 x7 x8:Int)(s9 cO eO eM:Sl)(cz:Int),e=Value.tuple #[.agg #[x4,x5,x6,x7,x8,s9,cO,eO,eM],cz]/\K3 w w0 w1 w2 w3 (
 Aw w3 #[af,af,af,af,af,.slice none 0 0,.slice none 0 0,.slice none 0 0,.slice none 0 0] 33 λbY=>
 Sw bY w3 #[x4,x5,x6,x7,x8,s9,cO,eO,eM] λcU=>
 Sw cU w #[x4,x5,x6,x7,x8,s9,cO,eO,eM,eE,cT,cD,cH,cn,cg,cj] λcY=>
 Br (cz !=0)
 (Sw cY w1 #[x4,x5,x6,x7,x8,s9,cO,eO,eM,eE,cT,cD,cH,cn,cg,cj] λcE=>
 R (Value.tuple #[.agg #[x4,x5,x6,x7,x8,s9,cO,eO,eM,eE,cT,cD,cH,cn,cg,cj],cz]) cE)
 (ah 55 #[.agg #[ao,ak,aw]] cY (Rs λpg dA=>K4 w w0 w1 w3 cY dA (
 ∃NK:Nat->Int->Int->Int->Int->Int->Int->Sl->Sl->Sl->Sl->Int->Int->Sl->Int->Int->Sl->Sl->World->Prop,
 (∃Bp,aP [ao,ak,aw]/\aP [af,af,af,af,af,.slice none 0 0,.slice none 0 0,.slice none 0 0,.slice none 0 0,af,af,.slice none 0 0,af,af,.slice none 0 0,.slice none 0 0]/\aP [x4,x5,x6,x7,x8,s9,cO,eO,eM]/\NK Bp (0) x4 x5 x6 x7 x8 s9 cO eO eM eE cT cD cH cn cg cj dA)/\
 ∀(Bp:Nat)(aeg:Nat->Value)(dc de da dZ dp eS:Int)(mf g7 ib iW:Sl)(gx gf:Int)(NQ:Sl)(kF gk:Int)(wD sU:Sl)(iV:World),NK Bp dc de da dZ dp eS mf g7 ib iW gx gf NQ kF gk wD sU iV->
 Br (decide (dc<((pg.n:Nat):Int)))
 (cA pg.a dc pg.n/\∃(lU kG jI:Int),au iV.drew (ae pg.a ((dc:Int).toNat*3)) 0 [lU,kG,jI]/\
 ah 57 #[.agg #[de,da,dZ,dp,eS,mf,g7,ib,iW,gx,gf,NQ,kF,gk,wD,sU],.agg #[lU,kG,jI]] iV.drew (Ri λpj DS=>K4 w w0 w1 w3 iV.drew DS (
 ah 56 #[pj] DS (Ri λsH oV=>K4 w w0 w1 w3 DS oV (
 Br (sH>0)
 (cA pg.a dc pg.n/\∃(j4 CC VK:Int),au oV.drew (ae pg.a ((dc:Int).toNat*3)) 0 [j4,CC,VK]/\
 (ah 58 #[.agg #[gx,gf,NQ],.agg #[j4,CC,VK],(ai (gk+sH))] oV.drew (λe Gh=>∃(uO uW:Int)(FJ:Sl)(b56:Bool),e=Value.tuple #[.agg #[uO,uW,FJ],b56]/\K4 w w0 w1 w3 oV.drew Gh (
 au Gh (lX w 13) 0 [gk]/\Aw Gh #[af,af,.slice none 0 0] 36 λVI=>
 Sw VI Gh #[uO,uW,FJ] λBy=>
 Sw By w #[de,da,dZ,dp,eS,mf,g7,ib,iW,uO,uW,FJ,kF,gk,wD,sU] λXv=>
 ∃U9,U9<Bp/\aP [ao,ak,aw]/\aP [af,af,af,af,af,.slice none 0 0,.slice none 0 0,.slice none 0 0,.slice none 0 0,af,af,.slice none 0 0,af,af,.slice none 0 0,.slice none 0 0]/\aP [x4,x5,x6,x7,x8,s9,cO,eO,eM]/\NK U9 ((ai (dc+1))) de da dZ dp eS mf g7 ib iW uO uW FJ kF gk wD sU Xv)))/\(Aw oV.drew #[af,af,.slice none 0 0] 36 λBQ=>
 ah 58 #[.agg #[gx,gf,NQ],.agg #[j4,CC,VK],(ai (gk+sH))] BQ (λe yY=>∃(Cw lQ:Int)(FD:Sl)(b65:Bool),e=Value.tuple #[.agg #[Cw,lQ,FD],b65]/\K4 w w0 w1 w3 BQ yY (
 yY.heap[oV.drew.heap.size]? =BQ.heap[oV.drew.heap.size]?/\
 au yY (lX w 13) 0 [gk]/\Sw yY oV.drew.heap.size #[Cw,lQ,FD] λsI=>
 Sw sI w #[de,da,dZ,dp,eS,mf,g7,ib,iW,Cw,lQ,FD,kF,gk,wD,sU] λsJ=>
 ∃U9,U9<Bp/\aP [ao,ak,aw]/\aP [af,af,af,af,af,.slice none 0 0,.slice none 0 0,.slice none 0 0,.slice none 0 0,af,af,.slice none 0 0,af,af,.slice none 0 0,.slice none 0 0]/\aP [x4,x5,x6,x7,x8,s9,cO,eO,eM]/\NK U9 ((ai (dc+1))) de da dZ dp eS mf g7 ib iW Cw lQ FD kF gk wD sU sJ))))
 (∃U9,U9<Bp/\aP [ao,ak,aw]/\aP [af,af,af,af,af,.slice none 0 0,.slice none 0 0,.slice none 0 0,.slice none 0 0,af,af,.slice none 0 0,af,af,.slice none 0 0,.slice none 0 0]/\aP [x4,x5,x6,x7,x8,s9,cO,eO,eM]/\NK U9 ((ai (dc+1))) de da dZ dp eS mf g7 ib iW gx gf NQ kF gk wD sU oV))))))
 (Sw iV w1 #[de,da,dZ,dp,eS,mf,g7,ib,iW,gx,gf,NQ,kF,gk,wD,sU] λJU=>
 R (Value.tuple #[.agg #[de,da,dZ,dp,eS,mf,g7,ib,iW,gx,gf,NQ,kF,gk,wD,sU],(0:Int)]) JU))))))):ah 26 #[.agg #[aq,ar,av,aI,aJ,aK,aL,aH,bO,eE,cT,cD,cH,cn,cg,cj],.agg #[ao,ak,aw],a2] w R:=
 cq ⟨[(7,⟨[(11,.int .i64)],[(0,[.int .i64,.int .i64,.int .i64,.int .i64,.int .i64,.slice,.slice,.slice,.slice,.int .i64,.int .i64,.slice,.int .i64,.int .i64,.slice,.slice])],[]⟩)],[],[]⟩ Tryz.func26 h
def TL.vc{aK:Sl}{aL:Sl}{aH:Sl}{bO:Sl}{cT:Int}{cD:Sl}{cH:Int}{cn:Int}{cg:Sl}{cj:Sl}(h:
 Aw w #[aq,ar,av,aI,aJ,aK,aL,aH,bO,eE,cT,cD,cH,cn,cg,cj] 39 λw0=>
 Aw w0 #[ao,ak,aw] 23 λw1=>
 ah 22 #[.agg #[aq,ar,av,aI,aJ,aK,aL,aH],.agg #[ao,ak,aw]] w1 (Ri λx3 w2=>K2 w w0 w1 w2 (
 R x3 w2))):ah 57 #[.agg #[aq,ar,av,aI,aJ,aK,aL,aH,bO,eE,cT,cD,cH,cn,cg,cj],.agg #[ao,ak,aw]] w R:=
 cq cc Tryz.func57 h
def Lu.vc(h:
 Aw w #[aq,ar,av] 23 λw0=>
 ah 100 #[.agg #[aq,ar,av],(-1:Int),(0:Int),(0:Int)] w0.drew (G4 λx2 x3 x4 w1=>Kp w w0.drew w1/\
 au w1 w 0 [aq,ar,av]/\au w1 w 0 [aq,ar,av]/\au w1 w 0 [aq,ar,av]/\au w1 w 0 [aq,ar,av]/\au w1 w 0 [aq,ar,av]/\au w1 w 0 [aq,ar,av]/\ah 100 #[.agg #[aq,ar,av],(1:Int),(0:Int),(0:Int)] w1 (G4 λx6 x7 x8 w5=>Kp w w1 w5/\
 au w5 w 0 [aq,ar,av]/\au w5 w 0 [aq,ar,av]/\au w5 w 0 [aq,ar,av]/\au w5 w 0 [aq,ar,av]/\au w5 w 0 [aq,ar,av]/\ah 100 #[.agg #[aq,ar,av],(0:Int),(-1:Int),(0:Int)] w5 (G4 λbq bR bU w9=>Kp w w5 w9/\
 au w9 w 0 [aq,ar,av]/\au w9 w 0 [aq,ar,av]/\au w9 w 0 [aq,ar,av]/\au w9 w 0 [aq,ar,av]/\ah 100 #[.agg #[aq,ar,av],(0:Int),(1:Int),(0:Int)] w9 (G4 λbW bw cQ cC=>Kp w w9 cC/\
 au cC w 0 [aq,ar,av]/\au cC w 0 [aq,ar,av]/\au cC w 0 [aq,ar,av]/\ah 100 #[.agg #[aq,ar,av],(0:Int),(0:Int),(-1:Int)] cC (G4 λcf cK du cE=>Kp w cC cE/\
 au cE w 0 [aq,ar,av]/\au cE w 0 [aq,ar,av]/\ah 100 #[.agg #[aq,ar,av],(0:Int),(0:Int),(1:Int)] cE (G4 λeK dc de ef=>Kp w cE ef/\
 au ef w 0 [aq,ar,av]/\Aw ef #[aq,ar,av,x2,x3,x4,x6,x7,x8,bq,bR,bU,bW,bw,cQ,cf,cK,du,eK,dc,de] 23 λeh=>
 R (Value.slice (bu ef) 7 7) eh))))))):ah 55 #[.agg #[aq,ar,av]] w R:=
 cq cc Tryz.func55 h
def HP.vc(h:
 Br (a0==3)
 (R (2:Int) w)
 (ah 101 #[a0] w (λe w0=>∃(b1:Bool),e=b1/\
 Br b1
 (R (5:Int) w0)
 (R (0:Int) w0)))):ah 56 #[a0] w R:=
 cq cc Tryz.func56 h
def Sy.vc(h:
 Aw w #[aq,ar,av] 23 λw0=>
 Aw w0 #[af,af,af] 23 λw1=>
 Sw w1 w0 #[(ai (aq+a1)),(ai (ar+a2)),(ai (av+a3))] λw2=>
 R (Value.agg #[(ai (aq+a1)),(ai (ar+a2)),(ai (av+a3))]) w2):ah 100 #[.agg #[aq,ar,av],a1,a2,a3] w R:=
 cq cc Tryz.func100 h
def Dj.vc(h:
 Br (a0>=8)
 (R (Value.bool (decide (a0<=15))) w)
 (R false w)):ah 101 #[a0] w R:=
 cq cc Tryz.func101 h
def Pu.vc{av:Sl}(h:
 Aw w #[aq,ar,av] 36 λw0=>
 Aw w0 #[ao,ak,aw] 23 λw1=>
 Aw w1 #[af,af,.slice none 0 0] 36 λw2=>
 ah 102 #[.agg #[aq,ar,av],.agg #[ao,ak,aw]] w2 (Ri λx4 w3=>K3 w w0 w1 w2 w3 (
 Br (x4>=0)
 (cA av.a x4 av.n/\bk (eV (ae av.a ((x4:Int).toNat*4))) (∃(x5:Int),ld w3 (ae (ae av.a ((x4:Int).toNat*4)) 0)=some (.int .i64 x5)/\
 Br (x5<=a2)
 (Sw w3 w1 #[aq,ar,av] λw6=>
 R (Value.tuple #[.agg #[aq,ar,av],false]) w6)
 (ah 103 #[.agg #[aq,ar,av],.agg #[ao,ak,aw]] w3 (λe w7=>∃(x8 x9:Int)(cO:Sl)(F7:Bool),e=Value.tuple #[.agg #[x8,x9,cO],F7]/\K3 w w0 w1 w3 w7 (
 Aw w7 #[af,af,.slice none 0 0] 36 λbS=>
 Sw bS w7 #[x8,x9,cO] λcC=>
 Sw cC w #[x8,x9,cO] λbY=>
 Br (x4<0)
 (Br (decide ((((cO.n:Nat):Int):Int)>=x8))
 (Sw bY w #[x8,(ai (x9+1)),cO] λcU=>
 Sw cU w1 #[x8,(ai (x9+1)),cO] λcY=>
 R (Value.tuple #[.agg #[x8,(ai (x9+1)),cO],false]) cY)
 (∃I17:Nat->Int->World->Prop,
 (∃Qe,aP [x8,x9,cO]/\aP [ao,ak,aw]/\aP [af,af,.slice none 0 0]/\aP [x8,x9,cO]/\I17 Qe (((cO.n:Nat):Int)) bY)/\
 ∀(Qe:Nat)(arf:Nat->Value)(du:Int)(ef:World),I17 Qe du ef->
 Br (du>0)
 (cA cO.a (ai (du-1)) cO.n/\bk (eV (ae cO.a (((ai (du-1)):Int).toNat*4))) (∃(dc:Int),ld ef (ae (ae cO.a (((ai (du-1)):Int).toNat*4)) 0)=some (.int .i64 dc)/\
 Br (dc>a2)
 (∃n22,n22<Qe/\aP [x8,x9,cO]/\aP [ao,ak,aw]/\aP [af,af,.slice none 0 0]/\aP [x8,x9,cO]/\I17 n22 ((ai (du-1))) ef)
 ((0:Int)<=du/\du<=((cO.c:Nat):Int)/\∃l24:LV,Rd ef (aA cO.a (0) (cO.c) 4) l24/\aF 32 4 ef ⟨none,0,0⟩ ((du:Int).toNat-0) l24/\∀(me:Sl)(hZ:World),aE 79 4 ef ⟨none,0,0⟩ ((du:Int).toNat-0) l24 me hZ->K4 w w0 w1 w7 ef hZ (
 Aw hZ #[a2,ao,ak,aw] 79 λjf=>
 aF 32 4 jf me 1 [a2,ao,ak,aw]/\∀(sY:Sl)(fP:World),aE 79 4 jf me 1 [a2,ao,ak,aw] sY fP->K5 w w0 w1 w7 hZ jf fP (
 (0:Int)<=du/\du<=((cO.n:Nat):Int)/\∃l30:LV,Rd fP (aA cO.a ((du:Int).toNat) (cO.c) 4) l30/\aF 32 4 fP sY (cO.n-(du:Int).toNat) l30/\∀(ib:Sl)(y8:World),aE 79 4 fP sY (cO.n-(du:Int).toNat) l30 ib y8->K5 w w0 w1 w7 hZ fP y8 (
 Sw y8 w #[x8,x9,ib] λlz=>
 Sw lz w1 #[x8,x9,ib] λly=>
 R (Value.tuple #[.agg #[x8,x9,ib],true]) ly))))))
 ((0:Int)<=du/\du<=((cO.c:Nat):Int)/\∃l35:LV,Rd ef (aA cO.a (0) (cO.c) 4) l35/\aF 32 4 ef ⟨none,0,0⟩ ((du:Int).toNat-0) l35/\∀(pk:Sl)(hX:World),aE 79 4 ef ⟨none,0,0⟩ ((du:Int).toNat-0) l35 pk hX->K4 w w0 w1 w7 ef hX (
 Aw hX #[a2,ao,ak,aw] 79 λqP=>
 aF 32 4 qP pk 1 [a2,ao,ak,aw]/\∀(sU:Sl)(iV:World),aE 79 4 qP pk 1 [a2,ao,ak,aw] sU iV->K5 w w0 w1 w7 hX qP iV (
 (0:Int)<=du/\du<=((cO.n:Nat):Int)/\∃l41:LV,Rd iV (aA cO.a ((du:Int).toNat) (cO.c) 4) l41/\aF 32 4 iV sU (cO.n-(du:Int).toNat) l41/\∀(nH:Sl)(ql:World),aE 79 4 iV sU (cO.n-(du:Int).toNat) l41 nH ql->K5 w w0 w1 w7 hX iV ql (
 Sw ql w #[x8,x9,nH] λjA=>
 Sw jA w1 #[x8,x9,nH] λDS=>
 R (Value.tuple #[.agg #[x8,x9,nH],true]) DS))))))
 (∃I46:Nat->Int->World->Prop,
 (∃n47,aP [x8,x9,cO]/\aP [ao,ak,aw]/\aP [af,af,.slice none 0 0]/\aP [x8,x9,cO]/\I46 n47 (((cO.n:Nat):Int)) bY)/\
 ∀(n47:Nat)(arh:Nat->Value)(j4:Int)(xD:World),I46 n47 j4 xD->
 Br (j4>0)
 (cA cO.a (ai (j4-1)) cO.n/\bk (eV (ae cO.a (((ai (j4-1)):Int).toNat*4))) (∃(uS:Int),ld xD (ae (ae cO.a (((ai (j4-1)):Int).toNat*4)) 0)=some (.int .i64 uS)/\
 Br (uS>a2)
 (∃Qc,Qc<n47/\aP [x8,x9,cO]/\aP [ao,ak,aw]/\aP [af,af,.slice none 0 0]/\aP [x8,x9,cO]/\I46 Qc ((ai (j4-1))) xD)
 ((0:Int)<=j4/\j4<=((cO.c:Nat):Int)/\∃l53:LV,Rd xD (aA cO.a (0) (cO.c) 4) l53/\aF 32 4 xD ⟨none,0,0⟩ ((j4:Int).toNat-0) l53/\∀(BP:Sl)(za:World),aE 79 4 xD ⟨none,0,0⟩ ((j4:Int).toNat-0) l53 BP za->K4 w w0 w1 w7 xD za (
 Aw za #[a2,ao,ak,aw] 79 λNO=>
 aF 32 4 NO BP 1 [a2,ao,ak,aw]/\∀(QO:Sl)(By:World),aE 79 4 NO BP 1 [a2,ao,ak,aw] QO By->K5 w w0 w1 w7 za NO By (
 (0:Int)<=j4/\j4<=((cO.n:Nat):Int)/\∃l59:LV,Rd By (aA cO.a ((j4:Int).toNat) (cO.c) 4) l59/\aF 32 4 By QO (cO.n-(j4:Int).toNat) l59/\∀(VM:Sl)(yY:World),aE 79 4 By QO (cO.n-(j4:Int).toNat) l59 VM yY->K5 w w0 w1 w7 za By yY (
 Sw yY w #[x8,x9,VM] λBi=>
 Sw Bi w1 #[x8,x9,VM] λw63=>
 R (Value.tuple #[.agg #[x8,x9,VM],true]) w63))))))
 ((0:Int)<=j4/\j4<=((cO.c:Nat):Int)/\∃l64:LV,Rd xD (aA cO.a (0) (cO.c) 4) l64/\aF 32 4 xD ⟨none,0,0⟩ ((j4:Int).toNat-0) l64/\∀(Ul:Sl)(sI:World),aE 79 4 xD ⟨none,0,0⟩ ((j4:Int).toNat-0) l64 Ul sI->K4 w w0 w1 w7 xD sI (
 Aw sI #[a2,ao,ak,aw] 79 λsJ=>
 aF 32 4 sJ Ul 1 [a2,ao,ak,aw]/\∀(s68:Sl)(jz:World),aE 79 4 sJ Ul 1 [a2,ao,ak,aw] s68 jz->K5 w w0 w1 w7 sI sJ jz (
 (0:Int)<=j4/\j4<=((cO.n:Nat):Int)/\∃l70:LV,Rd jz (aA cO.a ((j4:Int).toNat) (cO.c) 4) l70/\aF 32 4 jz s68 (cO.n-(j4:Int).toNat) l70/\∀(J5:Sl)(w72:World),aE 79 4 jz s68 (cO.n-(j4:Int).toNat) l70 J5 w72->K5 w w0 w1 w7 sI jz w72 (
 Sw w72 w #[x8,x9,J5] λw73=>
 Sw w73 w1 #[x8,x9,J5] λw74=>
 R (Value.tuple #[.agg #[x8,x9,J5],true]) w74))))))))))
 (Br (x4<0)
 (Br (decide ((((av.n:Nat):Int):Int)>=aq))
 (Sw w3 w #[aq,(ai (ar+1)),av] λJX=>
 Sw JX w1 #[aq,(ai (ar+1)),av] λBV=>
 R (Value.tuple #[.agg #[aq,(ai (ar+1)),av],false]) BV)
 (∃I77:Nat->Int->World->Prop,
 (∃n78,aP [aq,ar,av]/\aP [ao,ak,aw]/\aP [af,af,.slice none 0 0]/\I77 n78 (((av.n:Nat):Int)) w3)/\
 ∀(n78:Nat)(ari:Nat->Value)(oX:Int)(xA:World),I77 n78 oX xA->
 Br (oX>0)
 (cA av.a (ai (oX-1)) av.n/\bk (eV (ae av.a (((ai (oX-1)):Int).toNat*4))) (∃(xz:Int),ld xA (ae (ae av.a (((ai (oX-1)):Int).toNat*4)) 0)=some (.int .i64 xz)/\
 Br (xz>a2)
 (∃n82,n82<n78/\aP [aq,ar,av]/\aP [ao,ak,aw]/\aP [af,af,.slice none 0 0]/\I77 n82 ((ai (oX-1))) xA)
 ((0:Int)<=oX/\oX<=((av.c:Nat):Int)/\∃l84:LV,Rd xA (aA av.a (0) (av.c) 4) l84/\aF 32 4 xA ⟨none,0,0⟩ ((oX:Int).toNat-0) l84/\∀(Qv:Sl)(y3:World),aE 79 4 xA ⟨none,0,0⟩ ((oX:Int).toNat-0) l84 Qv y3->K3 w w0 w1 xA y3 (
 Aw y3 #[a2,ao,ak,aw] 79 λlV=>
 aF 32 4 lV Qv 1 [a2,ao,ak,aw]/\∀(s88:Sl)(Gi:World),aE 79 4 lV Qv 1 [a2,ao,ak,aw] s88 Gi->K4 w w0 w1 y3 lV Gi (
 (0:Int)<=oX/\oX<=((av.n:Nat):Int)/\∃l90:LV,Rd Gi (aA av.a ((oX:Int).toNat) (av.c) 4) l90/\aF 32 4 Gi s88 (av.n-(oX:Int).toNat) l90/\∀(s91:Sl)(xB:World),aE 79 4 Gi s88 (av.n-(oX:Int).toNat) l90 s91 xB->K4 w w0 w1 y3 Gi xB (
 Sw xB w #[aq,ar,s91] λQd=>
 Sw Qd w1 #[aq,ar,s91] λw94=>
 R (Value.tuple #[.agg #[aq,ar,s91],true]) w94))))))
 ((0:Int)<=oX/\oX<=((av.c:Nat):Int)/\∃l95:LV,Rd xA (aA av.a (0) (av.c) 4) l95/\aF 32 4 xA ⟨none,0,0⟩ ((oX:Int).toNat-0) l95/\∀(s96:Sl)(sQ:World),aE 79 4 xA ⟨none,0,0⟩ ((oX:Int).toNat-0) l95 s96 sQ->K3 w w0 w1 xA sQ (
 Aw sQ #[a2,ao,ak,aw] 79 λNS=>
 aF 32 4 NS s96 1 [a2,ao,ak,aw]/\∀(Gg:Sl)(Fz:World),aE 79 4 NS s96 1 [a2,ao,ak,aw] Gg Fz->K4 w w0 w1 sQ NS Fz (
 (0:Int)<=oX/\oX<=((av.n:Nat):Int)/\∃acd:LV,Rd Fz (aA av.a ((oX:Int).toNat) (av.c) 4) acd/\aF 32 4 Fz Gg (av.n-(oX:Int).toNat) acd/\∀(FV:Sl)(ace:World),aE 79 4 Fz Gg (av.n-(oX:Int).toNat) acd FV ace->K4 w w0 w1 sQ Fz ace (
 Sw ace w #[aq,ar,FV] λFL=>
 Sw FL w1 #[aq,ar,FV] λalq=>
 R (Value.tuple #[.agg #[aq,ar,FV],true]) alq))))))
 (∃acf:Nat->Int->World->Prop,
 (∃XY,aP [aq,ar,av]/\aP [ao,ak,aw]/\aP [af,af,.slice none 0 0]/\acf XY (((av.n:Nat):Int)) w3)/\
 ∀(XY:Nat)(anQ:Nat->Value)(ij:Int)(fo:World),acf XY ij fo->
 Br (ij>0)
 (cA av.a (ai (ij-1)) av.n/\bk (eV (ae av.a (((ai (ij-1)):Int).toNat*4))) (∃(qu:Int),ld fo (ae (ae av.a (((ai (ij-1)):Int).toNat*4)) 0)=some (.int .i64 qu)/\
 Br (qu>a2)
 (∃afx,afx<XY/\aP [aq,ar,av]/\aP [ao,ak,aw]/\aP [af,af,.slice none 0 0]/\acf afx ((ai (ij-1))) fo)
 ((0:Int)<=ij/\ij<=((av.c:Nat):Int)/\∃acg:LV,Rd fo (aA av.a (0) (av.c) 4) acg/\aF 32 4 fo ⟨none,0,0⟩ ((ij:Int).toNat-0) acg/\∀(ach:Sl)(Va:World),aE 79 4 fo ⟨none,0,0⟩ ((ij:Int).toNat-0) acg ach Va->K3 w w0 w1 fo Va (
 Aw Va #[a2,ao,ak,aw] 79 λaci=>
 aF 32 4 aci ach 1 [a2,ao,ak,aw]/\∀(acj:Sl)(uV:World),aE 79 4 aci ach 1 [a2,ao,ak,aw] acj uV->K4 w w0 w1 Va aci uV (
 (0:Int)<=ij/\ij<=((av.n:Nat):Int)/\∃ack:LV,Rd uV (aA av.a ((ij:Int).toNat) (av.c) 4) ack/\aF 32 4 uV acj (av.n-(ij:Int).toNat) ack/\∀(uX:Sl)(QC:World),aE 79 4 uV acj (av.n-(ij:Int).toNat) ack uX QC->K4 w w0 w1 Va uV QC (
 Sw QC w #[aq,ar,uX] λXy=>
 Sw Xy w1 #[aq,ar,uX] λXz=>
 R (Value.tuple #[.agg #[aq,ar,uX],true]) Xz))))))
 ((0:Int)<=ij/\ij<=((av.c:Nat):Int)/\∃acm:LV,Rd fo (aA av.a (0) (av.c) 4) acm/\aF 32 4 fo ⟨none,0,0⟩ ((ij:Int).toNat-0) acm/\∀(Bw:Sl)(JB:World),aE 79 4 fo ⟨none,0,0⟩ ((ij:Int).toNat-0) acm Bw JB->K3 w w0 w1 fo JB (
 Aw JB #[a2,ao,ak,aw] 79 λFG=>
 aF 32 4 FG Bw 1 [a2,ao,ak,aw]/\∀(BI:Sl)(JC:World),aE 79 4 FG Bw 1 [a2,ao,ak,aw] BI JC->K4 w w0 w1 JB FG JC (
 (0:Int)<=ij/\ij<=((av.n:Nat):Int)/\∃acn:LV,Rd JC (aA av.a ((ij:Int).toNat) (av.c) 4) acn/\aF 32 4 JC BI (av.n-(ij:Int).toNat) acn/\∀(sT:Sl)(aco:World),aE 79 4 JC BI (av.n-(ij:Int).toNat) acn sT aco->K4 w w0 w1 JB JC aco (
 Sw aco w #[aq,ar,sT] λQD=>
 Sw QD w1 #[aq,ar,sT] λFW=>
 R (Value.tuple #[.agg #[aq,ar,sT],true]) FW))))))))):ah 58 #[.agg #[aq,ar,av],.agg #[ao,ak,aw],a2] w R:=
 cq ⟨[(11,⟨[(11,.int .i64)],[],[]⟩),(11,⟨[(11,.int .i64)],[],[]⟩),(11,⟨[(11,.int .i64)],[],[]⟩),(11,⟨[(11,.int .i64)],[],[]⟩)],[],[]⟩ Tryz.func58 h
def L5.vc{av:Sl}(h:
 Aw w #[aq,ar,av] 36 λw0=>
 Aw w0 #[ao,ak,aw] 23 λw1=>
 ∃I2:Nat->Int->World->Prop,
 (∃n3,aP [aq,ar,av]/\aP [ao,ak,aw]/\I2 n3 (0) w1)/\
 ∀(n3:Nat)(VH:Nat->Value)(x5:Int)(w6:World),I2 n3 x5 w6->
 Br (decide (x5<((av.n:Nat):Int)))
 (cA av.a x5 av.n/\bk (eV (ae av.a ((x5:Int).toNat*4))) (∃(x8 x9 bq:Int),au w6.drew (ae (ae av.a ((x5:Int).toNat*4)) 1) 0 [x8,x9,bq]/\
 Br ((x8==ao) &&((x9==ak) &&(bq==aw)))
 (R x5 w6.drew)
 (∃n7,n7<n3/\aP [aq,ar,av]/\aP [ao,ak,aw]/\I2 n7 ((ai (x5+1))) w6.drew)))
 (R (Value.int .i64 (-1)) w6)):ah 102 #[.agg #[aq,ar,av],.agg #[ao,ak,aw]] w R:=
 cq ⟨[(2,⟨[(5,.int .i64)],[],[]⟩)],[],[]⟩ Tryz.func102 h
def Lq.vc{av:Sl}(h:
 Aw w #[aq,ar,av] 36 λw0=>
 Aw w0 #[ao,ak,aw] 23 λw1=>
 Aw w1 #[af,af,.slice none 0 0] 36 λw2=>
 ah 102 #[.agg #[aq,ar,av],.agg #[ao,ak,aw]] w2 (Ri λx4 w3=>K3 w w0 w1 w2 w3 (
 Br (x4<0)
 (Sw w3 w1 #[aq,ar,av] λw5=>
 R (Value.tuple #[.agg #[aq,ar,av],false]) w5)
 ((0:Int)<=x4/\x4<=((av.c:Nat):Int)/\∃l6:LV,Rd w3 (aA av.a (0) (av.c) 4) l6/\aF 32 4 w3 ⟨none,0,0⟩ ((x4:Int).toNat-0) l6/\∀(s7:Sl)(w8:World),aE 79 4 w3 ⟨none,0,0⟩ ((x4:Int).toNat-0) l6 s7 w8->K3 w w0 w1 w3 w8 (
 (0:Int)<=(ai (x4+1))/\(ai (x4+1))<=((av.n:Nat):Int)/\∃l9:LV,Rd w8 (aA av.a (((ai (x4+1)):Int).toNat) (av.c) 4) l9/\aF 32 4 w8 s7 (av.n-((ai (x4+1)):Int).toNat) l9/\∀(cO:Sl)(cB:World),aE 79 4 w8 s7 (av.n-((ai (x4+1)):Int).toNat) l9 cO cB->K3 w w0 w1 w8 cB (
 Sw cB w #[aq,ar,cO] λbS=>
 Sw bS w1 #[aq,ar,cO] λcC=>
 R (Value.tuple #[.agg #[aq,ar,cO],true]) cC)))))):ah 103 #[.agg #[aq,ar,av],.agg #[ao,ak,aw]] w R:=
 cq cc Tryz.func103 h
def IU.vc(h:
 ah 44 #[a0,(8:Int)] w (λe w0=>∃(x1:Int),e=x1/\
 Br (x1==7)
 (ah 53 #[a0] w0 (λe w2=>∃(x3:Int),e=x3/\
 R x3 w2))
 (Aw w0 #[(3:Int),(3:Int),(8:Int),(8:Int),(1:Int),af,(4:Int)] 3 λw4=>
 cA (bu w0) x1 7/\∃(x5:Int),ld w4 (ae (bu w0) ((x1:Int).toNat*1))=some (.int .i64 x5)/\
 R x5 w4))):ah 25 #[a0] w R:=
 cq cc Tryz.func25 h
def yf.vc{a0:Sl}{a1:Sl}(h:
 Br ((((a0.n:Nat):Int):Int) !=((a1.n:Nat):Int))
 (R false w)
 (∃I0:Nat->Int->World->Prop,
 (∃n1,I0 n1 (0) w)/\
 ∀(n1:Nat)(oB:Nat->Value)(x3:Int)(w4:World),I0 n1 x3 w4->
 Br (decide (x3<((a0.n:Nat):Int)))
 (cA a0.a x3 a0.n/\∃(x6 x7 x8 x9:Int),au w4.drew (ae a0.a ((x3:Int).toNat*4)) 0 [x6,x7,x8,x9]/\
 cA a1.a x3 a1.n/\∃(bq bR bU cz:Int),au w4.drew (ae a1.a ((x3:Int).toNat*4)) 0 [bq,bR,bU,cz]/\
 Br (!((x6==bq) &&((x7==bR) &&((x8==bU) &&(x9==cz)))))
 (R false w4.drew)
 (∃n5,n5<n1/\I0 n5 ((ai (x3+1))) w4.drew))
 (R true w4))):ah 30 #[a0,a1] w R:=
 cq ⟨[(4,⟨[(5,.int .i64)],[],[]⟩)],[],[]⟩ Tryz.func30 h
def IV.vc{a0:Sl}(h:
 ∃I0:Nat->Int->Sl->World->Prop,
 (∃n1,I0 n1 (0) ⟨none,0,0⟩ w)/\
 ∀(n1:Nat)(oB:Nat->Value)(x3:Int)(s4:Sl)(w5:World),I0 n1 x3 s4 w5->
 Br (decide (x3<((a0.n:Nat):Int)))
 (cA a0.a x3 a0.n/\bk (eV (ae a0.a ((x3:Int).toNat*4))) (∃(x7:Int),ld w5.drew (ae (ae a0.a ((x3:Int).toNat*4)) 0)=some (.int .i64 x7)/\
 cA a0.a x3 a0.n/\bk (eV (ae a0.a ((x3:Int).toNat*4))) (∃(x8 x9 bq:Int),au w5.drew (ae (ae a0.a ((x3:Int).toNat*4)) 1) 0 [x8,x9,bq]/\
 Aw w5.drew #[x7,x8,x9,bq] 79 λcB=>
 aF 32 4 cB s4 1 [x7,x8,x9,bq]/\∀(eM:Sl)(cC:World),aE 79 4 cB s4 1 [x7,x8,x9,bq] eM cC->cC.heap[w5.drew.heap.size]? =cB.heap[w5.drew.heap.size]?/\
 ∃n6,n6<n1/\I0 n6 ((ai (x3+1))) eM cC)))
 (R s4 w5)):ah 31 #[a0] w R:=
 cq ⟨[(3,⟨[(4,.int .i64),(3,.slice)],[],[]⟩)],[],[]⟩ Tryz.func31 h
end Go.Proofs.YtalpkjfpmdpbiaaGreatDoor
