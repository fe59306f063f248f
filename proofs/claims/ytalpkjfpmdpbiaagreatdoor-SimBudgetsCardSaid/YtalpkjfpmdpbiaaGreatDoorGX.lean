import Derived.Test.YtalpkjfpmdpbiaaGreatDoorGSR
set_option linter.all false
namespace Go.Proofs.YtalpkjfpmdpbiaaGreatDoor
open Go Go.Vc Go.RowKit Go.Proofs
set_option maxRecDepth 100000
set_option maxHeartbeats 8000000
set_option linter.unusedVariables false
variable {R:Ending->World->Prop} {w:World} {a0 a1 a2 a3 a4 a5 a6 a7 a8 a9 aq ar au aI aJ aK aL aH bM eB ao aj aw dO ic jg jh ji gq gY dj dZ dU lg lO nm xO xP xQ xR xS xU xV xW xX xY xZ ya yb yc:Int}
def RQ.vc{aq:Sl}{a1:Sl}(h:
 Aw w #[aq,ar] 214 λw0=>
 Aw w0 #[dj,dZ,dU] 23 λw1=>
 ∃I2:Nat->Int->World->Prop,
 (∃n3,aP [aq,ar]/\aP [dj,dZ,dU]/\I2 n3 ((ai (((a1.n:Nat):Int)-1))) w1)/\
 ∀(n3:Nat)(U3:Nat->Value)(x5:Int)(w6:World),I2 n3 x5 w6->
 Br (x5>=0)
 (cB a1.a x5 a1.n/\bn (eQ (ae a1.a ((x5:Int).toNat*4))) (∃(x8 x9 br:Int),av w6.drew (ae (ae a1.a ((x5:Int).toNat*4)) 0) 0 [x8,x9,br]/\
 Br ((x8==dj) &&((x9==dZ) &&(br==dU)))
 (cB a1.a x5 a1.n/\bn (eQ (ae a1.a ((x5:Int).toNat*4))) (∃(bV:Int),ld w6.drew (ae (ae a1.a ((x5:Int).toNat*4)) 3)=some (.int .i64 bV)/\
 R bV w6.drew))
 (∃n7,n7<n3/\aP [aq,ar]/\aP [dj,dZ,dU]/\I2 n7 ((ai (x5-1))) w6.drew)))
 (ah 235 #[.agg #[aq,ar],.agg #[dj,dZ,dU]] w6 (Ri λcD bR=>K2 w w0 w6 bR (
 R cD bR)))):ah 198 #[.agg #[aq,ar],a1,.agg #[dj,dZ,dU]] w R:=
 cq ⟨[(2,⟨[(7,.int .i64)],[],[]⟩)],[],[]⟩ Tryz.func198 h
def Hf.vc(h:
 Aw w #[aq,ar,au] 23 λw0=>
 ah 100 #[.agg #[aq,ar,au],(-1:Int),(0:Int),(0:Int)] w0.drew (Je λx2 x3 x4 w1=>Kp w w0.drew w1/\
 av w1 w 0 [aq,ar,au]/\av w1 w 0 [aq,ar,au]/\av w1 w 0 [aq,ar,au]/\ah 100 #[.agg #[aq,ar,au],(1:Int),(0:Int),(0:Int)] w1 (Je λx6 x7 x8 w5=>Kp w w1 w5/\
 av w5 w 0 [aq,ar,au]/\av w5 w 0 [aq,ar,au]/\ah 100 #[.agg #[aq,ar,au],(0:Int),(0:Int),(-1:Int)] w5 (Je λbr bV bT w9=>Kp w w5 w9/\
 av w9 w 0 [aq,ar,au]/\ah 100 #[.agg #[aq,ar,au],(0:Int),(0:Int),(1:Int)] w9 (Je λcl bA cY cA=>Kp w w9 cA/\
 Aw cA #[x2,x3,x4,x6,x7,x8,br,bV,bT,cl,bA,cY] 23 λcC=>
 R (Value.slice (bu cA) 4 4) cC))))):ah 201 #[.agg #[aq,ar,au]] w R:=
 cq cf Tryz.func201 h
def Hg.vc{aq:Sl}{a1:Sl}(h:
 Aw w #[aq,ar] 214 λw0=>
 Aw w0 #[dj,dZ,dU] 23 λw1=>
 ah 100 #[.agg #[dj,dZ,dU],(0:Int),(1:Int),(0:Int)] w1.drew (Je λx3 x4 x5 w2=>K2 w w0 w1.drew w2 (
 av w2 w 0 [aq,ar]/\ah 198 #[.agg #[aq,ar],a1,.agg #[x3,x4,x5]] w2 (Ri λx7 w6=>K2 w w0 w2 w6 (
 ah 101 #[x7] w6 (Rb λb9 w8=>K2 w w0 w6 w8 (
 Br b9
 (R (1:Int) w8)
 (ah 201 #[.agg #[dj,dZ,dU]] w8 (Rs λeJ bL=>K2 w w0 w8 bL (
 ∃X7:Nat->Int->Int->World->Prop,
 (∃uD,aP [aq,ar]/\aP [dj,dZ,dU]/\X7 uD (0) (8) bL)/\
 ∀(uD:Nat)(ah2:Nat->Value)(bA cY:Int)(cC:World),X7 uD bA cY cC->
 Br (bA<4)
 (cB eJ.a bA eJ.n/\∃(cN dK fW:Int),av cC.drew (ae eJ.a ((bA:Int).toNat*3)) 0 [cN,dK,fW]/\
 ah 198 #[.agg #[aq,ar],a1,.agg #[cN,dK,fW]] cC.drew (Ri λde cx=>K2 w w0 cC.drew cx (
 ah 101 #[de] cx (Rb λb25 fu=>K2 w w0 cx fu (
 Br b25
 (∃Pz,Pz<uD/\aP [aq,ar]/\aP [dj,dZ,dU]/\X7 Pz ((ai (bA+1))) ((if (ai ((ai (de-8))+1))<cY then (ai ((ai (de-8))+1)) else cY)) fu)
 (∃Pz,Pz<uD/\aP [aq,ar]/\aP [dj,dZ,dU]/\X7 Pz ((ai (bA+1))) cY fu))))))
 (R cY cC))))))))))):ah 200 #[.agg #[aq,ar],a1,.agg #[dj,dZ,dU]] w R:=
 cq ⟨[(6,⟨[(9,.int .i64),(8,.int .i64)],[],[]⟩)],[],[]⟩ Tryz.func200 h
def KE.vc{aq:Sl}{a1:Sl}(h:
 Aw w #[aq,ar] 214 λw0=>
 Aw w0 #[dj,dZ,dU] 23 λw1=>
 ah 198 #[.agg #[aq,ar],a1,.agg #[dj,dZ,dU]] w1 (Ri λx3 w2=>K2 w w0 w1 w2 (
 ah 100 #[.agg #[dj,dZ,dU],(0:Int),(-1:Int),(0:Int)] w2 (Je λx5 x6 x7 w4=>K2 w w0 w2 w4 (
 Aw w4 #[af,af,af] 23 λw8=>
 Sw w8 w4 #[x5,x6,x7] λw9=>
 ah 198 #[.agg #[aq,ar],a1,.agg #[x5,x6,x7]] w9 (Ri λbV bL=>K3 w w0 w4 w9 bL (
 Br (x3==3)
 (ah 199 #[bV] bL (Rb λb13 bR=>K3 w w0 w4 bL bR (
 Br b13
 (Aw bR #[dj,dZ,dU,bV,x5,x6,x7,(3:Int)] 71 λcm=>
 R (Value.slice (bu bR) 2 2) cm)
 (R (Value.slice none 0 0) bR))))
 (ah 101 #[x3] bL (Rb λb16 cS=>K3 w w0 w4 bL cS (
 Br (!b16)
 (R (Value.slice none 0 0) cS)
 (ah 200 #[.agg #[aq,ar],a1,.agg #[dj,dZ,dU]] cS (Ri λcn cC=>K3 w w0 w4 cS cC (
 ∃J19:World->Prop,
 (Br (decide (((ai (x3-8)):Int)>0))
 (Br (cn>7)
 (Aw cC #[dj,dZ,dU,af] 71 λeC=>
 R (Value.slice (bu cC) 1 1) eC)
 (aP [aq,ar]/\aP [dj,dZ,dU]/\aP [x5,x6,x7]/\J19 cC))
 (aP [aq,ar]/\aP [dj,dZ,dU]/\aP [x5,x6,x7]/\J19 cC))/\
 ∀aiG:Nat->Value,∀(cx:World),J19 cx->
 ∃J23:World->Prop,
 (Br (decide (((ai (x3-8)):Int)>0))
 (Br (cn !=(ai (x3-8)))
 (Aw cx #[dj,dZ,dU,(ai (8+cn))] 71 λfu=>
 R (Value.slice (bu cx) 1 1) fu)
 (aP [aq,ar]/\aP [dj,dZ,dU]/\aP [x5,x6,x7]/\J23 cx))
 (aP [aq,ar]/\aP [dj,dZ,dU]/\aP [x5,x6,x7]/\J23 cx))/\
 ∀aoX:Nat->Value,∀(g7:World),J23 g7->
 Br (bV==0)
 (Aw g7 #[x5,x6,x7,(9:Int)] 71 λjb=>
 R (Value.slice (bu g7) 1 1) jb)
 (ah 101 #[bV] g7 (Rb λb29 eI=>K3 w w0 w4 g7 eI (
 Br b29
 (R (Value.slice none 0 0) eI)
 (Br (((ai (x3-8)):Int)==7)
 (R (Value.slice none 0 0) eI)
 (ah 201 #[.agg #[dj,dZ,dU]] eI (Rs λg9 g8=>K3 w w0 w4 eI g8 (
 ∃I32:Nat->Int->Sl->World->Prop,
 (∃n33,aP [aq,ar]/\aP [dj,dZ,dU]/\aP [x5,x6,x7]/\I32 n33 (0) ⟨none,0,0⟩ g8)/\
 ∀(n33:Nat)(aoY:Nat->Value)(jy:Int)(o4:Sl)(jj:World),I32 n33 jy o4 jj->
 Br (jy<4)
 (cB g9.a jy g9.n/\∃(kq nz kK:Int),av jj.drew (ae g9.a ((jy:Int).toNat*3)) 0 [kq,nz,kK]/\
 ah 198 #[.agg #[aq,ar],a1,.agg #[kq,nz,kK]] jj.drew (Ri λky np=>K3 w w0 w4 jj.drew np (
 Br (ky==0)
 (cB g9.a jy g9.n/\∃(jF lj oY:Int),av np (ae g9.a ((jy:Int).toNat*3)) 0 [jF,lj,oY]/\
 Aw np #[jF,lj,oY,(ai (9+(ai (x3-8))))] 71 λoO=>
 aF 32 4 oO o4 1 [jF,lj,oY,(ai (9+(ai (x3-8))))]/\∀(FA:Sl)(Bq:World),aD 71 4 oO o4 1 [jF,lj,oY,(ai (9+(ai (x3-8))))] FA Bq->K4 w w0 w4 np oO Bq (
 ∃n38,n38<n33/\aP [aq,ar]/\aP [dj,dZ,dU]/\aP [x5,x6,x7]/\I32 n38 ((ai (jy+1))) FA Bq))
 (∃n38,n38<n33/\aP [aq,ar]/\aP [dj,dZ,dU]/\aP [x5,x6,x7]/\I32 n38 ((ai (jy+1))) o4 np))))
 (R o4 jj))))))))))))))))))))):ah 155 #[.agg #[aq,ar],a1,.agg #[dj,dZ,dU]] w R:=
 cq ⟨[(23,⟨[(14,.int .i64),(13,.slice)],[],[]⟩)],[(16,⟨[],[],[]⟩),(14,⟨[],[],[]⟩)],[]⟩ Tryz.func155 h
def Ef.vc(h:
 Br (a0==0)
 (R true w)
 (ah 101 #[a0] w (λe w0=>∃(b1:Bool),e=b1/\
 R b1 w0))):ah 199 #[a0] w R:=
 cq cf Tryz.func199 h
def Hh.vc{a0:Sl}(h:
 Aw w #[ao,aj,aw] 23 λw0=>
 ∃I1:Nat->Int->World->Prop,
 (∃n2,aP [ao,aj,aw]/\I1 n2 (0) w0)/\
 ∀(n2:Nat)(Ww:Nat->Value)(x4:Int)(w5:World),I1 n2 x4 w5->
 Br (decide (x4<((a0.n:Nat):Int)))
 (cB a0.a x4 a0.n/\∃(x7 x8 x9:Int),av w5.drew (ae a0.a ((x4:Int).toNat*3)) 0 [x7,x8,x9]/\
 Br ((x7==ao) &&((x8==aj) &&(x9==aw)))
 (R true w5.drew)
 (∃n6,n6<n2/\aP [ao,aj,aw]/\I1 n6 ((ai (x4+1))) w5.drew))
 (R false w5)):ah 156 #[a0,.agg #[ao,aj,aw]] w R:=
 cq ⟨[(2,⟨[(5,.int .i64)],[],[]⟩)],[],[]⟩ Tryz.func156 h
def Hi.vc{aK:Sl}{aL:Sl}{aH:Sl}{bM:Sl}{cR:Int}{cz:Sl}{cF:Int}{cg:Int}{bX:Sl}{bY:Sl}(h:
 Aw w #[aq,ar,au,aI,aJ,aK,aL,aH,bM,eB,cR,cz,cF,cg,bX,bY] 39 λw0=>
 Aw w0 #[ao,aj,aw] 23 λw1=>
 Aw w1 #[.slice none 0 0,af] 214 λw2=>
 Aw w2 #[af,af,af] 23 λw3=>
 Aw w3 #[.slice none 0 0,af] 214 λw4=>
 Sw w4 w3 #[.slice none 0 0,(-1:Int)] λw5=>
 ∃I6:Nat->Int->Sl->Int->World->Prop,
 (∃n7,aP [aq,ar,au,aI,aJ,aK,aL,aH,bM,eB,cR,cz,cF,cg,bX,bY]/\aP [ao,aj,aw]/\aP [.slice none 0 0,af]/\aP [af,af,af]/\I6 n7 (0) ⟨none,0,0⟩ ((-1)) w5)/\
 ∀(n7:Nat)(us8:Nat->Value)(x9:Int)(cL:Sl)(bV:Int)(bR:World),I6 n7 x9 cL bV bR->
 Br (x9<6)
 (∃I14:Nat->Int->Sl->Int->World->Prop,
 (∃n15,aP [aq,ar,au,aI,aJ,aK,aL,aH,bM,eB,cR,cz,cF,cg,bX,bY]/\aP [ao,aj,aw]/\aP [.slice none 0 0,af]/\aP [af,af,af]/\I14 n15 (0) cL bV bR)/\
 ∀(n15:Nat)(aoZ:Nat->Value)(cP:Int)(X9:Sl)(cN:Int)(eC:World),I14 n15 cP X9 cN eC->
 Br (cP<6)
 (∃I22:Nat->Int->Sl->Int->World->Prop,
 (∃PA,aP [aq,ar,au,aI,aJ,aK,aL,aH,bM,eB,cR,cz,cF,cg,bX,bY]/\aP [ao,aj,aw]/\aP [.slice none 0 0,af]/\aP [af,af,af]/\I22 PA (0) X9 cN eC)/\
 ∀(PA:Nat)(ao0:Nat->Value)(cW:Int)(vH:Sl)(dc:Int)(eI:World),I22 PA cW vH dc eI->
 Br (cW<6)
 (∃TM:Int->World->Prop,
 (Br (cW<3)
 (Br (x9<3)
 (Br (cP<3)
 (ah 57 #[.agg #[aq,ar,au,aI,aJ,aK,aL,aH,bM,eB,cR,cz,cF,cg,bX,bY],.agg #[(ai ((ai (ao+cW))-1)),(ai ((ai (aj+x9))-1)),(ai ((ai (aw+cP))-1))]] eI (Ri λjA ig=>K5 w w0 w1 w2 w3 eI ig (
 aP [aq,ar,au,aI,aJ,aK,aL,aH,bM,eB,cR,cz,cF,cg,bX,bY]/\aP [ao,aj,aw]/\aP [.slice none 0 0,af]/\aP [af,af,af]/\aP [vH,dc]/\TM jA ig)))
 (aP [aq,ar,au,aI,aJ,aK,aL,aH,bM,eB,cR,cz,cF,cg,bX,bY]/\aP [ao,aj,aw]/\aP [.slice none 0 0,af]/\aP [af,af,af]/\aP [vH,dc]/\TM ((-1)) eI))
 (aP [aq,ar,au,aI,aJ,aK,aL,aH,bM,eB,cR,cz,cF,cg,bX,bY]/\aP [ao,aj,aw]/\aP [.slice none 0 0,af]/\aP [af,af,af]/\aP [vH,dc]/\TM ((-1)) eI))
 (aP [aq,ar,au,aI,aJ,aK,aL,aH,bM,eB,cR,cz,cF,cg,bX,bY]/\aP [ao,aj,aw]/\aP [.slice none 0 0,af]/\aP [af,af,af]/\aP [vH,dc]/\TM ((-1)) eI))/\
 ∀ao1:Nat->Value,∀(fX:Int)(wP:World),TM fX wP->
 Aw wP #[fX] 3 λnv=>
 aF 8 1 nv vH 1 [fX]/\∀(E2:Sl)(qx:World),aD 3 1 nv vH 1 [fX] E2 qx->K6 w w0 w1 w2 w3 wP nv qx (
 Sw qx w3 #[E2,dc] λiP=>
 ∃n29,n29<PA/\aP [aq,ar,au,aI,aJ,aK,aL,aH,bM,eB,cR,cz,cF,cg,bX,bY]/\aP [ao,aj,aw]/\aP [.slice none 0 0,af]/\aP [af,af,af]/\I22 n29 ((ai (cW+1))) E2 dc iP))
 (∃A2,A2<n15/\aP [aq,ar,au,aI,aJ,aK,aL,aH,bM,eB,cR,cz,cF,cg,bX,bY]/\aP [ao,aj,aw]/\aP [.slice none 0 0,af]/\aP [af,af,af]/\I14 A2 ((ai (cP+1))) vH dc eI))
 (∃uD,uD<n7/\aP [aq,ar,au,aI,aJ,aK,aL,aH,bM,eB,cR,cz,cF,cg,bX,bY]/\aP [ao,aj,aw]/\aP [.slice none 0 0,af]/\aP [af,af,af]/\I6 uD ((ai (x9+1))) X9 cN eC))
 ((Sw bR.drew w1 #[cL,bV] λiQ=>
 av iQ (pd w0 2) 0 [aw]/\av iQ (pd w0 1) 0 [aj]/\av iQ (bu w0) 0 [ao]/\Sw iQ w2 #[(ai (ao-1)),(ai (aj-1)),(ai (aw-1))] λj7=>
 R (Value.tuple #[.agg #[cL,bV],.agg #[(ai (ao-1)),(ai (aj-1)),(ai (aw-1))]]) j7)/\(Sw bR.drew w1 #[cL,bV] λnp=>
 av np (pd w0 2) 0 [aw]/\av np (pd w0 1) 0 [aj]/\av np (bu w0) 0 [ao]/\Sw np w2 #[(ai (ao-1)),(ai (aj-1)),(ai (aw-1))] λpY=>
 R (Value.tuple #[.agg #[cL,bV],.agg #[(ai (ao-1)),(ai (aj-1)),(ai (aw-1))]]) pY))):ah 154 #[.agg #[aq,ar,au,aI,aJ,aK,aL,aH,bM,eB,cR,cz,cF,cg,bX,bY],.agg #[ao,aj,aw]] w R:=
 cq ⟨[(10,⟨[(9,.int .i64)],[(4,[.slice,.int .i64])],[]⟩),(7,⟨[(8,.int .i64)],[(4,[.slice,.int .i64])],[]⟩),(4,⟨[(7,.int .i64)],[(4,[.slice,.int .i64])],[]⟩)],[(15,⟨[(10,.int .i64)],[],[]⟩)],[]⟩ Tryz.func154 h
def On.vc{au:Sl}(h:
 Aw w #[aq,ar,au] 36 λw0=>
 Aw w0 #[af,af,.slice none 0 0] 36 λw1=>
 ∃I2:Nat->Int->Sl->Sl->World->Prop,
 (∃n3,aP [aq,ar,au]/\aP [af,af,.slice none 0 0]/\I2 n3 (0) ⟨none,0,0⟩ ⟨none,0,0⟩ w1)/\
 ∀(n3:Nat)(U3:Nat->Value)(x5:Int)(s6 s7:Sl)(w8:World),I2 n3 x5 s6 s7 w8->
 Br (decide (x5<((au.n:Nat):Int)))
 (cB au.a x5 au.n/\bn (eQ (ae au.a ((x5:Int).toNat*4))) (∃(br:Int),ld w8 (ae (ae au.a ((x5:Int).toNat*4)) 0)=some (.int .i64 br)/\
 Br (br<=a1)
 (Br (decide ((((s6.n:Nat):Int):Int)<a2))
 (cB au.a x5 au.n/\bn (eQ (ae au.a ((x5:Int).toNat*4))) (∃(bV bT cD:Int),av w8 (ae (ae au.a ((x5:Int).toNat*4)) 1) 0 [bV,bT,cD]/\
 Aw w8 #[bV,bT,cD] 23 λcm=>
 aF 24 3 cm s6 1 [bV,bT,cD]/\∀(jG:Sl)(dy:World),aD 23 3 cm s6 1 [bV,bT,cD] jG dy->K3 w w0 w8 cm dy (
 ∃n9,n9<n3/\aP [aq,ar,au]/\aP [af,af,.slice none 0 0]/\I2 n9 ((ai (x5+1))) jG s7 dy)))
 (cB au.a x5 au.n/\∃(cP cn cN dK:Int),av w8 (ae au.a ((x5:Int).toNat*4)) 0 [cP,cn,cN,dK]/\
 Aw w8 #[cP,cn,cN,dK] 79 λea=>
 aF 32 4 ea s7 1 [cP,cn,cN,dK]/\∀(vG:Sl)(gi:World),aD 79 4 ea s7 1 [cP,cn,cN,dK] vG gi->K3 w w0 w8 ea gi (
 ∃n9,n9<n3/\aP [aq,ar,au]/\aP [af,af,.slice none 0 0]/\I2 n9 ((ai (x5+1))) s6 vG gi)))
 (cB au.a x5 au.n/\∃(di cW dV dc:Int),av w8 (ae au.a ((x5:Int).toNat*4)) 0 [di,cW,dV,dc]/\
 Aw w8 #[di,cW,dV,dc] 79 λeI=>
 aF 32 4 eI s7 1 [di,cW,dV,dc]/\∀(mc:Sl)(g8:World),aD 79 4 eI s7 1 [di,cW,dV,dc] mc g8->K3 w w0 w8 eI g8 (
 ∃n9,n9<n3/\aP [aq,ar,au]/\aP [af,af,.slice none 0 0]/\I2 n9 ((ai (x5+1))) s6 mc g8))))
 (Sw w8 w #[aq,ar,s7] λig=>
 Sw ig w0 #[aq,ar,s7] λyJ=>
 R (Value.tuple #[.agg #[aq,ar,s7],s6]) yJ)):ah 109 #[.agg #[aq,ar,au],a1,a2] w R:=
 cq ⟨[(4,⟨[(10,.int .i64),(8,.slice),(9,.slice)],[],[]⟩)],[],[]⟩ Tryz.func109 h
def Eg.vc{aK:Sl}{aL:Sl}{aH:Sl}{bM:Sl}{cR:Int}{cz:Sl}{cF:Int}{cg:Int}{bX:Sl}{bY:Sl}(h:
 Aw w #[aq,ar,au,aI,aJ,aK,aL,aH,bM,eB,cR,cz,cF,cg,bX,bY] 39 λw0=>
 Aw w0 #[ao,aj,aw] 23 λw1=>
 Aw w1 #[af,af,af,af,af,.slice none 0 0,.slice none 0 0,.slice none 0 0,.slice none 0 0,af,af,.slice none 0 0,af,af,.slice none 0 0,.slice none 0 0] 39 λw2=>
 ah 153 #[.agg #[aq,ar,au,aI,aJ,aK,aL,aH,bM],.agg #[ao,aj,aw]] w2 (Rb λb4 w3=>K3 w w0 w1 w2 w3 (
 Br (!b4)
 (ah 58 #[.agg #[eB,cR,cz],.agg #[ao,aj,aw],(ai (cg+1))] w3 (λe w5=>∃(x6 x7:Int)(s8:Sl)(b9:Bool),e=Value.tuple #[.agg #[x6,x7,s8],b9]/\K3 w w0 w1 w3 w5 (
 Aw w5 #[af,af,.slice none 0 0] 36 λbL=>
 Sw bL w5 #[x6,x7,s8] λcH=>
 Sw cH w #[aq,ar,au,aI,aJ,aK,aL,aH,bM,x6,x7,s8,cF,cg,bX,bY] λbR=>
 Sw bR w1 #[aq,ar,au,aI,aJ,aK,aL,aH,bM,x6,x7,s8,cF,cg,bX,bY] λcA=>
 R (Value.agg #[aq,ar,au,aI,aJ,aK,aL,aH,bM,x6,x7,s8,cF,cg,bX,bY]) cA)))
 (ah 154 #[.agg #[aq,ar,au,aI,aJ,aK,aL,aH,bM,eB,cR,cz,cF,cg,bX,bY],.agg #[ao,aj,aw]] w3 (λe cm=>∃(jG:Sl)(cY cP cn cN:Int),e=Value.tuple #[.agg #[jG,cY],.agg #[cP,cn,cN]]/\K3 w w0 w1 w3 cm (
 Aw cm #[.slice none 0 0,af] 214 λeC=>
 Aw eC #[af,af,af] 23 λea=>
 Sw ea cm #[jG,cY] λcx=>
 Sw cx eC #[cP,cn,cN] λgi=>
 ah 155 #[.agg #[jG,cY],.slice none 0 0,.agg #[(1:Int),(1:Int),(1:Int)]] gi (Rs λmb fu=>K5 w w0 w1 cm eC gi fu (
 Aw fu #[af,af,af] 23 λg7=>
 Sw g7 fu #[ao,(ai (aj-1)),aw] λjb=>
 ah 156 #[bX,.agg #[ao,(ai (aj-1)),aw]] jb (Rb λb29 eI=>K6 w w0 w1 cm eC fu jb eI (
 ∃TM:Sl->Int->Int->Int->Int->Int->Sl->Sl->Sl->Sl->Int->Int->Sl->Int->Int->Sl->Sl->World->Prop,
 (ah 57 #[.agg #[aq,ar,au,aI,aJ,aK,aL,aH,bM,eB,cR,cz,cF,cg,bX,bY],.agg #[ao,aj,aw]] eI (Ri λjA ig=>K6 w w0 w1 cm eC fu eI ig (
 Br (jA==3)
 (Br (decide ((((mb.n:Nat):Int):Int)>0))
 (Br b29
 (Aw ig #[(1:Int),(1:Int),(1:Int),af] 71 λlz=>
 ∃l34:LV,Rd lz bY.a l34/\aF 24 3 lz ⟨none,0,0⟩ bY.n l34/\∀(MZ:Sl)(nv:World),aD 23 3 lz ⟨none,0,0⟩ bY.n l34 MZ nv->K7 w w0 w1 cm eC fu ig lz nv (
 Aw nv #[ao,(ai (aj-1)),aw] 23 λjj=>
 aF 24 3 jj MZ 1 [ao,(ai (aj-1)),aw]/\∀(vO:Sl)(iP:World),aD 23 3 jj MZ 1 [ao,(ai (aj-1)),aw] vO iP->K8 w w0 w1 cm eC fu ig nv jj iP (
 Sw iP w #[aq,ar,au,aI,aJ,aK,aL,aH,bM,eB,cR,cz,cF,cg,bX,vO] λiQ=>
 aP [ao,aj,aw]/\aP [af,af,af,af,af,.slice none 0 0,.slice none 0 0,.slice none 0 0,.slice none 0 0,af,af,.slice none 0 0,af,af,.slice none 0 0,.slice none 0 0]/\aP [jG,cY]/\aP [cP,cn,cN]/\aP [ao,(ai (aj-1)),aw]/\TM ⟨(bu ig),1,1⟩ (aq) ar au aI aJ aK aL aH bM eB cR cz cF cg bX vO iQ)))
 (aP [ao,aj,aw]/\aP [af,af,af,af,af,.slice none 0 0,.slice none 0 0,.slice none 0 0,.slice none 0 0,af,af,.slice none 0 0,af,af,.slice none 0 0,.slice none 0 0]/\aP [jG,cY]/\aP [cP,cn,cN]/\aP [ao,(ai (aj-1)),aw]/\TM mb aq ar au aI aJ aK aL aH bM eB cR cz cF cg bX bY ig))
 (aP [ao,aj,aw]/\aP [af,af,af,af,af,.slice none 0 0,.slice none 0 0,.slice none 0 0,.slice none 0 0,af,af,.slice none 0 0,af,af,.slice none 0 0,.slice none 0 0]/\aP [jG,cY]/\aP [cP,cn,cN]/\aP [ao,(ai (aj-1)),aw]/\TM mb aq ar au aI aJ aK aL aH bM eB cR cz cF cg bX bY ig))
 (aP [ao,aj,aw]/\aP [af,af,af,af,af,.slice none 0 0,.slice none 0 0,.slice none 0 0,.slice none 0 0,af,af,.slice none 0 0,af,af,.slice none 0 0,.slice none 0 0]/\aP [jG,cY]/\aP [cP,cn,cN]/\aP [ao,(ai (aj-1)),aw]/\TM mb aq ar au aI aJ aK aL aH bM eB cR cz cF cg bX bY ig))))/\
 ∀aiL:Nat->Value,∀(nA:Sl)(ky jF lj oY ma:Int)(FA yF MW FD:Sl)(wS uk:Int)(Bn:Sl)(FE Dp:Int)(Ql s58:Sl)(WU:World),TM nA ky jF lj oY ma FA yF MW FD wS uk Bn FE Dp Ql s58 WU->
 ∃Yc:Nat->Int->Int->Int->Int->Int->Int->Sl->Sl->Sl->Sl->Int->Int->Sl->Int->Int->Sl->Sl->World->Prop,
 (∃U7,aP [ao,aj,aw]/\aP [af,af,af,af,af,.slice none 0 0,.slice none 0 0,.slice none 0 0,.slice none 0 0,af,af,.slice none 0 0,af,af,.slice none 0 0,.slice none 0 0]/\aP [jG,cY]/\aP [cP,cn,cN]/\aP [ao,(ai (aj-1)),aw]/\Yc U7 (0) ky jF lj oY ma FA yF MW FD wS uk Bn FE Dp Ql s58 WU)/\
 ∀(U7:Nat)(WR:Nat->Value)(lQ E8 wX lP wN yK:Int)(TN TP Jt TR:Sl)(re qc:Int)(yl:Sl)(rf pc:Int)(uE M1:Sl)(rY:World),Yc U7 lQ E8 wX lP wN yK TN TP Jt TR re qc yl rf pc uE M1 rY->
 Br (decide (lQ<((nA.n:Nat):Int)))
 (∃J82:Option Addr->World->Prop,
 (cB nA.a lQ nA.n/\bn (eQ (ae nA.a ((lQ:Int).toNat*4))) (bn (eQ (ae (ae nA.a ((lQ:Int).toNat*4)) 0)) (∃(wR:Int),ld rY.drew (ae (ae (ae nA.a ((lQ:Int).toNat*4)) 0) 0)=some (.int .i64 wR)/\
 cB nA.a lQ nA.n/\bn (eQ (ae nA.a ((lQ:Int).toNat*4))) (bn (eQ (ae (ae nA.a ((lQ:Int).toNat*4)) 0)) (∃(MR:Int),ld rY.drew (ae (ae (ae nA.a ((lQ:Int).toNat*4)) 0) 1)=some (.int .i64 MR)/\
 cB nA.a lQ nA.n/\bn (eQ (ae nA.a ((lQ:Int).toNat*4))) (bn (eQ (ae (ae nA.a ((lQ:Int).toNat*4)) 0)) (∃(MS:Int),ld rY.drew (ae (ae (ae nA.a ((lQ:Int).toNat*4)) 0) 2)=some (.int .i64 MS)/\
 (Aw rY.drew #[af,af,af] 23 λAZ=>
 Sw AZ rY.drew.heap.size #[(ai (cP+wR)),(ai (cn+MR)),(ai (cN+MS))] λpZ=>
 aP [E8,wX,lP,wN,yK,TN,TP,Jt,TR,re,qc,yl,rf,pc,uE,M1]/\aP [ao,aj,aw]/\aP [af,af,af,af,af,.slice none 0 0,.slice none 0 0,.slice none 0 0,.slice none 0 0,af,af,.slice none 0 0,af,af,.slice none 0 0,.slice none 0 0]/\aP [jG,cY]/\aP [cP,cn,cN]/\aP [ao,(ai (aj-1)),aw]/\J82 (bu rY.drew.heap.size) pZ)/\(Aw rY.drew #[af,af,af] 23 λyI=>
 Sw yI rY.drew.heap.size #[(ai (cP+wR)),(ai (cn+MR)),(ai (cN+MS))] λFG=>
 aP [E8,wX,lP,wN,yK,TN,TP,Jt,TR,re,qc,yl,rf,pc,uE,M1]/\aP [ao,aj,aw]/\aP [af,af,af,af,af,.slice none 0 0,.slice none 0 0,.slice none 0 0,.slice none 0 0,af,af,.slice none 0 0,af,af,.slice none 0 0,.slice none 0 0]/\aP [jG,cY]/\aP [cP,cn,cN]/\aP [ao,(ai (aj-1)),aw]/\J82 (bu rY.drew.heap.size) FG))))))))/\
 ∀aaD:Nat->Value,∀(p91:Option Addr)(wU:World),J82 p91 wU->
 ∃(MY Jq Dq:Int),av wU.drew p91 0 [MY,Jq,Dq]/\
 cB nA.a lQ nA.n/\bn (eQ (ae nA.a ((lQ:Int).toNat*4))) (∃(B5:Int),ld wU.drew (ae (ae nA.a ((lQ:Int).toNat*4)) 3)=some (.int .i64 B5)/\
 ah 57 #[.agg #[E8,wX,lP,wN,yK,TN,TP,Jt,TR,re,qc,yl,rf,pc,uE,M1],.agg #[MY,Jq,Dq]] wU.drew (Ri λuo se=>K6 w w0 w1 cm eC fu wU.drew se (
 av se (ae (ae nA.a ((lQ:Int).toNat*4)) 3) 0 [B5]/\Br (uo !=B5)
 (∃J99:Option Addr->World->Prop,
 (∃(Ca Cb qJ:Int),av se.drew p91 0 [Ca,Cb,qJ]/\
 cB nA.a lQ nA.n/\bn (eQ (ae nA.a ((lQ:Int).toNat*4))) (∃(nq:Int),ld se.drew (ae (ae nA.a ((lQ:Int).toNat*4)) 3)=some (.int .i64 nq)/\
 (ah 26 #[.agg #[E8,wX,lP,wN,yK,TN,TP,Jt,TR,re,qc,yl,rf,pc,uE,M1],.agg #[Ca,Cb,qJ],nq] se.drew (λe E9=>∃(IS ym vK PI ie:Int)(adX adY adZ ad0:Sl)(vM lk:Int)(PK:Sl)(vP Fa:Int)(vQ mI:Sl)(yi:Int),e=Value.tuple #[.agg #[IS,ym,vK,PI,ie,adX,adY,adZ,ad0,vM,lk,PK,vP,Fa,vQ,mI],yi]/\K6 w w0 w1 cm eC fu se.drew E9 (
 Aw E9 #[af,af,af,af,af,.slice none 0 0,.slice none 0 0,.slice none 0 0,.slice none 0 0,af,af,.slice none 0 0,af,af,.slice none 0 0,.slice none 0 0] 39 λWX=>
 Sw WX E9 #[IS,ym,vK,PI,ie,adX,adY,adZ,ad0,vM,lk,PK,vP,Fa,vQ,mI] λWY=>
 aP [E8,wX,lP,wN,yK,TN,TP,Jt,TR,re,qc,yl,rf,pc,uE,M1]/\aP [ao,aj,aw]/\aP [af,af,af,af,af,.slice none 0 0,.slice none 0 0,.slice none 0 0,.slice none 0 0,af,af,.slice none 0 0,af,af,.slice none 0 0,.slice none 0 0]/\aP [jG,cY]/\aP [cP,cn,cN]/\aP [ao,(ai (aj-1)),aw]/\J99 (bu E9) WY)))/\(Aw se.drew #[af,af,af,af,af,.slice none 0 0,.slice none 0 0,.slice none 0 0,.slice none 0 0,af,af,.slice none 0 0,af,af,.slice none 0 0,.slice none 0 0] 39 λCc=>
 ah 26 #[.agg #[E8,wX,lP,wN,yK,TN,TP,Jt,TR,re,qc,yl,rf,pc,uE,M1],.agg #[Ca,Cb,qJ],nq] Cc (λe PR=>∃(IT IU PS PM PN:Int)(vR ad1 ad2 yk:Sl)(ux Cd:Int)(sh:Sl)(ad3 PT:Int)(uy ad4:Sl)(aaE:Int),e=Value.tuple #[.agg #[IT,IU,PS,PM,PN,vR,ad1,ad2,yk,ux,Cd,sh,ad3,PT,uy,ad4],aaE]/\K6 w w0 w1 cm eC fu Cc PR (
 PR.heap[se.drew.heap.size]? =Cc.heap[se.drew.heap.size]?/\
 Sw PR se.drew.heap.size #[IT,IU,PS,PM,PN,vR,ad1,ad2,yk,ux,Cd,sh,ad3,PT,uy,ad4] λLL=>
 aP [E8,wX,lP,wN,yK,TN,TP,Jt,TR,re,qc,yl,rf,pc,uE,M1]/\aP [ao,aj,aw]/\aP [af,af,af,af,af,.slice none 0 0,.slice none 0 0,.slice none 0 0,.slice none 0 0,af,af,.slice none 0 0,af,af,.slice none 0 0,.slice none 0 0]/\aP [jG,cY]/\aP [cP,cn,cN]/\aP [ao,(ai (aj-1)),aw]/\J99 (bu se.drew.heap.size) LL)))))/\
 ∀ad5:Nat->Value,∀(ad6:Option Addr)(WZ:World),J99 ad6 WZ->
 ∃(yn aaF aaG LM TS:Int)(aaH aaI aaJ aaK:Sl)(aaL aaM:Int)(aaN:Sl)(aaO aaP:Int)(aaQ aaR:Sl),av WZ ad6 0 [yn,aaF,aaG,LM,TS,aaH,aaI,aaJ,aaK,aaL,aaM,aaN,aaO,aaP,aaQ,aaR]/\
 Sw WZ w #[yn,aaF,aaG,LM,TS,aaH,aaI,aaJ,aaK,aaL,aaM,aaN,aaO,aaP,aaQ,aaR] λad7=>
 ∃X3,X3<U7/\aP [ao,aj,aw]/\aP [af,af,af,af,af,.slice none 0 0,.slice none 0 0,.slice none 0 0,.slice none 0 0,af,af,.slice none 0 0,af,af,.slice none 0 0,.slice none 0 0]/\aP [jG,cY]/\aP [cP,cn,cN]/\aP [ao,(ai (aj-1)),aw]/\Yc X3 ((ai (lQ+1))) yn aaF aaG LM TS aaH aaI aaJ aaK aaL aaM aaN aaO aaP aaQ aaR ad7)
 (∃X3,X3<U7/\aP [ao,aj,aw]/\aP [af,af,af,af,af,.slice none 0 0,.slice none 0 0,.slice none 0 0,.slice none 0 0,af,af,.slice none 0 0,af,af,.slice none 0 0,.slice none 0 0]/\aP [jG,cY]/\aP [cP,cn,cN]/\aP [ao,(ai (aj-1)),aw]/\Yc X3 ((ai (lQ+1))) E8 wX lP wN yK TN TP Jt TR re qc yl rf pc uE M1 se)))))
 (Sw rY w1 #[E8,wX,lP,wN,yK,TN,TP,Jt,TR,re,qc,yl,rf,pc,uE,M1] λad8=>
 R (Value.agg #[E8,wX,lP,wN,yK,TN,TP,Jt,TR,re,qc,yl,rf,pc,uE,M1]) ad8))))))))))):ah 110 #[.agg #[aq,ar,au,aI,aJ,aK,aL,aH,bM,eB,cR,cz,cF,cg,bX,bY],.agg #[ao,aj,aw]] w R:=
 cq ⟨[(16,⟨[(14,.int .i64)],[(0,[.int .i64,.int .i64,.int .i64,.int .i64,.int .i64,.slice,.slice,.slice,.slice,.int .i64,.int .i64,.slice,.int .i64,.int .i64,.slice,.slice])],[]⟩)],[(21,⟨[(16,.ptr)],[],[]⟩),(19,⟨[(15,.ptr)],[],[]⟩),(15,⟨[(10,.slice)],[(0,[.int .i64,.int .i64,.int .i64,.int .i64,.int .i64,.slice,.slice,.slice,.slice,.int .i64,.int .i64,.slice,.int .i64,.int .i64,.slice,.slice])],[]⟩)],[]⟩ Tryz.func110 h
def Ki.vc{aK:Sl}{aL:Sl}{aH:Sl}{bM:Sl}{cR:Int}{cz:Sl}{cF:Int}{cg:Int}{bX:Sl}{bY:Sl}(h:
 Aw w #[aq,ar,au,aI,aJ,aK,aL,aH,bM,eB,cR,cz,cF,cg,bX,bY] 39 λw0=>
 Aw w0 #[af,af,af,af,af,.slice none 0 0,.slice none 0 0,.slice none 0 0,.slice none 0 0,af,af,.slice none 0 0,af,af,.slice none 0 0,.slice none 0 0] 39 λw1=>
 Sw w1 w #[aq,ar,au,aI,aJ,aK,aL,aH,bM,eB,cR,cz,cF,.int .i64 (if 1099511627776<(ai (cg+1)) then 1099511627776 else (ai (cg+1))),bX,bY] λw2=>
 ah 109 #[.agg #[eB,cR,cz],.int .i64 (if 1099511627776<(ai (cg+1)) then 1099511627776 else (ai (cg+1))),cF] w2 (λe w3=>∃(x4 x5:Int)(s6 s7:Sl),e=Value.tuple #[.agg #[x4,x5,s6],s7]/\K2 w w0 w2 w3 (
 Aw w3 #[af,af,.slice none 0 0] 36 λw8=>
 Sw w8 w3 #[x4,x5,s6] λw9=>
 Sw w9 w #[aq,ar,au,aI,aJ,aK,aL,aH,bM,x4,x5,s6,cF,.int .i64 (if 1099511627776<(ai (cg+1)) then 1099511627776 else (ai (cg+1))),bX,bY] λbL=>
 ∃I11:Nat->Int->Int->Int->Int->Int->Int->Sl->Sl->Sl->Sl->Int->Int->Sl->Int->Int->Sl->Sl->World->Prop,
 (∃n12,aP [af,af,af,af,af,.slice none 0 0,.slice none 0 0,.slice none 0 0,.slice none 0 0,af,af,.slice none 0 0,af,af,.slice none 0 0,.slice none 0 0]/\aP [x4,x5,s6]/\I11 n12 (0) aq ar au aI aJ aK aL aH bM x4 x5 s6 cF ((if 1099511627776<(ai (cg+1)) then 1099511627776 else (ai (cg+1)))) bX bY bL)/\
 ∀(n12:Nat)(ao2:Nat->Value)(cl bA cY cP cn cN:Int)(rZ jk vG B4:Sl)(di cW:Int)(vH:Sl)(dc eM:Int)(mc gP:Sl)(ig:World),I11 n12 cl bA cY cP cn cN rZ jk vG B4 di cW vH dc eM mc gP ig->
 Br (decide (cl<((s7.n:Nat):Int)))
 (cB s7.a cl s7.n/\∃(gn fX jy:Int),av ig.drew (ae s7.a ((cl:Int).toNat*3)) 0 [gn,fX,jy]/\
 ah 110 #[.agg #[bA,cY,cP,cn,cN,rZ,jk,vG,B4,di,cW,vH,dc,eM,mc,gP],.agg #[gn,fX,jy]] ig.drew (λe nv=>∃(gd ja kq nz kK:Int)(nA TH s44 AY:Sl)(oY ma:Int)(FA:Sl)(jY B9:Int)(FD W2:Sl),e=Value.agg #[gd,ja,kq,nz,kK,nA,TH,s44,AY,oY,ma,FA,jY,B9,FD,W2]/\K3 w w0 w3 ig.drew nv (
 Sw nv w #[gd,ja,kq,nz,kK,nA,TH,s44,AY,oY,ma,FA,jY,B9,FD,W2] λYa=>
 ∃X0,X0<n12/\aP [af,af,af,af,af,.slice none 0 0,.slice none 0 0,.slice none 0 0,.slice none 0 0,af,af,.slice none 0 0,af,af,.slice none 0 0,.slice none 0 0]/\aP [x4,x5,s6]/\I11 X0 ((ai (cl+1))) gd ja kq nz kK nA TH s44 AY oY ma FA jY B9 FD W2 Ya)))
 (Sw ig w0 #[bA,cY,cP,cn,cN,rZ,jk,vG,B4,di,cW,vH,dc,eM,mc,gP] λye=>
 R (Value.tuple #[.agg #[bA,cY,cP,cn,cN,rZ,jk,vG,B4,di,cW,vH,dc,eM,mc,gP],((s7.n:Nat):Int)]) ye)))):ah 66 #[.agg #[aq,ar,au,aI,aJ,aK,aL,aH,bM,eB,cR,cz,cF,cg,bX,bY]] w R:=
 cq ⟨[(5,⟨[(6,.int .i64)],[(0,[.int .i64,.int .i64,.int .i64,.int .i64,.int .i64,.slice,.slice,.slice,.slice,.int .i64,.int .i64,.slice,.int .i64,.int .i64,.slice,.slice])],[]⟩)],[],[]⟩ Tryz.func66 h
def N0.vc{aK:Sl}{aL:Sl}{aH:Sl}{bM:Sl}{cR:Int}{cz:Sl}{cF:Int}{cg:Int}{bX:Sl}{bY:Sl}(h:
 Aw w #[aq,ar,au,aI,aJ,aK,aL,aH,bM,eB,cR,cz,cF,cg,bX,bY] 39 λw0=>
 Aw w0 #[af,af,af,af,af,.slice none 0 0,.slice none 0 0,.slice none 0 0,.slice none 0 0,af,af,.slice none 0 0,af,af,.slice none 0 0,.slice none 0 0] 39 λw1=>
 ∃I2:Nat->Int->Int->Int->Int->Int->Int->Sl->Sl->Sl->Sl->Int->Int->Sl->Int->Int->Sl->Sl->World->Prop,
 (∃n3,aP [af,af,af,af,af,.slice none 0 0,.slice none 0 0,.slice none 0 0,.slice none 0 0,af,af,.slice none 0 0,af,af,.slice none 0 0,.slice none 0 0]/\I2 n3 (0) aq ar au aI aJ aK aL aH bM eB cR cz cF cg bX bY w1)/\
 ∀(n3:Nat)(U3:Nat->Value)(x5 x6 x7 x8 x9 br:Int)(eJ eH gf sw:Sl)(bA cY:Int)(gZ:Sl)(cn cN:Int)(rZ jk:Sl)(cx:World),I2 n3 x5 x6 x7 x8 x9 br eJ eH gf sw bA cY gZ cn cN rZ jk cx->
 Br (decide ((((gZ.n:Nat):Int):Int)>0))
 (Br (x5<a1)
 (Br (x5<1000)
 (ah 66 #[.agg #[x6,x7,x8,x9,br,eJ,eH,gf,sw,bA,cY,gZ,cn,cN,rZ,jk]] cx (λe fu=>∃(cW dV dc eM iL:Int)(gP g9 iR Js:Sl)(fX jy:Int)(o4:Sl)(gd ja:Int)(si Qm:Sl)(kK:Int),e=Value.tuple #[.agg #[cW,dV,dc,eM,iL,gP,g9,iR,Js,fX,jy,o4,gd,ja,si,Qm],kK]/\K2 w w0 cx fu (
 Aw fu #[af,af,af,af,af,.slice none 0 0,.slice none 0 0,.slice none 0 0,.slice none 0 0,af,af,.slice none 0 0,af,af,.slice none 0 0,.slice none 0 0] 39 λnp=>
 Sw np fu #[cW,dV,dc,eM,iL,gP,g9,iR,Js,fX,jy,o4,gd,ja,si,Qm] λpY=>
 Sw pY w #[cW,dV,dc,eM,iL,gP,g9,iR,Js,fX,jy,o4,gd,ja,si,Qm] λjz=>
 ∃PA,PA<n3/\aP [af,af,af,af,af,.slice none 0 0,.slice none 0 0,.slice none 0 0,.slice none 0 0,af,af,.slice none 0 0,af,af,.slice none 0 0,.slice none 0 0]/\I2 PA ((ai (x5+1))) cW dV dc eM iL gP g9 iR Js fX jy o4 gd ja si Qm jz)))
 (Sw cx w0 #[x6,x7,x8,x9,br,eJ,eH,gf,sw,bA,cY,gZ,cn,cN,rZ,jk] λDr=>
 R (Value.tuple #[.agg #[x6,x7,x8,x9,br,eJ,eH,gf,sw,bA,cY,gZ,cn,cN,rZ,jk],x5]) Dr))
 (Sw cx w0 #[x6,x7,x8,x9,br,eJ,eH,gf,sw,bA,cY,gZ,cn,cN,rZ,jk] λDn=>
 R (Value.tuple #[.agg #[x6,x7,x8,x9,br,eJ,eH,gf,sw,bA,cY,gZ,cn,cN,rZ,jk],x5]) Dn))
 (Sw cx w0 #[x6,x7,x8,x9,br,eJ,eH,gf,sw,bA,cY,gZ,cn,cN,rZ,jk] λoO=>
 R (Value.tuple #[.agg #[x6,x7,x8,x9,br,eJ,eH,gf,sw,bA,cY,gZ,cn,cN,rZ,jk],x5]) oO)):ah 63 #[.agg #[aq,ar,au,aI,aJ,aK,aL,aH,bM,eB,cR,cz,cF,cg,bX,bY],a1] w R:=
 cq ⟨[(2,⟨[(6,.int .i64)],[(0,[.int .i64,.int .i64,.int .i64,.int .i64,.int .i64,.slice,.slice,.slice,.slice,.int .i64,.int .i64,.slice,.int .i64,.int .i64,.slice,.slice])],[]⟩)],[],[]⟩ Tryz.func63 h
def KF.vc{a0:Addr}{jg:Sl}{jh:Sl}{ji:Sl}{gq:Sl}{hJ:Int}{gM:Sl}{hM:Int}{hX:Int}{gN:Sl}{gO:Sl}(h:
 Aw w #[ao,aj,aw,dO,ic,jg,jh,ji,gq,gY,hJ,gM,hM,hX,gN,gO] 39 λw0=>
 Aw w0 #[dj,dZ,dU,lg,lO,nm] 67 λw1=>
 Aw w1 #[af,af,af,af,af,.slice none 0 0,.slice none 0 0,.slice none 0 0,.slice none 0 0,af,af,.slice none 0 0,af,af,.slice none 0 0,.slice none 0 0] 39 λw2=>
 ∃J3:Bool->World->Prop,
 (Br (dj==0)
 (aP [ao,aj,aw,dO,ic,jg,jh,ji,gq,gY,hJ,gM,hM,hX,gN,gO]/\aP [dj,dZ,dU,lg,lO,nm]/\aP [af,af,af,af,af,.slice none 0 0,.slice none 0 0,.slice none 0 0,.slice none 0 0,af,af,.slice none 0 0,af,af,.slice none 0 0,.slice none 0 0]/\J3 (dj==0) w2)
 (Br (dj==1)
 (aP [ao,aj,aw,dO,ic,jg,jh,ji,gq,gY,hJ,gM,hM,hX,gN,gO]/\aP [dj,dZ,dU,lg,lO,nm]/\aP [af,af,af,af,af,.slice none 0 0,.slice none 0 0,.slice none 0 0,.slice none 0 0,af,af,.slice none 0 0,af,af,.slice none 0 0,.slice none 0 0]/\J3 (dj==1) w2)
 (Br (dj==2)
 (aP [ao,aj,aw,dO,ic,jg,jh,ji,gq,gY,hJ,gM,hM,hX,gN,gO]/\aP [dj,dZ,dU,lg,lO,nm]/\aP [af,af,af,af,af,.slice none 0 0,.slice none 0 0,.slice none 0 0,.slice none 0 0,af,af,.slice none 0 0,af,af,.slice none 0 0,.slice none 0 0]/\J3 (dj==2) w2)
 (aP [ao,aj,aw,dO,ic,jg,jh,ji,gq,gY,hJ,gM,hM,hX,gN,gO]/\aP [dj,dZ,dU,lg,lO,nm]/\aP [af,af,af,af,af,.slice none 0 0,.slice none 0 0,.slice none 0 0,.slice none 0 0,af,af,.slice none 0 0,af,af,.slice none 0 0,.slice none 0 0]/\J3 (dj==3) w2))))/\
 ∀U3:Nat->Value,∀(b5:Bool)(w6:World),J3 b5 w6->
 Br b5
 (ah 12 #[.agg #[lg,lO,nm]] w6 (Je λx8 x9 br w7=>K3 w w0 w1 w6 w7 (
 Aw w7 #[af,af,af] 23 λcH=>
 Sw cH w7 #[x8,x9,br] λbR=>
 ah 25 #[dZ] bR (Ri λcl cA=>K4 w w0 w1 w7 bR cA (
 ah 26 #[.agg #[ao,aj,aw,dO,ic,jg,jh,ji,gq,gY,hJ,gM,hM,hX,gN,gO],.agg #[x8,x9,br],cl] cA (λe cS=>∃(cY cP cn cN dK:Int)(jk vG B4 kL:Sl)(cW dV:Int)(lV:Sl)(eM iL:Int)(gP g9:Sl)(jA:Int),e=Value.tuple #[.agg #[cY,cP,cn,cN,dK,jk,vG,B4,kL,cW,dV,lV,eM,iL,gP,g9],jA]/\K4 w w0 w1 w7 cA cS (
 Aw cS #[af,af,af,af,af,.slice none 0 0,.slice none 0 0,.slice none 0 0,.slice none 0 0,af,af,.slice none 0 0,af,af,.slice none 0 0,.slice none 0 0] 39 λlz=>
 Sw lz cS #[cY,cP,cn,cN,dK,jk,vG,B4,kL,cW,dV,lV,eM,iL,gP,g9] λly=>
 ah 14 #[a0,.agg #[x8,x9,br],cl] ly.drew (Ri λkx wP=>K5 w w0 w1 w7 cS ly.drew wP (
 av wP (bu cS) 0 [cY,cP,cn,cN,dK,jk,vG,B4,kL,cW,dV,lV,eM,iL,gP,g9]/\Sw wP w1 #[cY,cP,cn,cN,dK,jk,vG,B4,kL,cW,dV,lV,eM,iL,gP,g9] λjj=>
 R (Value.tuple #[.agg #[cY,cP,cn,cN,dK,jk,vG,B4,kL,cW,dV,lV,eM,iL,gP,g9],.bool (kx==jA)]) jj)))))))))
 (Br (dj==4)
 (ah 62 #[.agg #[lg,lO,nm]] w6 (Je λkq nz kK qx=>K3 w w0 w1 w6 qx (
 Aw qx #[af,af,af] 23 λnp=>
 Sw np qx #[kq,nz,kK] λpY=>
 ah 26 #[.agg #[ao,aj,aw,dO,ic,jg,jh,ji,gq,gY,hJ,gM,hM,hX,gN,gO],.agg #[kq,nz,kK],dZ] pY (λe jz=>∃(lj oY ma rW jY:Int)(MW FD W2 WV:Sl)(wW FE:Int)(Yd:Sl)(uC oP:Int)(LO U8:Sl)(pa:Int),e=Value.tuple #[.agg #[lj,oY,ma,rW,jY,MW,FD,W2,WV,wW,FE,Yd,uC,oP,LO,U8],pa]/\K4 w w0 w1 qx pY jz (
 Aw jz #[af,af,af,af,af,.slice none 0 0,.slice none 0 0,.slice none 0 0,.slice none 0 0,af,af,.slice none 0 0,af,af,.slice none 0 0,.slice none 0 0] 39 λAV=>
 Sw AV jz #[lj,oY,ma,rW,jY,MW,FD,W2,WV,wW,FE,Yd,uC,oP,LO,U8] λw63=>
 ah 14 #[a0,.agg #[kq,nz,kK],dZ] w63.drew (Ri λwX Wz=>K5 w w0 w1 qx jz w63.drew Wz (
 av Wz (bu jz) 0 [lj,oY,ma,rW,jY,MW,FD,W2,WV,wW,FE,Yd,uC,oP,LO,U8]/\Sw Wz w1 #[lj,oY,ma,rW,jY,MW,FD,W2,WV,wW,FE,Yd,uC,oP,LO,U8] λsy=>
 R (Value.tuple #[.agg #[lj,oY,ma,rW,jY,MW,FD,W2,WV,wW,FE,Yd,uC,oP,LO,U8],.bool (wX==pa)]) sy)))))))
 (Br (dj==5)
 (ah 19 #[dU,(8:Int)] w6 (Ri λyK um=>K3 w w0 w1 w6 um (
 ah 63 #[.agg #[ao,aj,aw,dO,ic,jg,jh,ji,gq,gY,hJ,gM,hM,hX,gN,gO],yK] um (λe lA=>∃(jB rX qy re qc:Int)(yl IQ Ds uE:Sl)(EZ oQ:Int)(W3:Sl)(q8 wR:Int)(W4 PU:Sl)(x86:Int),e=Value.tuple #[.agg #[jB,rX,qy,re,qc,yl,IQ,Ds,uE,EZ,oQ,W3,q8,wR,W4,PU],x86]/\K3 w w0 w1 um lA (
 Aw lA #[af,af,af,af,af,.slice none 0 0,.slice none 0 0,.slice none 0 0,.slice none 0 0,af,af,.slice none 0 0,af,af,.slice none 0 0,.slice none 0 0] 39 λpZ=>
 Sw pZ lA #[jB,rX,qy,re,qc,yl,IQ,Ds,uE,EZ,oQ,W3,q8,wR,W4,PU] λyI=>
 ah 16 #[a0,yK] yI.drew (Ri λx90 FG=>K4 w w0 w1 lA yI.drew FG (
 av FG (bu lA) 0 [jB,rX,qy,re,qc,yl,IQ,Ds,uE,EZ,oQ,W3,q8,wR,W4,PU]/\Sw FG w1 #[jB,rX,qy,re,qc,yl,IQ,Ds,uE,EZ,oQ,W3,q8,wR,W4,PU] λTK=>
 R (Value.tuple #[.agg #[jB,rX,qy,re,qc,yl,IQ,Ds,uE,EZ,oQ,W3,q8,wR,W4,PU],.bool (x90==x86)]) TK)))))))
 (Br (dj==6)
 (ah 10 #[a0] w6 (λe wU=>∃(p93:Option Addr),e=p93/\K3 w w0 w1 w6 wU (
 Br (p93).isNone
 (Sw wU w1 #[ao,aj,aw,dO,ic,jg,jh,ji,gq,gY,hJ,gM,hM,hX,gN,gO] λw94=>
 R (Value.tuple #[.agg #[ao,aj,aw,dO,ic,jg,jh,ji,gq,gY,hJ,gM,hM,hX,gN,gO],false]) w94)
 (ah 37 #[p93] wU (λe W5=>∃(p96:Option Addr),e=p96/\K3 w w0 w1 wU W5 (
 Br (p96).isNone
 (Sw W5 w1 #[ao,aj,aw,dO,ic,jg,jh,ji,gq,gY,hJ,gM,hM,hX,gN,gO] λse=>
 R (Value.tuple #[.agg #[ao,aj,aw,dO,ic,jg,jh,ji,gq,gY,hJ,gM,hM,hX,gN,gO],false]) se)
 (Br (((Int.tmod dU 2):Int) !=0)
 (ah 64 #[.agg #[ao,aj,aw,dO,ic,jg,jh,ji],.agg #[af,(1:Int)]] W5 (λe M3=>∃(x99 Ca Cb qJ nq:Int)(yp Cf PV:Sl)(vK:Int),e=Value.tuple #[.agg #[x99,Ca,Cb,qJ,nq,yp,Cf,PV],vK]/\K3 w w0 w1 W5 M3 (
 Aw M3 #[af,af,af,af,af,.slice none 0 0,.slice none 0 0,.slice none 0 0] 30 λaaS=>
 Sw aaS M3 #[x99,Ca,Cb,qJ,nq,yp,Cf,PV] λyq=>
 Sw yq w #[x99,Ca,Cb,qJ,nq,yp,Cf,PV,gq,gY,hJ,gM,hM,hX,gN,gO] λfY=>
 ah 65 #[p96,.agg #[af,(1:Int)]] fY.drew (Ri λmJ LJ=>K4 w w0 w1 M3 fY.drew LJ (
 av LJ w 0 [x99,Ca,Cb,qJ,nq,yp,Cf,PV,gq,gY,hJ,gM,hM,hX,gN,gO]/\Sw LJ w1 #[x99,Ca,Cb,qJ,nq,yp,Cf,PV,gq,gY,hJ,gM,hM,hX,gN,gO] λPJ=>
 R (Value.tuple #[.agg #[x99,Ca,Cb,qJ,nq,yp,Cf,PV,gq,gY,hJ,gM,hM,hX,gN,gO],.bool (mJ==vK)]) PJ)))))
 (ah 39 #[.agg #[ao,aj,aw,dO,ic,jg,jh,ji],.agg #[af,(1:Int)]] W5 (λe Fb=>∃(lk qd vP Fa uv:Int)(mI PW PX:Sl)(yj:Int),e=Value.tuple #[.agg #[lk,qd,vP,Fa,uv,mI,PW,PX],yj]/\K3 w w0 w1 W5 Fb (
 Aw Fb #[af,af,af,af,af,.slice none 0 0,.slice none 0 0,.slice none 0 0] 30 λCc=>
 Sw Cc Fb #[lk,qd,vP,Fa,uv,mI,PW,PX] λPR=>
 Sw PR w #[lk,qd,vP,Fa,uv,mI,PW,PX,gq,gY,hJ,gM,hM,hX,gN,gO] λIV=>
 ah 38 #[p96,.agg #[af,(1:Int)]] IV.drew (Ri λPS E4=>K4 w w0 w1 Fb IV.drew E4 (
 av E4 w 0 [lk,qd,vP,Fa,uv,mI,PW,PX,gq,gY,hJ,gM,hM,hX,gN,gO]/\Sw E4 w1 #[lk,qd,vP,Fa,uv,mI,PW,PX,gq,gY,hJ,gM,hM,hX,gN,gO] λIW=>
 R (Value.tuple #[.agg #[lk,qd,vP,Fa,uv,mI,PW,PX,gq,gY,hJ,gM,hM,hX,gN,gO],.bool (PS==yj)]) IW))))))))))))
 (ah 66 #[.agg #[ao,aj,aw,dO,ic,jg,jh,ji,gq,gY,hJ,gM,hM,hX,gN,gO]] w6 (λe TT=>∃(E5 ou oZ TU ux:Int)(E6 sh sk TV:Sl)(TW A9:Int)(TX:Sl)(TY TZ:Int)(T0 T6:Sl)(yn:Int),e=Value.tuple #[.agg #[E5,ou,oZ,TU,ux,E6,sh,sk,TV,TW,A9,TX,TY,TZ,T0,T6],yn]/\K3 w w0 w1 w6 TT (
 Aw TT #[af,af,af,af,af,.slice none 0 0,.slice none 0 0,.slice none 0 0,.slice none 0 0,af,af,.slice none 0 0,af,af,.slice none 0 0,.slice none 0 0] 39 λIX=>
 Sw IX TT #[E5,ou,oZ,TU,ux,E6,sh,sk,TV,TW,A9,TX,TY,TZ,T0,T6] λad9=>
 ah 15 #[a0] ad9.drew (Ri λTS aaT=>K4 w w0 w1 TT ad9.drew aaT (
 av aaT (bu TT) 0 [E5,ou,oZ,TU,ux,E6,sh,sk,TV,TW,A9,TX,TY,TZ,T0,T6]/\Sw aaT w1 #[E5,ou,oZ,TU,ux,E6,sh,sk,TV,TW,A9,TX,TY,TZ,T0,T6] λaiR=>
 R (Value.tuple #[.agg #[E5,ou,oZ,TU,ux,E6,sh,sk,TV,TW,A9,TX,TY,TZ,T0,T6],.bool (TS==yn)]) aiR))))))))):ah 32 #[a0,.agg #[ao,aj,aw,dO,ic,jg,jh,ji,gq,gY,hJ,gM,hM,hX,gN,gO],.agg #[dj,dZ,dU,lg,lO,nm]] w R:=
 cq ⟨[],[(6,⟨[(28,.bool)],[],[]⟩)],[]⟩ Tryz.func32 h
end Go.Proofs.YtalpkjfpmdpbiaaGreatDoor
