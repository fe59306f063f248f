import Derived.Test.YtalpkjfpmdpbiaaGreatDoorGSR
set_option linter.all false
namespace Go.Proofs.YtalpkjfpmdpbiaaGreatDoor
open Go Go.Vc Go.RowKit Go.Proofs
set_option maxRecDepth 100000
set_option maxHeartbeats 8000000
set_option linter.unusedVariables false
variable {R:Ending->World->Prop} {w:World} {a0 a1 a2 a3 a4 a5 a6 a7 a8 a9 aq ar av aI aJ aK aL aH bO eE ao ak aw dB gn gB gC gD fM gE db dR dO ln lO nv ym yn yp yq yt yu yw yx yy yz yA yB yC yD:Int}
def Sr.vc{aq:Sl}{a1:Sl}(h:
 Aw w #[aq,ar] 214 λw0=>
 Aw w0 #[db,dR,dO] 23 λw1=>
 ∃I2:Nat->Int->World->Prop,
 (∃n3,aP [aq,ar]/\aP [db,dR,dO]/\I2 n3 ((ai (((a1.n:Nat):Int)-1))) w1)/\
 ∀(n3:Nat)(VH:Nat->Value)(x5:Int)(w6:World),I2 n3 x5 w6->
 Br (x5>=0)
 (cA a1.a x5 a1.n/\bk (eV (ae a1.a ((x5:Int).toNat*4))) (∃(x8 x9 bq:Int),au w6.drew (ae (ae a1.a ((x5:Int).toNat*4)) 0) 0 [x8,x9,bq]/\
 Br ((x8==db) &&((x9==dR) &&(bq==dO)))
 (cA a1.a x5 a1.n/\bk (eV (ae a1.a ((x5:Int).toNat*4))) (∃(bR:Int),ld w6.drew (ae (ae a1.a ((x5:Int).toNat*4)) 3)=some (.int .i64 bR)/\
 R bR w6.drew))
 (∃n7,n7<n3/\aP [aq,ar]/\aP [db,dR,dO]/\I2 n7 ((ai (x5-1))) w6.drew)))
 (ah 235 #[.agg #[aq,ar],.agg #[db,dR,dO]] w6 (Ri λcz bS=>K2 w w0 w6 bS (
 R cz bS)))):ah 198 #[.agg #[aq,ar],a1,.agg #[db,dR,dO]] w R:=
 cq ⟨[(2,⟨[(7,.int .i64)],[],[]⟩)],[],[]⟩ Tryz.func198 h
def HI.vc(h:
 Aw w #[aq,ar,av] 23 λw0=>
 ah 100 #[.agg #[aq,ar,av],(-1:Int),(0:Int),(0:Int)] w0.drew (G4 λx2 x3 x4 w1=>Kp w w0.drew w1/\
 au w1 w 0 [aq,ar,av]/\au w1 w 0 [aq,ar,av]/\au w1 w 0 [aq,ar,av]/\ah 100 #[.agg #[aq,ar,av],(1:Int),(0:Int),(0:Int)] w1 (G4 λx6 x7 x8 w5=>Kp w w1 w5/\
 au w5 w 0 [aq,ar,av]/\au w5 w 0 [aq,ar,av]/\ah 100 #[.agg #[aq,ar,av],(0:Int),(0:Int),(-1:Int)] w5 (G4 λbq bR bU w9=>Kp w w5 w9/\
 au w9 w 0 [aq,ar,av]/\ah 100 #[.agg #[aq,ar,av],(0:Int),(0:Int),(1:Int)] w9 (G4 λbW bw cQ cC=>Kp w w9 cC/\
 Aw cC #[x2,x3,x4,x6,x7,x8,bq,bR,bU,bW,bw,cQ] 23 λcE=>
 R (Value.slice (bu cC) 4 4) cE))))):ah 201 #[.agg #[aq,ar,av]] w R:=
 cq cc Tryz.func201 h
def HJ.vc{aq:Sl}{a1:Sl}(h:
 Aw w #[aq,ar] 214 λw0=>
 Aw w0 #[db,dR,dO] 23 λw1=>
 ah 100 #[.agg #[db,dR,dO],(0:Int),(1:Int),(0:Int)] w1.drew (G4 λx3 x4 x5 w2=>K2 w w0 w1.drew w2 (
 au w2 w 0 [aq,ar]/\ah 198 #[.agg #[aq,ar],a1,.agg #[x3,x4,x5]] w2 (Ri λx7 w6=>K2 w w0 w2 w6 (
 ah 101 #[x7] w6 (Rb λb9 w8=>K2 w w0 w6 w8 (
 Br b9
 (R (1:Int) w8)
 (ah 201 #[.agg #[db,dR,dO]] w8 (Rs λeO bL=>K2 w w0 w8 bL (
 ∃YZ:Nat->Int->Int->World->Prop,
 (∃ve,aP [aq,ar]/\aP [db,dR,dO]/\YZ ve (0) (8) bL)/\
 ∀(ve:Nat)(aiG:Nat->Value)(bw cQ:Int)(cE:World),YZ ve bw cQ cE->
 Br (bw<4)
 (cA eO.a bw eO.n/\∃(cK du fT:Int),au cE.drew (ae eO.a ((bw:Int).toNat*3)) 0 [cK,du,fT]/\
 ah 198 #[.agg #[aq,ar],a1,.agg #[cK,du,fT]] cE.drew (Ri λdc ct=>K2 w w0 cE.drew ct (
 ah 101 #[dc] ct (Rb λb25 fy=>K2 w w0 ct fy (
 Br b25
 (∃Qe,Qe<ve/\aP [aq,ar]/\aP [db,dR,dO]/\YZ Qe ((ai (bw+1))) ((if (ai ((ai (dc-8))+1))<cQ then (ai ((ai (dc-8))+1)) else cQ)) fy)
 (∃Qe,Qe<ve/\aP [aq,ar]/\aP [db,dR,dO]/\YZ Qe ((ai (bw+1))) cQ fy))))))
 (R cQ cE))))))))))):ah 200 #[.agg #[aq,ar],a1,.agg #[db,dR,dO]] w R:=
 cq ⟨[(6,⟨[(9,.int .i64),(8,.int .i64)],[],[]⟩)],[],[]⟩ Tryz.func200 h
def Lk.vc{aq:Sl}{a1:Sl}(h:
 Aw w #[aq,ar] 214 λw0=>
 Aw w0 #[db,dR,dO] 23 λw1=>
 ah 198 #[.agg #[aq,ar],a1,.agg #[db,dR,dO]] w1 (Ri λx3 w2=>K2 w w0 w1 w2 (
 ah 100 #[.agg #[db,dR,dO],(0:Int),(-1:Int),(0:Int)] w2 (G4 λx5 x6 x7 w4=>K2 w w0 w2 w4 (
 Aw w4 #[af,af,af] 23 λw8=>
 Sw w8 w4 #[x5,x6,x7] λw9=>
 ah 198 #[.agg #[aq,ar],a1,.agg #[x5,x6,x7]] w9 (Ri λbR bL=>K3 w w0 w4 w9 bL (
 Br (x3==3)
 (ah 199 #[bR] bL (Rb λb13 bS=>K3 w w0 w4 bL bS (
 Br b13
 (Aw bS #[db,dR,dO,bR,x5,x6,x7,(3:Int)] 71 λbY=>
 R (Value.slice (bu bS) 2 2) bY)
 (R (Value.slice none 0 0) bS))))
 (ah 101 #[x3] bL (Rb λb16 cU=>K3 w w0 w4 bL cU (
 Br (!b16)
 (R (Value.slice none 0 0) cU)
 (ah 200 #[.agg #[aq,ar],a1,.agg #[db,dR,dO]] cU (Ri λcf cE=>K3 w w0 w4 cU cE (
 ∃J19:World->Prop,
 (Br (decide (((ai (x3-8)):Int)>0))
 (Br (cf>7)
 (Aw cE #[db,dR,dO,af] 71 λdY=>
 R (Value.slice (bu cE) 1 1) dY)
 (aP [aq,ar]/\aP [db,dR,dO]/\aP [x5,x6,x7]/\J19 cE))
 (aP [aq,ar]/\aP [db,dR,dO]/\aP [x5,x6,x7]/\J19 cE))/\
 ∀ajm:Nat->Value,∀(ct:World),J19 ct->
 ∃J23:World->Prop,
 (Br (decide (((ai (x3-8)):Int)>0))
 (Br (cf !=(ai (x3-8)))
 (Aw ct #[db,dR,dO,(ai (8+cf))] 71 λfy=>
 R (Value.slice (bu ct) 1 1) fy)
 (aP [aq,ar]/\aP [db,dR,dO]/\aP [x5,x6,x7]/\J23 ct))
 (aP [aq,ar]/\aP [db,dR,dO]/\aP [x5,x6,x7]/\J23 ct))/\
 ∀apE:Nat->Value,∀(hZ:World),J23 hZ->
 Br (bR==0)
 (Aw hZ #[x5,x6,x7,(9:Int)] 71 λjf=>
 R (Value.slice (bu hZ) 1 1) jf)
 (ah 101 #[bR] hZ (Rb λb29 eN=>K3 w w0 w4 hZ eN (
 Br b29
 (R (Value.slice none 0 0) eN)
 (Br (((ai (x3-8)):Int)==7)
 (R (Value.slice none 0 0) eN)
 (ah 201 #[.agg #[db,dR,dO]] eN (Rs λib ia=>K3 w w0 w4 eN ia (
 ∃I32:Nat->Int->Sl->World->Prop,
 (∃n33,aP [aq,ar]/\aP [db,dR,dO]/\aP [x5,x6,x7]/\I32 n33 (0) ⟨none,0,0⟩ ia)/\
 ∀(n33:Nat)(apF:Nat->Value)(jy:Int)(pk:Sl)(hX:World),I32 n33 jy pk hX->
 Br (jy<4)
 (cA ib.a jy ib.n/\∃(kB nG jC:Int),au hX.drew (ae ib.a ((jy:Int).toNat*3)) 0 [kB,nG,jC]/\
 ah 198 #[.agg #[aq,ar],a1,.agg #[kB,nG,jC]] hX.drew (Ri λkG ny=>K3 w w0 w4 hX.drew ny (
 Br (kG==0)
 (cA ib.a jy ib.n/\∃(jI lp pj:Int),au ny (ae ib.a ((jy:Int).toNat*3)) 0 [jI,lp,pj]/\
 Aw ny #[jI,lp,pj,(ai (9+(ai (x3-8))))] 71 λoV=>
 aF 32 4 oV pk 1 [jI,lp,pj,(ai (9+(ai (x3-8))))]/\∀(Gd:Sl)(BS:World),aE 71 4 oV pk 1 [jI,lp,pj,(ai (9+(ai (x3-8))))] Gd BS->K4 w w0 w4 ny oV BS (
 ∃n38,n38<n33/\aP [aq,ar]/\aP [db,dR,dO]/\aP [x5,x6,x7]/\I32 n38 ((ai (jy+1))) Gd BS))
 (∃n38,n38<n33/\aP [aq,ar]/\aP [db,dR,dO]/\aP [x5,x6,x7]/\I32 n38 ((ai (jy+1))) pk ny))))
 (R pk hX))))))))))))))))))))):ah 155 #[.agg #[aq,ar],a1,.agg #[db,dR,dO]] w R:=
 cq ⟨[(23,⟨[(14,.int .i64),(13,.slice)],[],[]⟩)],[(16,⟨[],[],[]⟩),(14,⟨[],[],[]⟩)],[]⟩ Tryz.func155 h
def EF.vc(h:
 Br (a0==0)
 (R true w)
 (ah 101 #[a0] w (λe w0=>∃(b1:Bool),e=b1/\
 R b1 w0))):ah 199 #[a0] w R:=
 cq cc Tryz.func199 h
def HK.vc{a0:Sl}(h:
 Aw w #[ao,ak,aw] 23 λw0=>
 ∃I1:Nat->Int->World->Prop,
 (∃n2,aP [ao,ak,aw]/\I1 n2 (0) w0)/\
 ∀(n2:Nat)(Xf:Nat->Value)(x4:Int)(w5:World),I1 n2 x4 w5->
 Br (decide (x4<((a0.n:Nat):Int)))
 (cA a0.a x4 a0.n/\∃(x7 x8 x9:Int),au w5.drew (ae a0.a ((x4:Int).toNat*3)) 0 [x7,x8,x9]/\
 Br ((x7==ao) &&((x8==ak) &&(x9==aw)))
 (R true w5.drew)
 (∃n6,n6<n2/\aP [ao,ak,aw]/\I1 n6 ((ai (x4+1))) w5.drew))
 (R false w5)):ah 156 #[a0,.agg #[ao,ak,aw]] w R:=
 cq ⟨[(2,⟨[(5,.int .i64)],[],[]⟩)],[],[]⟩ Tryz.func156 h
def HL.vc{aK:Sl}{aL:Sl}{aH:Sl}{bO:Sl}{cT:Int}{cD:Sl}{cH:Int}{cn:Int}{cg:Sl}{cj:Sl}(h:
 Aw w #[aq,ar,av,aI,aJ,aK,aL,aH,bO,eE,cT,cD,cH,cn,cg,cj] 39 λw0=>
 Aw w0 #[ao,ak,aw] 23 λw1=>
 Aw w1 #[.slice none 0 0,af] 214 λw2=>
 Aw w2 #[af,af,af] 23 λw3=>
 Aw w3 #[.slice none 0 0,af] 214 λw4=>
 Sw w4 w3 #[.slice none 0 0,(-1:Int)] λw5=>
 ∃I6:Nat->Int->Sl->Int->World->Prop,
 (∃n7,aP [aq,ar,av,aI,aJ,aK,aL,aH,bO,eE,cT,cD,cH,cn,cg,cj]/\aP [ao,ak,aw]/\aP [.slice none 0 0,af]/\aP [af,af,af]/\I6 n7 (0) ⟨none,0,0⟩ ((-1)) w5)/\
 ∀(n7:Nat)(us8:Nat->Value)(x9:Int)(cO:Sl)(bR:Int)(bS:World),I6 n7 x9 cO bR bS->
 Br (x9<6)
 (∃I14:Nat->Int->Sl->Int->World->Prop,
 (∃n15,aP [aq,ar,av,aI,aJ,aK,aL,aH,bO,eE,cT,cD,cH,cn,cg,cj]/\aP [ao,ak,aw]/\aP [.slice none 0 0,af]/\aP [af,af,af]/\I14 n15 (0) cO bR bS)/\
 ∀(n15:Nat)(apG:Nat->Value)(cR:Int)(Y0:Sl)(cK:Int)(dY:World),I14 n15 cR Y0 cK dY->
 Br (cR<6)
 (∃I22:Nat->Int->Sl->Int->World->Prop,
 (∃Qf,aP [aq,ar,av,aI,aJ,aK,aL,aH,bO,eE,cT,cD,cH,cn,cg,cj]/\aP [ao,ak,aw]/\aP [.slice none 0 0,af]/\aP [af,af,af]/\I22 Qf (0) Y0 cK dY)/\
 ∀(Qf:Nat)(apH:Nat->Value)(da:Int)(wu:Sl)(dp:Int)(eN:World),I22 Qf da wu dp eN->
 Br (da<6)
 (∃Um:Int->World->Prop,
 (Br (da<3)
 (Br (x9<3)
 (Br (cR<3)
 (ah 57 #[.agg #[aq,ar,av,aI,aJ,aK,aL,aH,bO,eE,cT,cD,cH,cn,cg,cj],.agg #[(ai ((ai (ao+da))-1)),(ai ((ai (ak+x9))-1)),(ai ((ai (aw+cR))-1))]] eN (Ri λjB ik=>K5 w w0 w1 w2 w3 eN ik (
 aP [aq,ar,av,aI,aJ,aK,aL,aH,bO,eE,cT,cD,cH,cn,cg,cj]/\aP [ao,ak,aw]/\aP [.slice none 0 0,af]/\aP [af,af,af]/\aP [wu,dp]/\Um jB ik)))
 (aP [aq,ar,av,aI,aJ,aK,aL,aH,bO,eE,cT,cD,cH,cn,cg,cj]/\aP [ao,ak,aw]/\aP [.slice none 0 0,af]/\aP [af,af,af]/\aP [wu,dp]/\Um ((-1)) eN))
 (aP [aq,ar,av,aI,aJ,aK,aL,aH,bO,eE,cT,cD,cH,cn,cg,cj]/\aP [ao,ak,aw]/\aP [.slice none 0 0,af]/\aP [af,af,af]/\aP [wu,dp]/\Um ((-1)) eN))
 (aP [aq,ar,av,aI,aJ,aK,aL,aH,bO,eE,cT,cD,cH,cn,cg,cj]/\aP [ao,ak,aw]/\aP [.slice none 0 0,af]/\aP [af,af,af]/\aP [wu,dp]/\Um ((-1)) eN))/\
 ∀apI:Nat->Value,∀(gf:Int)(xu:World),Um gf xu->
 Aw xu #[gf] 3 λnC=>
 aF 8 1 nC wu 1 [gf]/\∀(FC:Sl)(qP:World),aE 3 1 nC wu 1 [gf] FC qP->K6 w w0 w1 w2 w3 xu nC qP (
 Sw qP w3 #[FC,dp] λiU=>
 ∃n29,n29<Qf/\aP [aq,ar,av,aI,aJ,aK,aL,aH,bO,eE,cT,cD,cH,cn,cg,cj]/\aP [ao,ak,aw]/\aP [.slice none 0 0,af]/\aP [af,af,af]/\I22 n29 ((ai (da+1))) FC dp iU))
 (∃Bp,Bp<n15/\aP [aq,ar,av,aI,aJ,aK,aL,aH,bO,eE,cT,cD,cH,cn,cg,cj]/\aP [ao,ak,aw]/\aP [.slice none 0 0,af]/\aP [af,af,af]/\I14 Bp ((ai (cR+1))) wu dp eN))
 (∃ve,ve<n7/\aP [aq,ar,av,aI,aJ,aK,aL,aH,bO,eE,cT,cD,cH,cn,cg,cj]/\aP [ao,ak,aw]/\aP [.slice none 0 0,af]/\aP [af,af,af]/\I6 ve ((ai (x9+1))) Y0 cK dY))
 ((Sw bS.drew w1 #[cO,bR] λiV=>
 au iV (lX w0 2) 0 [aw]/\au iV (lX w0 1) 0 [ak]/\au iV (bu w0) 0 [ao]/\Sw iV w2 #[(ai (ao-1)),(ai (ak-1)),(ai (aw-1))] λkE=>
 R (Value.tuple #[.agg #[cO,bR],.agg #[(ai (ao-1)),(ai (ak-1)),(ai (aw-1))]]) kE)/\(Sw bS.drew w1 #[cO,bR] λny=>
 au ny (lX w0 2) 0 [aw]/\au ny (lX w0 1) 0 [ak]/\au ny (bu w0) 0 [ao]/\Sw ny w2 #[(ai (ao-1)),(ai (ak-1)),(ai (aw-1))] λql=>
 R (Value.tuple #[.agg #[cO,bR],.agg #[(ai (ao-1)),(ai (ak-1)),(ai (aw-1))]]) ql))):ah 154 #[.agg #[aq,ar,av,aI,aJ,aK,aL,aH,bO,eE,cT,cD,cH,cn,cg,cj],.agg #[ao,ak,aw]] w R:=
 cq ⟨[(10,⟨[(9,.int .i64)],[(4,[.slice,.int .i64])],[]⟩),(7,⟨[(8,.int .i64)],[(4,[.slice,.int .i64])],[]⟩),(4,⟨[(7,.int .i64)],[(4,[.slice,.int .i64])],[]⟩)],[(15,⟨[(10,.int .i64)],[],[]⟩)],[]⟩ Tryz.func154 h
def O5.vc{av:Sl}(h:
 Aw w #[aq,ar,av] 36 λw0=>
 Aw w0 #[af,af,.slice none 0 0] 36 λw1=>
 ∃I2:Nat->Int->Sl->Sl->World->Prop,
 (∃n3,aP [aq,ar,av]/\aP [af,af,.slice none 0 0]/\I2 n3 (0) ⟨none,0,0⟩ ⟨none,0,0⟩ w1)/\
 ∀(n3:Nat)(VH:Nat->Value)(x5:Int)(s6 s7:Sl)(w8:World),I2 n3 x5 s6 s7 w8->
 Br (decide (x5<((av.n:Nat):Int)))
 (cA av.a x5 av.n/\bk (eV (ae av.a ((x5:Int).toNat*4))) (∃(bq:Int),ld w8 (ae (ae av.a ((x5:Int).toNat*4)) 0)=some (.int .i64 bq)/\
 Br (bq<=a1)
 (Br (decide ((((s6.n:Nat):Int):Int)<a2))
 (cA av.a x5 av.n/\bk (eV (ae av.a ((x5:Int).toNat*4))) (∃(bR bU cz:Int),au w8 (ae (ae av.a ((x5:Int).toNat*4)) 1) 0 [bR,bU,cz]/\
 Aw w8 #[bR,bU,cz] 23 λbY=>
 aF 24 3 bY s6 1 [bR,bU,cz]/\∀(ji:Sl)(cY:World),aE 23 3 bY s6 1 [bR,bU,cz] ji cY->K3 w w0 w8 bY cY (
 ∃n9,n9<n3/\aP [aq,ar,av]/\aP [af,af,.slice none 0 0]/\I2 n9 ((ai (x5+1))) ji s7 cY)))
 (cA av.a x5 av.n/\∃(cR cf cK du:Int),au w8 (ae av.a ((x5:Int).toNat*4)) 0 [cR,cf,cK,du]/\
 Aw w8 #[cR,cf,cK,du] 79 λef=>
 aF 32 4 ef s7 1 [cR,cf,cK,du]/\∀(wo:Sl)(gp:World),aE 79 4 ef s7 1 [cR,cf,cK,du] wo gp->K3 w w0 w8 ef gp (
 ∃n9,n9<n3/\aP [aq,ar,av]/\aP [af,af,.slice none 0 0]/\I2 n9 ((ai (x5+1))) s6 wo gp)))
 (cA av.a x5 av.n/\∃(de da dZ dp:Int),au w8 (ae av.a ((x5:Int).toNat*4)) 0 [de,da,dZ,dp]/\
 Aw w8 #[de,da,dZ,dp] 79 λeN=>
 aF 32 4 eN s7 1 [de,da,dZ,dp]/\∀(mf:Sl)(ia:World),aE 79 4 eN s7 1 [de,da,dZ,dp] mf ia->K3 w w0 w8 eN ia (
 ∃n9,n9<n3/\aP [aq,ar,av]/\aP [af,af,.slice none 0 0]/\I2 n9 ((ai (x5+1))) s6 mf ia))))
 (Sw w8 w #[aq,ar,s7] λik=>
 Sw ik w0 #[aq,ar,s7] λy8=>
 R (Value.tuple #[.agg #[aq,ar,s7],s6]) y8)):ah 109 #[.agg #[aq,ar,av],a1,a2] w R:=
 cq ⟨[(4,⟨[(10,.int .i64),(8,.slice),(9,.slice)],[],[]⟩)],[],[]⟩ Tryz.func109 h
def EG.vc{aK:Sl}{aL:Sl}{aH:Sl}{bO:Sl}{cT:Int}{cD:Sl}{cH:Int}{cn:Int}{cg:Sl}{cj:Sl}(h:
 Aw w #[aq,ar,av,aI,aJ,aK,aL,aH,bO,eE,cT,cD,cH,cn,cg,cj] 39 λw0=>
 Aw w0 #[ao,ak,aw] 23 λw1=>
 Aw w1 #[af,af,af,af,af,.slice none 0 0,.slice none 0 0,.slice none 0 0,.slice none 0 0,af,af,.slice none 0 0,af,af,.slice none 0 0,.slice none 0 0] 39 λw2=>
 ah 153 #[.agg #[aq,ar,av,aI,aJ,aK,aL,aH,bO],.agg #[ao,ak,aw]] w2 (Rb λb4 w3=>K3 w w0 w1 w2 w3 (
 Br (!b4)
 (ah 58 #[.agg #[eE,cT,cD],.agg #[ao,ak,aw],(ai (cn+1))] w3 (λe w5=>∃(x6 x7:Int)(s8:Sl)(b9:Bool),e=Value.tuple #[.agg #[x6,x7,s8],b9]/\K3 w w0 w1 w3 w5 (
 Aw w5 #[af,af,.slice none 0 0] 36 λbL=>
 Sw bL w5 #[x6,x7,s8] λcB=>
 Sw cB w #[aq,ar,av,aI,aJ,aK,aL,aH,bO,x6,x7,s8,cH,cn,cg,cj] λbS=>
 Sw bS w1 #[aq,ar,av,aI,aJ,aK,aL,aH,bO,x6,x7,s8,cH,cn,cg,cj] λcC=>
 R (Value.agg #[aq,ar,av,aI,aJ,aK,aL,aH,bO,x6,x7,s8,cH,cn,cg,cj]) cC)))
 (ah 154 #[.agg #[aq,ar,av,aI,aJ,aK,aL,aH,bO,eE,cT,cD,cH,cn,cg,cj],.agg #[ao,ak,aw]] w3 (λe bY=>∃(ji:Sl)(cQ cR cf cK:Int),e=Value.tuple #[.agg #[ji,cQ],.agg #[cR,cf,cK]]/\K3 w w0 w1 w3 bY (
 Aw bY #[.slice none 0 0,af] 214 λdY=>
 Aw dY #[af,af,af] 23 λef=>
 Sw ef bY #[ji,cQ] λct=>
 Sw ct dY #[cR,cf,cK] λgp=>
 ah 155 #[.agg #[ji,cQ],.slice none 0 0,.agg #[(1:Int),(1:Int),(1:Int)]] gp (Rs λme fy=>K5 w w0 w1 bY dY gp fy (
 Aw fy #[af,af,af] 23 λhZ=>
 Sw hZ fy #[ao,(ai (ak-1)),aw] λjf=>
 ah 156 #[cg,.agg #[ao,(ai (ak-1)),aw]] jf (Rb λb29 eN=>K6 w w0 w1 bY dY fy jf eN (
 ∃Um:Sl->Int->Int->Int->Int->Int->Sl->Sl->Sl->Sl->Int->Int->Sl->Int->Int->Sl->Sl->World->Prop,
 (ah 57 #[.agg #[aq,ar,av,aI,aJ,aK,aL,aH,bO,eE,cT,cD,cH,cn,cg,cj],.agg #[ao,ak,aw]] eN (Ri λjB ik=>K6 w w0 w1 bY dY fy eN ik (
 Br (jB==3)
 (Br (decide ((((me.n:Nat):Int):Int)>0))
 (Br b29
 (Aw ik #[(1:Int),(1:Int),(1:Int),af] 71 λlz=>
 ∃l34:LV,Rd lz cj.a l34/\aF 24 3 lz ⟨none,0,0⟩ cj.n l34/\∀(NQ:Sl)(nC:World),aE 23 3 lz ⟨none,0,0⟩ cj.n l34 NQ nC->K7 w w0 w1 bY dY fy ik lz nC (
 Aw nC #[ao,(ai (ak-1)),aw] 23 λhX=>
 aF 24 3 hX NQ 1 [ao,(ai (ak-1)),aw]/\∀(wD:Sl)(iU:World),aE 23 3 hX NQ 1 [ao,(ai (ak-1)),aw] wD iU->K8 w w0 w1 bY dY fy ik nC hX iU (
 Sw iU w #[aq,ar,av,aI,aJ,aK,aL,aH,bO,eE,cT,cD,cH,cn,cg,wD] λiV=>
 aP [ao,ak,aw]/\aP [af,af,af,af,af,.slice none 0 0,.slice none 0 0,.slice none 0 0,.slice none 0 0,af,af,.slice none 0 0,af,af,.slice none 0 0,.slice none 0 0]/\aP [ji,cQ]/\aP [cR,cf,cK]/\aP [ao,(ai (ak-1)),aw]/\Um ⟨(bu ik),1,1⟩ (aq) ar av aI aJ aK aL aH bO eE cT cD cH cn cg wD iV)))
 (aP [ao,ak,aw]/\aP [af,af,af,af,af,.slice none 0 0,.slice none 0 0,.slice none 0 0,.slice none 0 0,af,af,.slice none 0 0,af,af,.slice none 0 0,.slice none 0 0]/\aP [ji,cQ]/\aP [cR,cf,cK]/\aP [ao,(ai (ak-1)),aw]/\Um me aq ar av aI aJ aK aL aH bO eE cT cD cH cn cg cj ik))
 (aP [ao,ak,aw]/\aP [af,af,af,af,af,.slice none 0 0,.slice none 0 0,.slice none 0 0,.slice none 0 0,af,af,.slice none 0 0,af,af,.slice none 0 0,.slice none 0 0]/\aP [ji,cQ]/\aP [cR,cf,cK]/\aP [ao,(ai (ak-1)),aw]/\Um me aq ar av aI aJ aK aL aH bO eE cT cD cH cn cg cj ik))
 (aP [ao,ak,aw]/\aP [af,af,af,af,af,.slice none 0 0,.slice none 0 0,.slice none 0 0,.slice none 0 0,af,af,.slice none 0 0,af,af,.slice none 0 0,.slice none 0 0]/\aP [ji,cQ]/\aP [cR,cf,cK]/\aP [ao,(ai (ak-1)),aw]/\Um me aq ar av aI aJ aK aL aH bO eE cT cD cH cn cg cj ik))))/\
 ∀ajr:Nat->Value,∀(nH:Sl)(kG jI lp pj mc:Int)(Gd yX NN Gf:Sl)(uS uO:Int)(BP:Sl)(yK DR:Int)(QO s58:Sl)(Xv:World),Um nH kG jI lp pj mc Gd yX NN Gf uS uO BP yK DR QO s58 Xv->
 ∃Y2:Nat->Int->Int->Int->Int->Int->Int->Sl->Sl->Sl->Sl->Int->Int->Sl->Int->Int->Sl->Sl->World->Prop,
 (∃VL,aP [ao,ak,aw]/\aP [af,af,af,af,af,.slice none 0 0,.slice none 0 0,.slice none 0 0,.slice none 0 0,af,af,.slice none 0 0,af,af,.slice none 0 0,.slice none 0 0]/\aP [ji,cQ]/\aP [cR,cf,cK]/\aP [ao,(ai (ak-1)),aw]/\Y2 VL (0) kG jI lp pj mc Gd yX NN Gf uS uO BP yK DR QO s58 Xv)/\
 ∀(VL:Nat)(Xr:Nat->Value)(lQ FK rG lP qO zb:Int)(Un Uo J5 Up:Sl)(rH qm:Int)(yJ:Sl)(rI po:Int)(vf NR:Sl)(sL:World),Y2 VL lQ FK rG lP qO zb Un Uo J5 Up rH qm yJ rI po vf NR sL->
 Br (decide (lQ<((nH.n:Nat):Int)))
 (∃J82:Option Addr->World->Prop,
 (cA nH.a lQ nH.n/\bk (eV (ae nH.a ((lQ:Int).toNat*4))) (bk (eV (ae (ae nH.a ((lQ:Int).toNat*4)) 0)) (∃(xz:Int),ld sL.drew (ae (ae (ae nH.a ((lQ:Int).toNat*4)) 0) 0)=some (.int .i64 xz)/\
 cA nH.a lQ nH.n/\bk (eV (ae nH.a ((lQ:Int).toNat*4))) (bk (eV (ae (ae nH.a ((lQ:Int).toNat*4)) 0)) (∃(NH:Int),ld sL.drew (ae (ae (ae nH.a ((lQ:Int).toNat*4)) 0) 1)=some (.int .i64 NH)/\
 cA nH.a lQ nH.n/\bk (eV (ae nH.a ((lQ:Int).toNat*4))) (bk (eV (ae (ae nH.a ((lQ:Int).toNat*4)) 0)) (∃(NI:Int),ld sL.drew (ae (ae (ae nH.a ((lQ:Int).toNat*4)) 0) 2)=some (.int .i64 NI)/\
 (Aw sL.drew #[af,af,af] 23 λy3=>
 Sw y3 sL.drew.heap.size #[(ai (cR+xz)),(ai (cf+NH)),(ai (cK+NI))] λlV=>
 aP [FK,rG,lP,qO,zb,Un,Uo,J5,Up,rH,qm,yJ,rI,po,vf,NR]/\aP [ao,ak,aw]/\aP [af,af,af,af,af,.slice none 0 0,.slice none 0 0,.slice none 0 0,.slice none 0 0,af,af,.slice none 0 0,af,af,.slice none 0 0,.slice none 0 0]/\aP [ji,cQ]/\aP [cR,cf,cK]/\aP [ao,(ai (ak-1)),aw]/\J82 (bu sL.drew.heap.size) lV)/\(Aw sL.drew #[af,af,af] 23 λy7=>
 Sw y7 sL.drew.heap.size #[(ai (cR+xz)),(ai (cf+NH)),(ai (cK+NI))] λGi=>
 aP [FK,rG,lP,qO,zb,Un,Uo,J5,Up,rH,qm,yJ,rI,po,vf,NR]/\aP [ao,ak,aw]/\aP [af,af,af,af,af,.slice none 0 0,.slice none 0 0,.slice none 0 0,.slice none 0 0,af,af,.slice none 0 0,af,af,.slice none 0 0,.slice none 0 0]/\aP [ji,cQ]/\aP [cR,cf,cK]/\aP [ao,(ai (ak-1)),aw]/\J82 (bu sL.drew.heap.size) Gi))))))))/\
 ∀abg:Nat->Value,∀(p91:Option Addr)(xB:World),J82 p91 xB->
 ∃(NP Jr Cy:Int),au xB.drew p91 0 [NP,Jr,Cy]/\
 cA nH.a lQ nH.n/\bk (eV (ae nH.a ((lQ:Int).toNat*4))) (∃(BT:Int),ld xB.drew (ae (ae nH.a ((lQ:Int).toNat*4)) 3)=some (.int .i64 BT)/\
 ah 57 #[.agg #[FK,rG,lP,qO,zb,Un,Uo,J5,Up,rH,qm,yJ,rI,po,vf,NR],.agg #[NP,Jr,Cy]] xB.drew (Ri λtd sQ=>K6 w w0 w1 bY dY fy xB.drew sQ (
 au sQ (ae (ae nH.a ((lQ:Int).toNat*4)) 3) 0 [BT]/\Br (td !=BT)
 (∃J99:Option Addr->World->Prop,
 (∃(CD CE q6:Int),au sQ.drew p91 0 [CD,CE,q6]/\
 cA nH.a lQ nH.n/\bk (eV (ae nH.a ((lQ:Int).toNat*4))) (∃(mL:Int),ld sQ.drew (ae (ae nH.a ((lQ:Int).toNat*4)) 3)=some (.int .i64 mL)/\
 (ah 26 #[.agg #[FK,rG,lP,qO,zb,Un,Uo,J5,Up,rH,qm,yJ,rI,po,vf,NR],.agg #[CD,CE,q6],mL] sQ.drew (λe FL=>∃(Jw wE uU Qn ij:Int)(aeG aeH aeI aeJ:Sl)(qn qp:Int)(Qp:Sl)(sR sS:Int)(Jy uX:Sl)(Mq:Int),e=Value.tuple #[.agg #[Jw,wE,uU,Qn,ij,aeG,aeH,aeI,aeJ,qn,qp,Qp,sR,sS,Jy,uX],Mq]/\K6 w w0 w1 bY dY fy sQ.drew FL (
 Aw FL #[af,af,af,af,af,.slice none 0 0,.slice none 0 0,.slice none 0 0,.slice none 0 0,af,af,.slice none 0 0,af,af,.slice none 0 0,.slice none 0 0] 39 λXy=>
 Sw Xy FL #[Jw,wE,uU,Qn,ij,aeG,aeH,aeI,aeJ,qn,qp,Qp,sR,sS,Jy,uX] λXz=>
 aP [FK,rG,lP,qO,zb,Un,Uo,J5,Up,rH,qm,yJ,rI,po,vf,NR]/\aP [ao,ak,aw]/\aP [af,af,af,af,af,.slice none 0 0,.slice none 0 0,.slice none 0 0,.slice none 0 0,af,af,.slice none 0 0,af,af,.slice none 0 0,.slice none 0 0]/\aP [ji,cQ]/\aP [cR,cf,cK]/\aP [ao,(ai (ak-1)),aw]/\J99 (bu FL) Xz)))/\(Aw sQ.drew #[af,af,af,af,af,.slice none 0 0,.slice none 0 0,.slice none 0 0,.slice none 0 0,af,af,.slice none 0 0,af,af,.slice none 0 0,.slice none 0 0] 39 λCF=>
 ah 26 #[.agg #[FK,rG,lP,qO,zb,Un,Uo,J5,Up,rH,qm,yJ,rI,po,vf,NR],.agg #[CD,CE,q6],mL] CF (λe Qq=>∃(CG CH XA Jt Ju:Int)(sT Qs aeK yI:Sl)(uY CI:Int)(qt:Sl)(FN aeL:Int)(aeM XB:Sl)(Qt:Int),e=Value.tuple #[.agg #[CG,CH,XA,Jt,Ju,sT,Qs,aeK,yI,uY,CI,qt,FN,aeL,aeM,XB],Qt]/\K6 w w0 w1 bY dY fy CF Qq (
 Qq.heap[sQ.drew.heap.size]? =CF.heap[sQ.drew.heap.size]?/\
 Sw Qq sQ.drew.heap.size #[CG,CH,XA,Jt,Ju,sT,Qs,aeK,yI,uY,CI,qt,FN,aeL,aeM,XB] λBz=>
 aP [FK,rG,lP,qO,zb,Un,Uo,J5,Up,rH,qm,yJ,rI,po,vf,NR]/\aP [ao,ak,aw]/\aP [af,af,af,af,af,.slice none 0 0,.slice none 0 0,.slice none 0 0,.slice none 0 0,af,af,.slice none 0 0,af,af,.slice none 0 0,.slice none 0 0]/\aP [ji,cQ]/\aP [cR,cf,cK]/\aP [ao,(ai (ak-1)),aw]/\J99 (bu sQ.drew.heap.size) Bz)))))/\
 ∀aeN:Nat->Value,∀(aeO:Option Addr)(Jz:World),J99 aeO Jz->
 ∃(Qu abh abi abj Uq:Int)(abk abl abm abn:Sl)(abo abp:Int)(abq:Sl)(abr abt:Int)(abu abv:Sl),au Jz aeO 0 [Qu,abh,abi,abj,Uq,abk,abl,abm,abn,abo,abp,abq,abr,abt,abu,abv]/\
 Sw Jz w #[Qu,abh,abi,abj,Uq,abk,abl,abm,abn,abo,abp,abq,abr,abt,abu,abv] λaeP=>
 ∃YU,YU<VL/\aP [ao,ak,aw]/\aP [af,af,af,af,af,.slice none 0 0,.slice none 0 0,.slice none 0 0,.slice none 0 0,af,af,.slice none 0 0,af,af,.slice none 0 0,.slice none 0 0]/\aP [ji,cQ]/\aP [cR,cf,cK]/\aP [ao,(ai (ak-1)),aw]/\Y2 YU ((ai (lQ+1))) Qu abh abi abj Uq abk abl abm abn abo abp abq abr abt abu abv aeP)
 (∃YU,YU<VL/\aP [ao,ak,aw]/\aP [af,af,af,af,af,.slice none 0 0,.slice none 0 0,.slice none 0 0,.slice none 0 0,af,af,.slice none 0 0,af,af,.slice none 0 0,.slice none 0 0]/\aP [ji,cQ]/\aP [cR,cf,cK]/\aP [ao,(ai (ak-1)),aw]/\Y2 YU ((ai (lQ+1))) FK rG lP qO zb Un Uo J5 Up rH qm yJ rI po vf NR sQ)))))
 (Sw sL w1 #[FK,rG,lP,qO,zb,Un,Uo,J5,Up,rH,qm,yJ,rI,po,vf,NR] λaeQ=>
 R (Value.agg #[FK,rG,lP,qO,zb,Un,Uo,J5,Up,rH,qm,yJ,rI,po,vf,NR]) aeQ))))))))))):ah 110 #[.agg #[aq,ar,av,aI,aJ,aK,aL,aH,bO,eE,cT,cD,cH,cn,cg,cj],.agg #[ao,ak,aw]] w R:=
 cq ⟨[(16,⟨[(14,.int .i64)],[(0,[.int .i64,.int .i64,.int .i64,.int .i64,.int .i64,.slice,.slice,.slice,.slice,.int .i64,.int .i64,.slice,.int .i64,.int .i64,.slice,.slice])],[]⟩)],[(21,⟨[(16,.ptr)],[],[]⟩),(19,⟨[(15,.ptr)],[],[]⟩),(15,⟨[(10,.slice)],[(0,[.int .i64,.int .i64,.int .i64,.int .i64,.int .i64,.slice,.slice,.slice,.slice,.int .i64,.int .i64,.slice,.int .i64,.int .i64,.slice,.slice])],[]⟩)],[]⟩ Tryz.func110 h
def KT.vc{aK:Sl}{aL:Sl}{aH:Sl}{bO:Sl}{cT:Int}{cD:Sl}{cH:Int}{cn:Int}{cg:Sl}{cj:Sl}(h:
 Aw w #[aq,ar,av,aI,aJ,aK,aL,aH,bO,eE,cT,cD,cH,cn,cg,cj] 39 λw0=>
 Aw w0 #[af,af,af,af,af,.slice none 0 0,.slice none 0 0,.slice none 0 0,.slice none 0 0,af,af,.slice none 0 0,af,af,.slice none 0 0,.slice none 0 0] 39 λw1=>
 Sw w1 w #[aq,ar,av,aI,aJ,aK,aL,aH,bO,eE,cT,cD,cH,.int .i64 (if 1099511627776<(ai (cn+1)) then 1099511627776 else (ai (cn+1))),cg,cj] λw2=>
 ah 109 #[.agg #[eE,cT,cD],.int .i64 (if 1099511627776<(ai (cn+1)) then 1099511627776 else (ai (cn+1))),cH] w2 (λe w3=>∃(x4 x5:Int)(s6 s7:Sl),e=Value.tuple #[.agg #[x4,x5,s6],s7]/\K2 w w0 w2 w3 (
 Aw w3 #[af,af,.slice none 0 0] 36 λw8=>
 Sw w8 w3 #[x4,x5,s6] λw9=>
 Sw w9 w #[aq,ar,av,aI,aJ,aK,aL,aH,bO,x4,x5,s6,cH,.int .i64 (if 1099511627776<(ai (cn+1)) then 1099511627776 else (ai (cn+1))),cg,cj] λbL=>
 ∃I11:Nat->Int->Int->Int->Int->Int->Int->Sl->Sl->Sl->Sl->Int->Int->Sl->Int->Int->Sl->Sl->World->Prop,
 (∃n12,aP [af,af,af,af,af,.slice none 0 0,.slice none 0 0,.slice none 0 0,.slice none 0 0,af,af,.slice none 0 0,af,af,.slice none 0 0,.slice none 0 0]/\aP [x4,x5,s6]/\I11 n12 (0) aq ar av aI aJ aK aL aH bO x4 x5 s6 cH ((if 1099511627776<(ai (cn+1)) then 1099511627776 else (ai (cn+1)))) cg cj bL)/\
 ∀(n12:Nat)(apJ:Nat->Value)(bW bw cQ cR cf cK:Int)(sM jk wo Cx:Sl)(de da:Int)(wu:Sl)(dp eS:Int)(mf g7:Sl)(ik:World),I11 n12 bW bw cQ cR cf cK sM jk wo Cx de da wu dp eS mf g7 ik->
 Br (decide (bW<((s7.n:Nat):Int)))
 (cA s7.a bW s7.n/\∃(gx gf jy:Int),au ik.drew (ae s7.a ((bW:Int).toNat*3)) 0 [gx,gf,jy]/\
 ah 110 #[.agg #[bw,cQ,cR,cf,cK,sM,jk,wo,Cx,de,da,wu,dp,eS,mf,g7],.agg #[gx,gf,jy]] ik.drew (λe nC=>∃(gk je kB nG jC:Int)(nH Uf s44 Bn:Sl)(pj mc:Int)(Gd:Sl)(j4 CC:Int)(Gf XC:Sl),e=Value.agg #[gk,je,kB,nG,jC,nH,Uf,s44,Bn,pj,mc,Gd,j4,CC,Gf,XC]/\K3 w w0 w3 ik.drew nC (
 Sw nC w #[gk,je,kB,nG,jC,nH,Uf,s44,Bn,pj,mc,Gd,j4,CC,Gf,XC] λXs=>
 ∃YN,YN<n12/\aP [af,af,af,af,af,.slice none 0 0,.slice none 0 0,.slice none 0 0,.slice none 0 0,af,af,.slice none 0 0,af,af,.slice none 0 0,.slice none 0 0]/\aP [x4,x5,s6]/\I11 YN ((ai (bW+1))) gk je kB nG jC nH Uf s44 Bn pj mc Gd j4 CC Gf XC Xs)))
 (Sw ik w0 #[bw,cQ,cR,cf,cK,sM,jk,wo,Cx,de,da,wu,dp,eS,mf,g7] λwh=>
 R (Value.tuple #[.agg #[bw,cQ,cR,cf,cK,sM,jk,wo,Cx,de,da,wu,dp,eS,mf,g7],((s7.n:Nat):Int)]) wh)))):ah 66 #[.agg #[aq,ar,av,aI,aJ,aK,aL,aH,bO,eE,cT,cD,cH,cn,cg,cj]] w R:=
 cq ⟨[(5,⟨[(6,.int .i64)],[(0,[.int .i64,.int .i64,.int .i64,.int .i64,.int .i64,.slice,.slice,.slice,.slice,.int .i64,.int .i64,.slice,.int .i64,.int .i64,.slice,.slice])],[]⟩)],[],[]⟩ Tryz.func66 h
def OK.vc{aK:Sl}{aL:Sl}{aH:Sl}{bO:Sl}{cT:Int}{cD:Sl}{cH:Int}{cn:Int}{cg:Sl}{cj:Sl}(h:
 Aw w #[aq,ar,av,aI,aJ,aK,aL,aH,bO,eE,cT,cD,cH,cn,cg,cj] 39 λw0=>
 Aw w0 #[af,af,af,af,af,.slice none 0 0,.slice none 0 0,.slice none 0 0,.slice none 0 0,af,af,.slice none 0 0,af,af,.slice none 0 0,.slice none 0 0] 39 λw1=>
 ∃I2:Nat->Int->Int->Int->Int->Int->Int->Sl->Sl->Sl->Sl->Int->Int->Sl->Int->Int->Sl->Sl->World->Prop,
 (∃n3,aP [af,af,af,af,af,.slice none 0 0,.slice none 0 0,.slice none 0 0,.slice none 0 0,af,af,.slice none 0 0,af,af,.slice none 0 0,.slice none 0 0]/\I2 n3 (0) aq ar av aI aJ aK aL aH bO eE cT cD cH cn cg cj w1)/\
 ∀(n3:Nat)(VH:Nat->Value)(x5 x6 x7 x8 x9 bq:Int)(eO eM gl sX:Sl)(bw cQ:Int)(gF:Sl)(cf cK:Int)(sM jk:Sl)(ct:World),I2 n3 x5 x6 x7 x8 x9 bq eO eM gl sX bw cQ gF cf cK sM jk ct->
 Br (decide ((((gF.n:Nat):Int):Int)>0))
 (Br (x5<a1)
 (Br (x5<1000)
 (ah 66 #[.agg #[x6,x7,x8,x9,bq,eO,eM,gl,sX,bw,cQ,gF,cf,cK,sM,jk]] ct (λe fy=>∃(da dZ dp eS iO:Int)(g7 ib iW J2:Sl)(gf jy:Int)(pk:Sl)(gk je:Int)(sU QP:Sl)(jC:Int),e=Value.tuple #[.agg #[da,dZ,dp,eS,iO,g7,ib,iW,J2,gf,jy,pk,gk,je,sU,QP],jC]/\K2 w w0 ct fy (
 Aw fy #[af,af,af,af,af,.slice none 0 0,.slice none 0 0,.slice none 0 0,.slice none 0 0,af,af,.slice none 0 0,af,af,.slice none 0 0,.slice none 0 0] 39 λny=>
 Sw ny fy #[da,dZ,dp,eS,iO,g7,ib,iW,J2,gf,jy,pk,gk,je,sU,QP] λql=>
 Sw ql w #[da,dZ,dp,eS,iO,g7,ib,iW,J2,gf,jy,pk,gk,je,sU,QP] λjA=>
 ∃Qf,Qf<n3/\aP [af,af,af,af,af,.slice none 0 0,.slice none 0 0,.slice none 0 0,.slice none 0 0,af,af,.slice none 0 0,af,af,.slice none 0 0,.slice none 0 0]/\I2 Qf ((ai (x5+1))) da dZ dp eS iO g7 ib iW J2 gf jy pk gk je sU QP jA)))
 (Sw ct w0 #[x6,x7,x8,x9,bq,eO,eM,gl,sX,bw,cQ,gF,cf,cK,sM,jk] λDS=>
 R (Value.tuple #[.agg #[x6,x7,x8,x9,bq,eO,eM,gl,sX,bw,cQ,gF,cf,cK,sM,jk],x5]) DS))
 (Sw ct w0 #[x6,x7,x8,x9,bq,eO,eM,gl,sX,bw,cQ,gF,cf,cK,sM,jk] λDQ=>
 R (Value.tuple #[.agg #[x6,x7,x8,x9,bq,eO,eM,gl,sX,bw,cQ,gF,cf,cK,sM,jk],x5]) DQ))
 (Sw ct w0 #[x6,x7,x8,x9,bq,eO,eM,gl,sX,bw,cQ,gF,cf,cK,sM,jk] λoV=>
 R (Value.tuple #[.agg #[x6,x7,x8,x9,bq,eO,eM,gl,sX,bw,cQ,gF,cf,cK,sM,jk],x5]) oV)):ah 63 #[.agg #[aq,ar,av,aI,aJ,aK,aL,aH,bO,eE,cT,cD,cH,cn,cg,cj],a1] w R:=
 cq ⟨[(2,⟨[(6,.int .i64)],[(0,[.int .i64,.int .i64,.int .i64,.int .i64,.int .i64,.slice,.slice,.slice,.slice,.int .i64,.int .i64,.slice,.int .i64,.int .i64,.slice,.slice])],[]⟩)],[],[]⟩ Tryz.func63 h
def Ll.vc{a0:Sl}{a1:Sl}(h:
 Br ((((a0.n:Nat):Int):Int) !=((a1.n:Nat):Int))
 (R false w)
 (∃I0:Nat->Int->World->Prop,
 (∃n1,I0 n1 (0) w)/\
 ∀(n1:Nat)(oB:Nat->Value)(x3:Int)(w4:World),I0 n1 x3 w4->
 Br (decide (x3<((a0.n:Nat):Int)))
 (cA a0.a x3 a0.n/\∃(x6 x7 x8 x9:Int),au w4.drew (ae a0.a ((x3:Int).toNat*4)) 0 [x6,x7,x8,x9]/\
 cA a1.a x3 a1.n/\∃(bq bR bU cz:Int),au w4.drew (ae a1.a ((x3:Int).toNat*4)) 0 [bq,bR,bU,cz]/\
 Br (!(((x6==bq) &&((x7==bR) &&(x8==bU))) &&(x9==cz)))
 (R false w4.drew)
 (∃n5,n5<n1/\I0 n5 ((ai (x3+1))) w4.drew))
 (R true w4))):ah 34 #[a0,a1] w R:=
 cq ⟨[(4,⟨[(5,.int .i64)],[],[]⟩)],[],[]⟩ Tryz.func34 h
def Lm.vc{a0:Addr}{gB:Sl}{gC:Sl}{gD:Sl}{fM:Sl}{gg:Int}{eW:Sl}{gh:Int}{eL:Int}{fI:Sl}{fJ:Sl}(h:
 Aw w #[ao,ak,aw,dB,gn,gB,gC,gD,fM,gE,gg,eW,gh,eL,fI,fJ] 39 λw0=>
 Aw w0 #[db,dR,dO,ln,lO,nv] 67 λw1=>
 Aw w1 #[af,af,af,af,af,.slice none 0 0,.slice none 0 0,.slice none 0 0,.slice none 0 0,af,af,.slice none 0 0,af,af,.slice none 0 0,.slice none 0 0] 39 λw2=>
 ∃J3:Bool->World->Prop,
 (Br (db==0)
 (aP [ao,ak,aw,dB,gn,gB,gC,gD,fM,gE,gg,eW,gh,eL,fI,fJ]/\aP [db,dR,dO,ln,lO,nv]/\aP [af,af,af,af,af,.slice none 0 0,.slice none 0 0,.slice none 0 0,.slice none 0 0,af,af,.slice none 0 0,af,af,.slice none 0 0,.slice none 0 0]/\J3 (db==0) w2)
 (Br (db==1)
 (aP [ao,ak,aw,dB,gn,gB,gC,gD,fM,gE,gg,eW,gh,eL,fI,fJ]/\aP [db,dR,dO,ln,lO,nv]/\aP [af,af,af,af,af,.slice none 0 0,.slice none 0 0,.slice none 0 0,.slice none 0 0,af,af,.slice none 0 0,af,af,.slice none 0 0,.slice none 0 0]/\J3 (db==1) w2)
 (Br (db==2)
 (aP [ao,ak,aw,dB,gn,gB,gC,gD,fM,gE,gg,eW,gh,eL,fI,fJ]/\aP [db,dR,dO,ln,lO,nv]/\aP [af,af,af,af,af,.slice none 0 0,.slice none 0 0,.slice none 0 0,.slice none 0 0,af,af,.slice none 0 0,af,af,.slice none 0 0,.slice none 0 0]/\J3 (db==2) w2)
 (aP [ao,ak,aw,dB,gn,gB,gC,gD,fM,gE,gg,eW,gh,eL,fI,fJ]/\aP [db,dR,dO,ln,lO,nv]/\aP [af,af,af,af,af,.slice none 0 0,.slice none 0 0,.slice none 0 0,.slice none 0 0,af,af,.slice none 0 0,af,af,.slice none 0 0,.slice none 0 0]/\J3 (db==3) w2))))/\
 ∀VH:Nat->Value,∀(b5:Bool)(w6:World),J3 b5 w6->
 Br b5
 (ah 12 #[.agg #[ln,lO,nv]] w6 (G4 λx8 x9 bq w7=>K3 w w0 w1 w6 w7 (
 Aw w7 #[af,af,af] 23 λcB=>
 Sw cB w7 #[x8,x9,bq] λbS=>
 ah 25 #[dR] bS (Ri λbW cC=>K4 w w0 w1 w7 bS cC (
 ah 26 #[.agg #[ao,ak,aw,dB,gn,gB,gC,gD,fM,gE,gg,eW,gh,eL,fI,fJ],.agg #[x8,x9,bq],bW] cC (λe cU=>∃(cQ cR cf cK du:Int)(jk wo Cx kO:Sl)(da dZ:Int)(lW:Sl)(eS iO:Int)(g7 ib:Sl)(jB:Int),e=Value.tuple #[.agg #[cQ,cR,cf,cK,du,jk,wo,Cx,kO,da,dZ,lW,eS,iO,g7,ib],jB]/\K4 w w0 w1 w7 cC cU (
 Aw cU #[af,af,af,af,af,.slice none 0 0,.slice none 0 0,.slice none 0 0,.slice none 0 0,af,af,.slice none 0 0,af,af,.slice none 0 0,.slice none 0 0] 39 λlz=>
 Sw lz cU #[cQ,cR,cf,cK,du,jk,wo,Cx,kO,da,dZ,lW,eS,iO,g7,ib] λly=>
 ah 14 #[a0,.agg #[x8,x9,bq],bW] ly.drew (Ri λkF xu=>K5 w w0 w1 w7 cU ly.drew xu (
 au xu (bu cU) 0 [cQ,cR,cf,cK,du,jk,wo,Cx,kO,da,dZ,lW,eS,iO,g7,ib]/\Sw xu w1 #[cQ,cR,cf,cK,du,jk,wo,Cx,kO,da,dZ,lW,eS,iO,g7,ib] λhX=>
 R (Value.tuple #[.agg #[cQ,cR,cf,cK,du,jk,wo,Cx,kO,da,dZ,lW,eS,iO,g7,ib],.bool (kF==jB)]) hX)))))))))
 (Br (db==4)
 (ah 62 #[.agg #[ln,lO,nv]] w6 (G4 λkB nG jC qP=>K3 w w0 w1 w6 qP (
 Aw qP #[af,af,af] 23 λny=>
 Sw ny qP #[kB,nG,jC] λql=>
 ah 26 #[.agg #[ao,ak,aw,dB,gn,gB,gC,gD,fM,gE,gg,eW,gh,eL,fI,fJ],.agg #[kB,nG,jC],dR] ql (λe jA=>∃(lp pj mc sH j4:Int)(NN Gf XC Xw:Sl)(uW yK:Int)(Y3:Sl)(vb oW:Int)(Mr VM:Sl)(pn:Int),e=Value.tuple #[.agg #[lp,pj,mc,sH,j4,NN,Gf,XC,Xw,uW,yK,Y3,vb,oW,Mr,VM],pn]/\K4 w w0 w1 qP ql jA (
 Aw jA #[af,af,af,af,af,.slice none 0 0,.slice none 0 0,.slice none 0 0,.slice none 0 0,af,af,.slice none 0 0,af,af,.slice none 0 0,.slice none 0 0] 39 λBi=>
 Sw Bi jA #[lp,pj,mc,sH,j4,NN,Gf,XC,Xw,uW,yK,Y3,vb,oW,Mr,VM] λw63=>
 ah 14 #[a0,.agg #[kB,nG,jC],dR] w63.drew (Ri λrG Xh=>K5 w w0 w1 qP jA w63.drew Xh (
 au Xh (bu jA) 0 [lp,pj,mc,sH,j4,NN,Gf,XC,Xw,uW,yK,Y3,vb,oW,Mr,VM]/\Sw Xh w1 #[lp,pj,mc,sH,j4,NN,Gf,XC,Xw,uW,yK,Y3,vb,oW,Mr,VM] λsI=>
 R (Value.tuple #[.agg #[lp,pj,mc,sH,j4,NN,Gf,XC,Xw,uW,yK,Y3,vb,oW,Mr,VM],.bool (rG==pn)]) sI)))))))
 (Br (db==5)
 (ah 19 #[dO,(8:Int)] w6 (Ri λzb sJ=>K3 w w0 w1 w6 sJ (
 ah 63 #[.agg #[ao,ak,aw,dB,gn,gB,gC,gD,fM,gE,gg,eW,gh,eL,fI,fJ],zb] sJ (λe jz=>∃(jD sK qQ rH qm:Int)(yJ Jv DT vf:Sl)(Fy oX:Int)(XD:Sl)(rE xz:Int)(XE Qv:Sl)(x86:Int),e=Value.tuple #[.agg #[jD,sK,qQ,rH,qm,yJ,Jv,DT,vf,Fy,oX,XD,rE,xz,XE,Qv],x86]/\K3 w w0 w1 sJ jz (
 Aw jz #[af,af,af,af,af,.slice none 0 0,.slice none 0 0,.slice none 0 0,.slice none 0 0,af,af,.slice none 0 0,af,af,.slice none 0 0,.slice none 0 0] 39 λlV=>
 Sw lV jz #[jD,sK,qQ,rH,qm,yJ,Jv,DT,vf,Fy,oX,XD,rE,xz,XE,Qv] λy7=>
 ah 16 #[a0,zb] y7.drew (Ri λx90 Gi=>K4 w w0 w1 jz y7.drew Gi (
 au Gi (bu jz) 0 [jD,sK,qQ,rH,qm,yJ,Jv,DT,vf,Fy,oX,XD,rE,xz,XE,Qv]/\Sw Gi w1 #[jD,sK,qQ,rH,qm,yJ,Jv,DT,vf,Fy,oX,XD,rE,xz,XE,Qv] λUj=>
 R (Value.tuple #[.agg #[jD,sK,qQ,rH,qm,yJ,Jv,DT,vf,Fy,oX,XD,rE,xz,XE,Qv],.bool (x90==x86)]) Uj)))))))
 (Br (db==6)
 (ah 10 #[a0] w6 (λe xB=>∃(p93:Option Addr),e=p93/\K3 w w0 w1 w6 xB (
 Br (p93).isNone
 (Sw xB w1 #[ao,ak,aw,dB,gn,gB,gC,gD,fM,gE,gg,eW,gh,eL,fI,fJ] λw94=>
 R (Value.tuple #[.agg #[ao,ak,aw,dB,gn,gB,gC,gD,fM,gE,gg,eW,gh,eL,fI,fJ],false]) w94)
 (ah 37 #[p93] xB (λe XF=>∃(p96:Option Addr),e=p96/\K3 w w0 w1 xB XF (
 Br (p96).isNone
 (Sw XF w1 #[ao,ak,aw,dB,gn,gB,gC,gD,fM,gE,gg,eW,gh,eL,fI,fJ] λsQ=>
 R (Value.tuple #[.agg #[ao,ak,aw,dB,gn,gB,gC,gD,fM,gE,gg,eW,gh,eL,fI,fJ],false]) sQ)
 (Br (((Int.tmod dO 2):Int) !=0)
 (ah 64 #[.agg #[ao,ak,aw,dB,gn,gB,gC,gD],.agg #[af,(1:Int)]] XF (λe NS=>∃(x99 CD CE q6 mL:Int)(yL BA Qw:Sl)(uU:Int),e=Value.tuple #[.agg #[x99,CD,CE,q6,mL,yL,BA,Qw],uU]/\K3 w w0 w1 XF NS (
 Aw NS #[af,af,af,af,af,.slice none 0 0,.slice none 0 0,.slice none 0 0] 30 λabw=>
 Sw abw NS #[x99,CD,CE,q6,mL,yL,BA,Qw] λyM=>
 Sw yM w #[x99,CD,CE,q6,mL,yL,BA,Qw,fM,gE,gg,eW,gh,eL,fI,fJ] λfo=>
 ah 65 #[p96,.agg #[af,(1:Int)]] fo.drew (Ri λqu Mp=>K4 w w0 w1 NS fo.drew Mp (
 au Mp w 0 [x99,CD,CE,q6,mL,yL,BA,Qw,fM,gE,gg,eW,gh,eL,fI,fJ]/\Sw Mp w1 #[x99,CD,CE,q6,mL,yL,BA,Qw,fM,gE,gg,eW,gh,eL,fI,fJ] λQo=>
 R (Value.tuple #[.agg #[x99,CD,CE,q6,mL,yL,BA,Qw,fM,gE,gg,eW,gh,eL,fI,fJ],.bool (qu==uU)]) Qo)))))
 (ah 39 #[.agg #[ao,ak,aw,dB,gn,gB,gC,gD],.agg #[af,(1:Int)]] XF (λe sV=>∃(qp CJ sR sS nz:Int)(uX Qx JA:Sl)(yH:Int),e=Value.tuple #[.agg #[qp,CJ,sR,sS,nz,uX,Qx,JA],yH]/\K3 w w0 w1 XF sV (
 Aw sV #[af,af,af,af,af,.slice none 0 0,.slice none 0 0,.slice none 0 0] 30 λCF=>
 Sw CF sV #[qp,CJ,sR,sS,nz,uX,Qx,JA] λQq=>
 Sw Qq w #[qp,CJ,sR,sS,nz,uX,Qx,JA,fM,gE,gg,eW,gh,eL,fI,fJ] λJB=>
 ah 38 #[p96,.agg #[af,(1:Int)]] JB.drew (Ri λXA FG=>K4 w w0 w1 sV JB.drew FG (
 au FG w 0 [qp,CJ,sR,sS,nz,uX,Qx,JA,fM,gE,gg,eW,gh,eL,fI,fJ]/\Sw FG w1 #[qp,CJ,sR,sS,nz,uX,Qx,JA,fM,gE,gg,eW,gh,eL,fI,fJ] λJC=>
 R (Value.tuple #[.agg #[qp,CJ,sR,sS,nz,uX,Qx,JA,fM,gE,gg,eW,gh,eL,fI,fJ],.bool (XA==yH)]) JC))))))))))))
 (ah 66 #[.agg #[ao,ak,aw,dB,gn,gB,gC,gD,fM,gE,gg,eW,gh,eL,fI,fJ]] w6 (λe Ur=>∃(FH sP qq Us uY:Int)(FI qt BB Ut:Sl)(Ms uZ:Int)(Uu:Sl)(Uv Mt:Int)(Mu Uw:Sl)(Qu:Int),e=Value.tuple #[.agg #[FH,sP,qq,Us,uY,FI,qt,BB,Ut,Ms,uZ,Uu,Uv,Mt,Mu,Uw],Qu]/\K3 w w0 w1 w6 Ur (
 Aw Ur #[af,af,af,af,af,.slice none 0 0,.slice none 0 0,.slice none 0 0,.slice none 0 0,af,af,.slice none 0 0,af,af,.slice none 0 0,.slice none 0 0] 39 λajx=>
 Sw ajx Ur #[FH,sP,qq,Us,uY,FI,qt,BB,Ut,Ms,uZ,Uu,Uv,Mt,Mu,Uw] λaeR=>
 ah 15 #[a0] aeR.drew (Ri λUq abx=>K4 w w0 w1 Ur aeR.drew abx (
 au abx (bu Ur) 0 [FH,sP,qq,Us,uY,FI,qt,BB,Ut,Ms,uZ,Uu,Uv,Mt,Mu,Uw]/\Sw abx w1 #[FH,sP,qq,Us,uY,FI,qt,BB,Ut,Ms,uZ,Uu,Uv,Mt,Mu,Uw] λajy=>
 R (Value.tuple #[.agg #[FH,sP,qq,Us,uY,FI,qt,BB,Ut,Ms,uZ,Uu,Uv,Mt,Mu,Uw],.bool (Uq==Qu)]) ajy))))))))):ah 32 #[a0,.agg #[ao,ak,aw,dB,gn,gB,gC,gD,fM,gE,gg,eW,gh,eL,fI,fJ],.agg #[db,dR,dO,ln,lO,nv]] w R:=
 cq ⟨[],[(6,⟨[(28,.bool)],[],[]⟩)],[]⟩ Tryz.func32 h
def Ln.vc{a0:Addr}{gB:Sl}{gC:Sl}{gD:Sl}{fM:Sl}{gg:Int}{eW:Sl}{gh:Int}{eL:Int}{fI:Sl}{fJ:Sl}(h:
 Aw w #[ao,ak,aw,dB,gn,gB,gC,gD,fM,gE,gg,eW,gh,eL,fI,fJ] 39 λw0=>
 Aw w0 #[db,dR,dO] 23 λw1=>
 ah 10 #[a0] w1 (λe w2=>∃(p3:Option Addr),e=p3/\K2 w w0 w1 w2 (
 Br (p3).isNone
 (R false w2)
 (ah 11 #[p3] w2 (Rv λv5 w4=>K2 w w0 w2 w4 (
 bk (fnC v5) (Br (J9 v5)
 (R false w4)
 (ah 12 #[.agg #[db,dR,dO]] w4 (G4 λx7 x8 x9 w6=>K2 w w0 w4 w6 (
 Aw w6 #[af,af,af] 23 λbL=>
 Sw bL w6 #[x7,x8,x9] λcB=>
 ah 29 #[a0] cB.drew (Ri λcz bS=>K3 w w0 w6 cB.drew bS (
 au bS (lX w 13) 0 [eL]/\Br (cz==eL)
 (ah 23 #[a0] bS (Rs λji bY=>K3 w w0 w6 bS bY (
 au bY (lX w 11) 0 [eW]/\au bY (lX w 13) 0 [eL]/\ah 31 #[ji] bY (Rs λgF cY=>K3 w w0 w6 bY cY (
 au cY (lX w 11) 0 [eW]/\au cY (lX w 13) 0 [eL]/\ah 30 #[gF,eW] cY (Rb λb19 dA=>K3 w w0 w6 cY dA (
 au dA (lX w 13) 0 [eL]/\Br b19
 (dJ Tryz.prog v5 [.agg #[x7,x8,x9]] dA (Ri λfT dY=>K3 w w0 w6 dA dY (
 au dY (bu w6) 0 [x7,x8,x9]/\au dY w 0 [ao,ak,aw,dB,gn,gB,gC,gD]/\au dY (lX w 13) 0 [eL]/\ah 22 #[.agg #[ao,ak,aw,dB,gn,gB,gC,gD],.agg #[x7,x8,x9]] dY (Ri λdc ct=>K3 w w0 w6 dY ct (
 au ct (lX w 13) 0 [eL]/\R (Value.bool (fT==dc)) ct)))))
 (R false dA))))))))
 (R false bS))))))))))))):ah 33 #[a0,.agg #[ao,ak,aw,dB,gn,gB,gC,gD,fM,gE,gg,eW,gh,eL,fI,fJ],.agg #[db,dR,dO]] w R:=
 cq cc Tryz.func33 h
end Go.Proofs.YtalpkjfpmdpbiaaGreatDoor
