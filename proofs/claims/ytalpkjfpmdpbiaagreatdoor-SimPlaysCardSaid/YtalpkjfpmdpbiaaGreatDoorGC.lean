import Derived.Test.YtalpkjfpmdpbiaaGreatDoorGB
set_option linter.all false
namespace Go.Proofs.YtalpkjfpmdpbiaaGreatDoor
open Go Go.Vc Go.RowKit Go.Proofs
set_option maxRecDepth 100000
set_option maxHeartbeats 8000000
set_option linter.unusedVariables false
variable {R:Ending->World->Prop} {w:World} {a0 a1 a2 a3 a4 a5 a6 a7 a8 a9 aq ar av aI aJ aK aL aH bO eE ao ak aw dB gn gB gC gD fM gE db dR dO ln lO nv ym yn yp yq yt yu yw yx yy yz yA yB yC yD:Int}
def xh.vc{a2:Sl}(h:
 Aw w #[af,af,af,af,af,.slice none 0 0,.slice none 0 0,.slice none 0 0,.slice none 0 0,af,af,.slice none 0 0,af,af,.slice none 0 0,.slice none 0 0] 39 λw0=>
 ah 35 #[a0,(5:Int),af] w0 (λe w1=>∃(p2:Option Addr),e=p2/\Kp w w0 w1/\
 ah 36 #[a0,(5:Int),af] w1 (λe w3=>∃(x4 x5 x6 x7 x8:Int)(s9 cO eO eM:Sl),e=Value.agg #[x4,x5,x6,x7,x8,s9,cO,eO,eM]/\Kp w w1 w3/\
 Aw w3 #[af,af,af,af,af,.slice none 0 0,.slice none 0 0,.slice none 0 0,.slice none 0 0] 33 λcC=>
 Sw cC w3 #[x4,x5,x6,x7,x8,s9,cO,eO,eM] λbY=>
 Br (p2).isNone
 (Sw bY w #[af,af,af,af,af,.slice none 0 0,.slice none 0 0,.slice none 0 0,.slice none 0 0,af,af,.slice none 0 0,af,af,.slice none 0 0,.slice none 0 0] λcU=>
 R (Value.tuple #[.pointer none,.agg #[af,af,af,af,af,.slice none 0 0,.slice none 0 0,.slice none 0 0,.slice none 0 0,af,af,.slice none 0 0,af,af,.slice none 0 0,.slice none 0 0]]) cU)
 (ah 37 #[p2] bY (λe cY=>∃(YO:Option Addr),e=YO/\K2 w w3 bY cY (
 Br (YO).isNone
 (Sw cY w #[af,af,af,af,af,.slice none 0 0,.slice none 0 0,.slice none 0 0,.slice none 0 0,af,af,.slice none 0 0,af,af,.slice none 0 0,.slice none 0 0] λdA=>
 R (Value.tuple #[.pointer none,.agg #[af,af,af,af,af,.slice none 0 0,.slice none 0 0,.slice none 0 0,.slice none 0 0,af,af,.slice none 0 0,af,af,.slice none 0 0,.slice none 0 0]]) dA)
 (Aw cY #[af,af,(-1:Int),af,(1:Int),af,af,(-1:Int),af,(1:Int)] 89 λft=>
 ∃NK:Nat->Int->Int->Int->Int->Int->Int->Sl->Sl->Sl->Sl->World->Prop,
 (∃Bp,aP [af,af,af,af,af,.slice none 0 0,.slice none 0 0,.slice none 0 0,.slice none 0 0,af,af,.slice none 0 0,af,af,.slice none 0 0,.slice none 0 0]/\aP [af,af,(-1:Int),af,(1:Int),af,af,(-1:Int),af,(1:Int)]/\NK Bp (0) x4 x5 x6 x7 x8 s9 cO eO eM ft)/\
 ∀(Bp:Nat)(aeg:Nat->Value)(dc de da dZ dp eS:Int)(mf g7 ib iW:Sl)(lz:World),NK Bp dc de da dZ dp eS mf g7 ib iW lz->
 Br (dc<5)
 (cA (bu cY) dc 5/\∃(jy kF:Int),au lz (ae (bu cY) ((dc:Int).toNat*2)) 0 [jy,kF]/\
 ah 38 #[YO,.agg #[jy,kF]] lz (Ri λje hX=>K3 w w3 cY lz hX (
 cA (bu cY) dc 5/\∃(kB nG:Int),au hX.drew (ae (bu cY) ((dc:Int).toNat*2)) 0 [kB,nG]/\
 (ah 39 #[.agg #[de,da,dZ,dp,eS,mf,g7,ib],.agg #[kB,nG]] hX.drew (λe kE=>∃(lU kG jI lp pj:Int)(uN Gd yX:Sl)(CC:Int),e=Value.tuple #[.agg #[lU,kG,jI,lp,pj,uN,Gd,yX],CC]/\K3 w w3 cY hX.drew kE (
 Aw kE #[af,af,af,af,af,.slice none 0 0,.slice none 0 0,.slice none 0 0] 30 λw51=>
 Sw w51 kE #[lU,kG,jI,lp,pj,uN,Gd,yX] λGh=>
 Sw Gh w3 #[lU,kG,jI,lp,pj,uN,Gd,yX,iW] λXs=>
 ∃n34,n34<Bp/\aP [af,af,af,af,af,.slice none 0 0,.slice none 0 0,.slice none 0 0,.slice none 0 0,af,af,.slice none 0 0,af,af,.slice none 0 0,.slice none 0 0]/\aP [af,af,(-1:Int),af,(1:Int),af,af,(-1:Int),af,(1:Int)]/\NK n34 ((ai (dc+1))) lU kG jI lp pj uN Gd yX iW Xs)))/\(Aw hX.drew #[af,af,af,af,af,.slice none 0 0,.slice none 0 0,.slice none 0 0] 30 λwh=>
 ah 39 #[.agg #[de,da,dZ,dp,eS,mf,g7,ib],.agg #[kB,nG]] wh (λe za=>∃(DR vb oW xy Bu:Int)(s61 Qm VG:Sl)(FK:Int),e=Value.tuple #[.agg #[DR,vb,oW,xy,Bu,s61,Qm,VG],FK]/\K3 w w3 cY wh za (
 za.heap[hX.drew.heap.size]? =wh.heap[hX.drew.heap.size]?/\
 Sw za hX.drew.heap.size #[DR,vb,oW,xy,Bu,s61,Qm,VG] λFE=>
 Sw FE w3 #[DR,vb,oW,xy,Bu,s61,Qm,VG,iW] λsI=>
 ∃n34,n34<Bp/\aP [af,af,af,af,af,.slice none 0 0,.slice none 0 0,.slice none 0 0,.slice none 0 0,af,af,.slice none 0 0,af,af,.slice none 0 0,.slice none 0 0]/\aP [af,af,(-1:Int),af,(1:Int),af,af,(-1:Int),af,(1:Int)]/\NK n34 ((ai (dc+1))) DR vb oW xy Bu s61 Qm VG iW sI))))))
 (ah 40 #[p2,a1] lz (λe sJ=>∃(p68:Option Addr),e=p68/\K3 w w3 cY lz sJ (
 ah 41 #[.agg #[de,da,dZ,dp,eS,mf,g7,ib,iW],a1] sJ (λe jz=>∃(jD sK qQ rH qm:Int)(yJ Jv DT vf:Sl)(Fy oX:Int)(XD:Sl)(rE xz:Int)(XE Qv:Sl),e=Value.agg #[jD,sK,qQ,rH,qm,yJ,Jv,DT,vf,Fy,oX,XD,rE,xz,XE,Qv]/\K3 w w3 cY sJ jz (
 Aw jz #[af,af,af,af,af,.slice none 0 0,.slice none 0 0,.slice none 0 0,.slice none 0 0,af,af,.slice none 0 0,af,af,.slice none 0 0,.slice none 0 0] 39 λy3=>
 Sw y3 jz #[jD,sK,qQ,rH,qm,yJ,Jv,DT,vf,Fy,oX,XD,rE,xz,XE,Qv] λlV=>
 ∃J88:Int->Int->Int->Int->Int->Sl->Sl->Sl->Sl->Int->Int->Sl->Int->Int->Sl->Sl->World->Prop,
 (∃I89:Nat->Int->Int->Int->Int->Int->Int->Sl->Sl->Sl->Sl->Int->Int->Sl->Int->Int->Sl->Sl->World->Prop,
 (∃Xj,aP [af,af,af,af,af,.slice none 0 0,.slice none 0 0,.slice none 0 0,.slice none 0 0,af,af,.slice none 0 0,af,af,.slice none 0 0,.slice none 0 0]/\aP [de,da,dZ,dp,eS,mf,g7,ib,iW]/\aP [af,af,(-1:Int),af,(1:Int),af,af,(-1:Int),af,(1:Int)]/\I89 Xj (0) jD sK qQ rH qm yJ Jv DT vf Fy oX XD rE xz XE Qv lV)/\
 ∀(Xj:Nat)(aiv:Nat->Value)(sZ NP Jr Cy BT vd:Int)(Xt Gg uT CM:Sl)(q6 mL:Int)(yL:Sl)(Jw wE:Int)(QB CN:Sl)(yM:World),I89 Xj sZ NP Jr Cy BT vd Xt Gg uT CM q6 mL yL Jw wE QB CN yM->
 Br (decide (sZ<((a2.n:Nat):Int)))
 (Br (sZ<4)
 (cA a2.a sZ a2.n/\∃(UZ qu U0:Int),au yM.drew (ae a2.a ((sZ:Int).toNat*3)) 0 [UZ,qu,U0]/\
 ah 12 #[.agg #[UZ,qu,U0]] yM.drew (G4 λqp CJ sR sV=>K4 w w3 cY jz yM.drew sV (
 au sV (lX jz 14) 0 [QB]/\Aw sV #[qp,CJ,sR] 23 λuV=>
 aF 24 3 uV QB 1 [qp,CJ,sR]/\∀(Jy:Sl)(ME:World),aE 23 3 uV QB 1 [qp,CJ,sR] Jy ME->K5 w w3 cY jz sV uV ME (
 Sw ME jz #[NP,Jr,Cy,BT,vd,Xt,Gg,uT,CM,q6,mL,yL,Jw,wE,Jy,CN] λQC=>
 ∃afp,afp<Xj/\aP [af,af,af,af,af,.slice none 0 0,.slice none 0 0,.slice none 0 0,.slice none 0 0,af,af,.slice none 0 0,af,af,.slice none 0 0,.slice none 0 0]/\aP [de,da,dZ,dp,eS,mf,g7,ib,iW]/\aP [af,af,(-1:Int),af,(1:Int),af,af,(-1:Int),af,(1:Int)]/\I89 afp ((ai (sZ+1))) NP Jr Cy BT vd Xt Gg uT CM q6 mL yL Jw wE Jy CN QC))))
 (aP [af,af,af,af,af,.slice none 0 0,.slice none 0 0,.slice none 0 0,.slice none 0 0,af,af,.slice none 0 0,af,af,.slice none 0 0,.slice none 0 0]/\aP [de,da,dZ,dp,eS,mf,g7,ib,iW]/\aP [af,af,(-1:Int),af,(1:Int),af,af,(-1:Int),af,(1:Int)]/\J88 NP Jr Cy BT vd Xt Gg uT CM q6 mL yL Jw wE QB CN yM))
 (aP [af,af,af,af,af,.slice none 0 0,.slice none 0 0,.slice none 0 0,.slice none 0 0,af,af,.slice none 0 0,af,af,.slice none 0 0,.slice none 0 0]/\aP [de,da,dZ,dp,eS,mf,g7,ib,iW]/\aP [af,af,(-1:Int),af,(1:Int),af,af,(-1:Int),af,(1:Int)]/\J88 NP Jr Cy BT vd Xt Gg uT CM q6 mL yL Jw wE QB CN yM))/\
 ∀anI:Nat->Value,∀(yH FR qw CG CH:Int)(BI U2 U3 sT:Sl)(sP qq:Int)(yI:Sl)(uY CI:Int)(qt BB:Sl)(U4:World),J88 yH FR qw CG CH BI U2 U3 sT sP qq yI uY CI qt BB U4->
 Br (!(p68).isNone)
 (Aw U4 #[.slice none 0 0] 37 λFP=>
 Sw FP U4 #[qt] λBC=>
 ah 17 #[p68,.func (.func 42) #[] #[U4]] BC (Rt λu5=>K4 w w3 cY jz BC u5 (
 Sw u5.drew w #[yH,FR,qw,CG,CH,BI,U2,U3,sT,sP,qq,yI,uY,CI,qt,BB] λBz=>
 R (Value.tuple #[p68,.agg #[yH,FR,qw,CG,CH,BI,U2,U3,sT,sP,qq,yI,uY,CI,qt,BB]]) Bz)))
 (Sw U4.drew w #[yH,FR,qw,CG,CH,BI,U2,U3,sT,sP,qq,yI,uY,CI,qt,BB] λJM=>
 R (Value.tuple #[p68,.agg #[yH,FR,qw,CG,CH,BI,U2,U3,sT,sP,qq,yI,uY,CI,qt,BB]]) JM))))))))))))):ah 9 #[a0,a1,a2] w R:=
 cq ⟨[(18,⟨[(17,.int .i64)],[(3,[.int .i64,.int .i64,.int .i64,.int .i64,.int .i64,.slice,.slice,.slice,.slice,.int .i64,.int .i64,.slice,.int .i64,.int .i64,.slice,.slice])],[]⟩),(10,⟨[(12,.int .i64)],[(1,[.int .i64,.int .i64,.int .i64,.int .i64,.int .i64,.slice,.slice,.slice,.slice])],[]⟩)],[(21,⟨[],[(3,[.int .i64,.int .i64,.int .i64,.int .i64,.int .i64,.slice,.slice,.slice,.slice,.int .i64,.int .i64,.slice,.int .i64,.int .i64,.slice,.slice])],[]⟩)],[]⟩ Tryz.func9 h
def II.vc(h:
 ah 9 #[(1:Int),(1:Int),.slice none 0 0] w (λe w0=>∃(p1:Option Addr)(x2 x3 x4 x5 x6:Int)(s7 s8 s9 cO:Sl)(bR bU:Int)(gl:Sl)(bW bw:Int)(kH gF:Sl),e=Value.tuple #[p1,.agg #[x2,x3,x4,x5,x6,s7,s8,s9,cO,bR,bU,gl,bW,bw,kH,gF]]/\
 Aw w0 #[af,af,af,af,af,.slice none 0 0,.slice none 0 0,.slice none 0 0,.slice none 0 0,af,af,.slice none 0 0,af,af,.slice none 0 0,.slice none 0 0] 39 λdA=>
 Sw dA w0 #[x2,x3,x4,x5,x6,s7,s8,s9,cO,bR,bU,gl,bW,bw,kH,gF] λft=>
 Br (p1).isNone
 (R false ft)
 (ah 14 #[p1,.agg #[(5:Int),(20:Int),(5:Int)],(3:Int)] ft (Ri λfT dY=>Kp w0 ft dY/\
 ah 14 #[p1,.agg #[(7:Int),(20:Int),(5:Int)],(3:Int)] dY (Ri λdc ct=>Kp w0 dY ct/\
 ah 15 #[p1] ct (Ri λda fy=>Kp w0 ct fy/\
 ah 15 #[p1] fy (Ri λdp hZ=>Kp w0 fy hZ/\
 Br (dp==1)
 (ah 15 #[p1] hZ (Ri λiO eN=>Kp w0 hZ eN/\
 R (Value.bool (iO==1)) eN))
 (R false hZ)))))))):ah 13 #[] w R:=
 cq cc Tryz.func13 h
end Go.Proofs.YtalpkjfpmdpbiaaGreatDoor
