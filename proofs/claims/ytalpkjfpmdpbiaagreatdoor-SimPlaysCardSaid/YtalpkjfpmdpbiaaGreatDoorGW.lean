import Derived.Test.YtalpkjfpmdpbiaaGreatDoorGR
set_option linter.all false
namespace Go.Proofs.YtalpkjfpmdpbiaaGreatDoor
open Go Go.Vc Go.RowKit Go.Proofs
set_option maxRecDepth 100000
set_option maxHeartbeats 8000000
set_option linter.unusedVariables false
variable {R:Ending->World->Prop} {w:World} {a0 a1 a2 a3 a4 a5 a6 a7 a8 a9 aq ar av aI aJ aK aL aH bO eE ao ak aw dB gn gB gC gD fM gE db dR dO ln lO nv ym yn yp yq yt yu yw yx yy yz yA yB yC yD:Int}
def PI.vc(h:
 Aw w #[af,af,af,af,af,.slice none 0 0,.slice none 0 0,.slice none 0 0,.slice none 0 0] 33 λw0=>
 ah 68 #[a0,a1,a2] w0 (λe w1=>∃(x2 x3 x4 x5 x6:Int)(s7 s8 s9:Sl),e=Value.agg #[x2,x3,x4,x5,x6,s7,s8,s9]/\Kp w w0 w1/\
 Sw w1 w #[x2,x3,x4,x5,x6,s7,s8,s9,.slice none 0 0] λbL=>
 R (Value.agg #[x2,x3,x4,x5,x6,s7,s8,s9,.slice none 0 0]) bL)):ah 36 #[a0,a1,a2] w R:=
 cq cc Tryz.func36 h
def ID.vc{aK:Sl}{aL:Sl}{aH:Sl}{bO:Sl}(h:
 Aw w #[aq,ar,av,aI,aJ,aK,aL,aH,bO] 33 λw0=>
 Aw w0 #[ao,ak,aw] 23 λw1=>
 ah 50 #[.agg #[ao,ak,aw]] w1 (X7 λx3 x4 w2=>K2 w w0 w1 w2 (
 ah 197 #[.agg #[x3,x4]] w2 (λe w5=>∃(x6 x7 x8 x9 bq bR bU cz bW bw:Int),e=Value.agg #[x6,x7,x8,x9,bq,bR,bU,cz,bW,bw]/\K2 w w0 w2 w5 (
 Aw w5 #[af,af,af,af,af,af,af,af,af,af] 202 λcY=>
 Wt cY ⟨w5,0,none⟩ 10/\Nb w5 w/\Nb w5 w0/\(∀cE,cE=bc cY (bu w5) [x6,x7,x8,x9,bq,bR,bU,cz,bW,bw]->
 ∃I18:Nat->Int->World->Prop,
 (∃Xn,aP [aq,ar,av,aI,aJ,aK,aL,aH,bO]/\aP [ao,ak,aw]/\I18 Xn (0) cE)/\
 ∀(Xn:Nat)(aiL:Nat->Value)(fT:Int)(ct:World),I18 Xn fT ct->
 Br (fT<5)
 ((0:Int)<=fT/\fT<((5:Nat):Int)/\∃(de da:Int),au ct.drew (ae (bu w5) ((fT:Int).toNat*2)) 0 [de,da]/\
 ah 49 #[.agg #[aq,ar,av,aI,aJ,aK,aL,aH],.agg #[de,da]] ct.drew (Ri λdp hZ=>K2 w w0 ct.drew hZ (
 Br (dp<0)
 (R false hZ)
 (∃Qf,Qf<Xn/\aP [aq,ar,av,aI,aJ,aK,aL,aH,bO]/\aP [ao,ak,aw]/\I18 Qf ((ai (fT+1))) hZ))))
 (R true ct))))))):ah 153 #[.agg #[aq,ar,av,aI,aJ,aK,aL,aH,bO],.agg #[ao,ak,aw]] w R:=
 cq ⟨[(3,⟨[(6,.int .i64)],[],[]⟩)],[],[]⟩ Tryz.func153 h
def Ol.vc{aK:Sl}{aL:Sl}{aH:Sl}{bO:Sl}(h:
 Aw w #[aq,ar,av,aI,aJ,aK,aL,aH,bO] 33 λw0=>
 Aw w0 #[ao,ak,aw] 23 λw1=>
 Aw w1 #[af,af,af,af,af,.slice none 0 0,.slice none 0 0,.slice none 0 0,.slice none 0 0] 33 λw2=>
 ah 22 #[.agg #[aq,ar,av,aI,aJ,aK,aL,aH],.agg #[ao,ak,aw]] w2 (Ri λx4 w3=>K3 w w0 w1 w2 w3 (
 ah 99 #[.agg #[aq,ar,av,aI,aJ,aK,aL,aH],.agg #[ao,ak,aw],a2] w3 (λe w5=>∃(x6 x7 x8 x9 bq:Int)(eO eM gl:Sl)(bW:Int),e=Value.tuple #[.agg #[x6,x7,x8,x9,bq,eO,eM,gl],bW]/\K3 w w0 w1 w3 w5 (
 Aw w5 #[af,af,af,af,af,.slice none 0 0,.slice none 0 0,.slice none 0 0] 30 λcU=>
 Sw cU w5 #[x6,x7,x8,x9,bq,eO,eM,gl] λcY=>
 Sw cY w #[x6,x7,x8,x9,bq,eO,eM,gl,bO] λcE=>
 Br (bW==0)
 (Br (x4 !=a2)
 (∃l18:LV,Rd cE bO.a l18/\aF 32 4 cE ⟨none,0,0⟩ bO.n l18/\∀(pg:Sl)(dY:World),aE 71 4 cE ⟨none,0,0⟩ bO.n l18 pg dY->K4 w w0 w1 w5 cE dY (
 Aw dY #[ao,ak,aw,a2] 71 λef=>
 aF 32 4 ef pg 1 [ao,ak,aw,a2]/\∀(wo:Sl)(gp:World),aE 71 4 ef pg 1 [ao,ak,aw,a2] wo gp->K5 w w0 w1 w5 dY ef gp (
 Sw gp w #[x6,x7,x8,x9,bq,eO,eM,gl,wo] λfy=>
 Sw fy w1 #[x6,x7,x8,x9,bq,eO,eM,gl,wo] λeh=>
 R (Value.tuple #[.agg #[x6,x7,x8,x9,bq,eO,eM,gl,wo],bW]) eh)))
 (Sw cE w1 #[x6,x7,x8,x9,bq,eO,eM,gl,bO] λhZ=>
 R (Value.tuple #[.agg #[x6,x7,x8,x9,bq,eO,eM,gl,bO],bW]) hZ))
 (Sw cE w1 #[x6,x7,x8,x9,bq,eO,eM,gl,bO] λjf=>
 R (Value.tuple #[.agg #[x6,x7,x8,x9,bq,eO,eM,gl,bO],bW]) jf)))))):ah 54 #[.agg #[aq,ar,av,aI,aJ,aK,aL,aH,bO],.agg #[ao,ak,aw],a2] w R:=
 cq cc Tryz.func54 h
def E5.vc(h:
 Aw w #[aq,ar] 89 λw0=>
 Aw w0 #[af,af,af,af,af,af,af,af,af,af] 202 λw1=>
 Aw w1 #[af,af,af,af,af,af,af,af,af,af] 202 λw2=>
 Wt w2 ⟨w1,0,none⟩ 10/\Nb w1 w/\(∀w3,w3=bc w2 (bu w1) [aq,ar,aq,ar,aq,ar,aq,ar,aq,ar]->
 (0:Int)<=1/\(1:Int)<((5:Nat):Int)/\∃(x4:Int),ld w3 (ae (ae (bu w1) ((1:Int).toNat*2)) 0)=some (.int .i64 x4)/\
 (0:Int)<=1/\(1:Int)<((5:Nat):Int)/\(true=true/\Wr w3 (ae (ae (bu w1) ((1:Int).toNat*2)) 0) 1)/\cS (ae (ae (bu w1) ((1:Int).toNat*2)) 0)≠some w.heap.size/\(∀w5,w5=bc w3 (ae (ae (bu w1) ((1:Int).toNat*2)) 0) [(ai (x4-1))]->
 (0:Int)<=2/\(2:Int)<((5:Nat):Int)/\∃(x6:Int),ld w5 (ae (ae (bu w1) ((2:Int).toNat*2)) 0)=some (.int .i64 x6)/\
 (0:Int)<=2/\(2:Int)<((5:Nat):Int)/\(true=true/\Wr w5 (ae (ae (bu w1) ((2:Int).toNat*2)) 0) 1)/\cS (ae (ae (bu w1) ((2:Int).toNat*2)) 0)≠some w.heap.size/\(∀w7,w7=bc w5 (ae (ae (bu w1) ((2:Int).toNat*2)) 0) [(ai (x6+1))]->
 (0:Int)<=3/\(3:Int)<((5:Nat):Int)/\∃(x8:Int),ld w7 (ae (ae (bu w1) ((3:Int).toNat*2)) 1)=some (.int .i64 x8)/\
 (0:Int)<=3/\(3:Int)<((5:Nat):Int)/\(true=true/\Wr w7 (ae (ae (bu w1) ((3:Int).toNat*2)) 1) 1)/\cS (ae (ae (bu w1) ((3:Int).toNat*2)) 1)≠some w.heap.size/\(∀w9,w9=bc w7 (ae (ae (bu w1) ((3:Int).toNat*2)) 1) [(ai (x8-1))]->
 (0:Int)<=4/\(4:Int)<((5:Nat):Int)/\∃(bq:Int),ld w9 (ae (ae (bu w1) ((4:Int).toNat*2)) 1)=some (.int .i64 bq)/\
 (0:Int)<=4/\(4:Int)<((5:Nat):Int)/\(true=true/\Wr w9 (ae (ae (bu w1) ((4:Int).toNat*2)) 1) 1)/\cS (ae (ae (bu w1) ((4:Int).toNat*2)) 1)≠some w.heap.size/\(∀cB,cB=bc w9 (ae (ae (bu w1) ((4:Int).toNat*2)) 1) [(ai (bq+1))]->
 ∃(bU cz bW bw cQ cR cf cK du fT:Int),au cB (bu w1) 0 [bU,cz,bW,bw,cQ,cR,cf,cK,du,fT]/\
 Wt cB ⟨w0,0,none⟩ 10/\Nb w0 w/\(∀ct,ct=bc cB (bu w0) [bU,cz,bW,bw,cQ,cR,cf,cK,du,fT]->
 ∃(dc de da dZ dp eS iO oT iN jB:Int),au ct (bu w0) 0 [dc,de,da,dZ,dp,eS,iO,oT,iN,jB]/\
 R (Value.agg #[dc,de,da,dZ,dp,eS,iO,oT,iN,jB]) ct))))))):ah 197 #[.agg #[aq,ar]] w R:=
 cq cc Tryz.func197 h
end Go.Proofs.YtalpkjfpmdpbiaaGreatDoor
