import Derived.Test.YtalpkjfpmdpbiaaGreatDoorGR
set_option linter.all false
namespace Go.Proofs.YtalpkjfpmdpbiaaGreatDoor
open Go Go.Vc Go.RowKit Go.Proofs
set_option maxRecDepth 100000
set_option maxHeartbeats 8000000
set_option linter.unusedVariables false
variable {R:Ending->World->Prop} {w:World} {a0 a1 a2 a3 a4 a5 a6 a7 a8 a9 aq ar au aI aJ aK aL aH bM eB ao aj aw dO ic jg jh ji gq gY dj dZ dU lg lO nm xO xP xQ xR xS xU xV xW xX xY xZ ya yb yc:Int}
def O1.vc(h:
 Aw w #[af,af,af,af,af,.slice none 0 0,.slice none 0 0,.slice none 0 0,.slice none 0 0] 33 λw0=>
 ah 68 #[a0,a1,a2] w0 (λe w1=>∃(x2 x3 x4 x5 x6:Int)(s7 s8 s9:Sl),e=Value.agg #[x2,x3,x4,x5,x6,s7,s8,s9]/\Kp w w0 w1/\
 Sw w1 w #[x2,x3,x4,x5,x6,s7,s8,s9,.slice none 0 0] λbL=>
 R (Value.agg #[x2,x3,x4,x5,x6,s7,s8,s9,.slice none 0 0]) bL)):ah 36 #[a0,a1,a2] w R:=
 cq cf Tryz.func36 h
def H8.vc{aK:Sl}{aL:Sl}{aH:Sl}{bM:Sl}(h:
 Aw w #[aq,ar,au,aI,aJ,aK,aL,aH,bM] 33 λw0=>
 Aw w0 #[ao,aj,aw] 23 λw1=>
 ah 50 #[.agg #[ao,aj,aw]] w1 (Xz λx3 x4 w2=>K2 w w0 w1 w2 (
 ah 197 #[.agg #[x3,x4]] w2 (λe w5=>∃(x6 x7 x8 x9 br bV bT cD cl bA:Int),e=Value.agg #[x6,x7,x8,x9,br,bV,bT,cD,cl,bA]/\K2 w w0 w2 w5 (
 Aw w5 #[af,af,af,af,af,af,af,af,af,af] 202 λdy=>
 Wt dy ⟨w5,0,none⟩ 10/\Nb w5 w/\Nb w5 w0/\(∀cC,cC=aZ dy (bu w5) [x6,x7,x8,x9,br,bV,bT,cD,cl,bA]->
 ∃I18:Nat->Int->World->Prop,
 (∃WJ,aP [aq,ar,au,aI,aJ,aK,aL,aH,bM]/\aP [ao,aj,aw]/\I18 WJ (0) cC)/\
 ∀(WJ:Nat)(ah7:Nat->Value)(fW:Int)(cx:World),I18 WJ fW cx->
 Br (fW<5)
 ((0:Int)<=fW/\fW<((5:Nat):Int)/\∃(di cW:Int),av cx.drew (ae (bu w5) ((fW:Int).toNat*2)) 0 [di,cW]/\
 ah 49 #[.agg #[aq,ar,au,aI,aJ,aK,aL,aH],.agg #[di,cW]] cx.drew (Ri λdc g7=>K2 w w0 cx.drew g7 (
 Br (dc<0)
 (R false g7)
 (∃PA,PA<WJ/\aP [aq,ar,au,aI,aJ,aK,aL,aH,bM]/\aP [ao,aj,aw]/\I18 PA ((ai (fW+1))) g7))))
 (R true cx))))))):ah 153 #[.agg #[aq,ar,au,aI,aJ,aK,aL,aH,bM],.agg #[ao,aj,aw]] w R:=
 cq ⟨[(3,⟨[(6,.int .i64)],[],[]⟩)],[],[]⟩ Tryz.func153 h
def ND.vc{aK:Sl}{aL:Sl}{aH:Sl}{bM:Sl}(h:
 Aw w #[aq,ar,au,aI,aJ,aK,aL,aH,bM] 33 λw0=>
 Aw w0 #[ao,aj,aw] 23 λw1=>
 Aw w1 #[af,af,af,af,af,.slice none 0 0,.slice none 0 0,.slice none 0 0,.slice none 0 0] 33 λw2=>
 ah 22 #[.agg #[aq,ar,au,aI,aJ,aK,aL,aH],.agg #[ao,aj,aw]] w2 (Ri λx4 w3=>K3 w w0 w1 w2 w3 (
 ah 99 #[.agg #[aq,ar,au,aI,aJ,aK,aL,aH],.agg #[ao,aj,aw],a2] w3 (λe w5=>∃(x6 x7 x8 x9 br:Int)(eJ eH gf:Sl)(cl:Int),e=Value.tuple #[.agg #[x6,x7,x8,x9,br,eJ,eH,gf],cl]/\K3 w w0 w1 w3 w5 (
 Aw w5 #[af,af,af,af,af,.slice none 0 0,.slice none 0 0,.slice none 0 0] 30 λcS=>
 Sw cS w5 #[x6,x7,x8,x9,br,eJ,eH,gf] λdy=>
 Sw dy w #[x6,x7,x8,x9,br,eJ,eH,gf,bM] λcC=>
 Br (cl==0)
 (Br (x4 !=a2)
 (∃l18:LV,Rd cC bM.a l18/\aF 32 4 cC ⟨none,0,0⟩ bM.n l18/\∀(oW:Sl)(eC:World),aD 71 4 cC ⟨none,0,0⟩ bM.n l18 oW eC->K4 w w0 w1 w5 cC eC (
 Aw eC #[ao,aj,aw,a2] 71 λea=>
 aF 32 4 ea oW 1 [ao,aj,aw,a2]/\∀(vG:Sl)(gi:World),aD 71 4 ea oW 1 [ao,aj,aw,a2] vG gi->K5 w w0 w1 w5 eC ea gi (
 Sw gi w #[x6,x7,x8,x9,br,eJ,eH,gf,vG] λfu=>
 Sw fu w1 #[x6,x7,x8,x9,br,eJ,eH,gf,vG] λeg=>
 R (Value.tuple #[.agg #[x6,x7,x8,x9,br,eJ,eH,gf,vG],cl]) eg)))
 (Sw cC w1 #[x6,x7,x8,x9,br,eJ,eH,gf,bM] λg7=>
 R (Value.tuple #[.agg #[x6,x7,x8,x9,br,eJ,eH,gf,bM],cl]) g7))
 (Sw cC w1 #[x6,x7,x8,x9,br,eJ,eH,gf,bM] λjb=>
 R (Value.tuple #[.agg #[x6,x7,x8,x9,br,eJ,eH,gf,bM],cl]) jb)))))):ah 54 #[.agg #[aq,ar,au,aI,aJ,aK,aL,aH,bM],.agg #[ao,aj,aw],a2] w R:=
 cq cf Tryz.func54 h
def EG.vc(h:
 Aw w #[aq,ar] 89 λw0=>
 Aw w0 #[af,af,af,af,af,af,af,af,af,af] 202 λw1=>
 Aw w1 #[af,af,af,af,af,af,af,af,af,af] 202 λw2=>
 Wt w2 ⟨w1,0,none⟩ 10/\Nb w1 w/\(∀w3,w3=aZ w2 (bu w1) [aq,ar,aq,ar,aq,ar,aq,ar,aq,ar]->
 (0:Int)<=1/\(1:Int)<((5:Nat):Int)/\∃(x4:Int),ld w3 (ae (ae (bu w1) ((1:Int).toNat*2)) 0)=some (.int .i64 x4)/\
 (0:Int)<=1/\(1:Int)<((5:Nat):Int)/\(true=true/\Wr w3 (ae (ae (bu w1) ((1:Int).toNat*2)) 0) 1)/\cQ (ae (ae (bu w1) ((1:Int).toNat*2)) 0)≠some w.heap.size/\(∀w5,w5=aZ w3 (ae (ae (bu w1) ((1:Int).toNat*2)) 0) [(ai (x4-1))]->
 (0:Int)<=2/\(2:Int)<((5:Nat):Int)/\∃(x6:Int),ld w5 (ae (ae (bu w1) ((2:Int).toNat*2)) 0)=some (.int .i64 x6)/\
 (0:Int)<=2/\(2:Int)<((5:Nat):Int)/\(true=true/\Wr w5 (ae (ae (bu w1) ((2:Int).toNat*2)) 0) 1)/\cQ (ae (ae (bu w1) ((2:Int).toNat*2)) 0)≠some w.heap.size/\(∀w7,w7=aZ w5 (ae (ae (bu w1) ((2:Int).toNat*2)) 0) [(ai (x6+1))]->
 (0:Int)<=3/\(3:Int)<((5:Nat):Int)/\∃(x8:Int),ld w7 (ae (ae (bu w1) ((3:Int).toNat*2)) 1)=some (.int .i64 x8)/\
 (0:Int)<=3/\(3:Int)<((5:Nat):Int)/\(true=true/\Wr w7 (ae (ae (bu w1) ((3:Int).toNat*2)) 1) 1)/\cQ (ae (ae (bu w1) ((3:Int).toNat*2)) 1)≠some w.heap.size/\(∀w9,w9=aZ w7 (ae (ae (bu w1) ((3:Int).toNat*2)) 1) [(ai (x8-1))]->
 (0:Int)<=4/\(4:Int)<((5:Nat):Int)/\∃(br:Int),ld w9 (ae (ae (bu w1) ((4:Int).toNat*2)) 1)=some (.int .i64 br)/\
 (0:Int)<=4/\(4:Int)<((5:Nat):Int)/\(true=true/\Wr w9 (ae (ae (bu w1) ((4:Int).toNat*2)) 1) 1)/\cQ (ae (ae (bu w1) ((4:Int).toNat*2)) 1)≠some w.heap.size/\(∀cH,cH=aZ w9 (ae (ae (bu w1) ((4:Int).toNat*2)) 1) [(ai (br+1))]->
 ∃(bT cD cl bA cY cP cn cN dK fW:Int),av cH (bu w1) 0 [bT,cD,cl,bA,cY,cP,cn,cN,dK,fW]/\
 Wt cH ⟨w0,0,none⟩ 10/\Nb w0 w/\(∀cx,cx=aZ cH (bu w0) [bT,cD,cl,bA,cY,cP,cn,cN,dK,fW]->
 ∃(de di cW dV dc eM iL oL iK jA:Int),av cx (bu w0) 0 [de,di,cW,dV,dc,eM,iL,oL,iK,jA]/\
 R (Value.agg #[de,di,cW,dV,dc,eM,iL,oL,iK,jA]) cx))))))):ah 197 #[.agg #[aq,ar]] w R:=
 cq cf Tryz.func197 h
end Go.Proofs.YtalpkjfpmdpbiaaGreatDoor
