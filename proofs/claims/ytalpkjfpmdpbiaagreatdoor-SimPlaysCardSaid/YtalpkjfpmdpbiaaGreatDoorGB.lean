import Derived.Test.YtalpkjfpmdpbiaaGreatDoorGF
set_option linter.all false
namespace Go.Proofs.YtalpkjfpmdpbiaaGreatDoor
open Go Go.Vc Go.RowKit Go.Proofs
set_option maxRecDepth 100000
set_option maxHeartbeats 8000000
set_option linter.unusedVariables false
variable {R:Ending->World->Prop} {w:World} {a0 a1 a2 a3 a4 a5 a6 a7 a8 a9 aq ar av aI aJ aK aL aH bO eE ao ak aw dB gn gB gC gD fM gE db dR dO ln lO nv ym yn yp yq yt yu yw yx yy yz yA yB yC yD:Int}
def Ef.vc(h:
 Aw w #[aq,ar,av] 23 λw0=>
 Aw w0 #[af,af,af] 23 λw1=>
 ah 44 #[aq,(6:Int)] w1.drew (Ri λx3 w2=>K2 w w0 w1.drew w2 (
 au w2 (lX w 2) 0 [av]/\au w2 (lX w 1) 0 [ar]/\ah 44 #[ar,(9:Int)] w2 (Ri λx5 w4=>K2 w w0 w2 w4 (
 au w4 (lX w 2) 0 [av]/\ah 44 #[av,(6:Int)] w4 (Ri λx7 w6=>K2 w w0 w4 w6 (
 Sw w6 w0 #[(ai (5+x3)),(ai (14+x5)),(ai (5+x7))] λw8=>
 R (Value.agg #[(ai (5+x3)),(ai (14+x5)),(ai (5+x7))]) w8))))))):ah 12 #[.agg #[aq,ar,av]] w R:=
 cq cc Tryz.func12 h
def N5.vc{aK:Sl}{aL:Sl}{aH:Sl}{bO:Sl}(h:
 Aw w #[aq,ar,av,aI,aJ,aK,aL,aH,bO] 33 λw0=>
 Aw w0 #[af,af,af,af,af,.slice none 0 0,.slice none 0 0,.slice none 0 0,.slice none 0 0,af,af,.slice none 0 0,af,af,.slice none 0 0,.slice none 0 0] 39 λw1=>
 ah 84 #[(4096:Int)] w1.drew (λe w2=>∃(x3 x4:Int)(s5:Sl),e=Value.agg #[x3,x4,s5]/\K2 w w0 w1.drew w2 (
 au w2 w 0 [aq,ar,av,aI,aJ,aK,aL,aH,bO]/\Sw w2 w0 #[aq,ar,av,aI,aJ,aK,aL,aH,bO,x3,x4,s5,.int .i64 (if 64<(if 1>a1 then 1 else a1) then 64 else (if 1>a1 then 1 else a1)),af,.slice none 0 0,.slice none 0 0] λw6=>
 R (Value.agg #[aq,ar,av,aI,aJ,aK,aL,aH,bO,x3,x4,s5,.int .i64 (if 64<(if 1>a1 then 1 else a1) then 64 else (if 1>a1 then 1 else a1)),af,.slice none 0 0,.slice none 0 0]) w6))):ah 41 #[.agg #[aq,ar,av,aI,aJ,aK,aL,aH,bO],a1] w R:=
 cq cc Tryz.func41 h
def rh.vc{c0:Addr}(h:
 Aw w #[aq,ar,av] 23 λw0=>
 ∃I1:Nat->Int->World->Prop,
 (∃n2,aP [aq,ar,av]/\I1 n2 (0) w0)/\
 ∀(n2:Nat)(Xf:Nat->Value)(x4:Int)(w5:World),I1 n2 x4 w5->
 ∃(s7:Sl),ld w5 (some c0)=some (.slice s7.a s7.n s7.c)/\
 Br (decide (x4<((s7.n:Nat):Int)))
 (∃(s8:Sl),ld w5.drew (some c0)=some (.slice s8.a s8.n s8.c)/\
 cA s8.a x4 s8.n/\∃(x9 bq bR:Int),au w5.drew (ae s8.a ((x4:Int).toNat*3)) 0 [x9,bq,bR]/\
 Br ((x9==aq) &&((bq==ar) &&(bR==av)))
 (R true w5.drew)
 (∃n6,n6<n2/\aP [aq,ar,av]/\I1 n6 ((ai (x4+1))) w5.drew))
 (R false w5)):ah 42 #[.agg #[aq,ar,av],c0] w R:=
 cq ⟨[(2,⟨[(4,.int .i64)],[],[]⟩)],[],[]⟩ Tryz.func42 h
end Go.Proofs.YtalpkjfpmdpbiaaGreatDoor
