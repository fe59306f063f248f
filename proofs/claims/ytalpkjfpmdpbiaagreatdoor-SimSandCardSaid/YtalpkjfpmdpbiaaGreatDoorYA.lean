import Derived.Test.YtalpkjfpmdpbiaaGreatDoorKT
import Derived.Test.YtalpkjfpmdpbiaaGreatDoorGF
import Derived.Test.YtalpkjfpmdpbiaaGreatDoorP
import Derived.Test.YtalpkjfpmdpbiaaGreatDoorWA
set_option linter.all false
namespace Go.Proofs.YtalpkjfpmdpbiaaGreatDoor
open Go Go.Vc Go.RowKit Go.Proofs Go.bQ Go.aB Go.Code Go.mw
def cW (c:Ce):Prop:=(-2000000000<=c.1/\c.1<=2000000000)/\(-2000000000<=c.2.1/\c.2.1<=2000000000)/\-2000000000<=c.2.2/\c.2.2<=2000000000
def pQ (c:Ce):Prop:=(-1000000000<=c.1/\c.1<=1000000000)/\(-1000000000<=c.2.1/\c.2.1<=1000000000)/\-1000000000<=c.2.2/\c.2.2<=1000000000
theorem cW.ok {c:Ce} (h:cW c):pW c:=by unfold cW at h;unfold pW inI;omega
theorem pQ.wide {c:Ce} (h:pQ c):cW c:=by unfold pQ at h;unfold cW;omega
theorem ui {c:Ce} (h:cW c) {n:Ce} (hn:n ∈ fL c):pW n:=by
 unfold cW at h
 unfold fL aS ma at hn
 simp only [List.mem_cons,List.not_mem_nil,or_false]at hn
 rcases hn with rfl|rfl|rfl|rfl|rfl|rfl<;>(unfold pW inI;simp only;omega)
theorem GV {c:Ce} (h:pQ c) {n:Ce} (hn:n ∈ fL c):cW n:=by
 unfold pQ at h
 unfold fL aS ma at hn
 simp only [List.mem_cons,List.not_mem_nil,or_false]at hn
 rcases hn with rfl|rfl|rfl|rfl|rfl|rfl<;>(unfold cW;simp only;omega)
theorem kN (n : Int) (h : -2147483648 ≤ n ∧ n ≤ 2147483648) (w : World) : Calls Tryz.prog dz #[n] w fun e w' => e = .returned n ∧ w' = w := by
 apply qo.vc
 unfold qo.pre
 have e1 : (if (-2147483648) > n then (-2147483648) else n) = n := if_neg (by omega)
 rw [e1, if_neg (by omega)]
 exact ⟨rfl, rfl⟩
theorem FC (c : Ce) (h : (-2147483648 ≤ c.1 ∧ c.1 ≤ 2147483648) ∧ (-2147483648 ≤ c.2.1 ∧ c.2.1 ≤ 2147483648) ∧ -2147483648 ≤ c.2.2 ∧ c.2.2 ≤ 2147483648) (w : World) : Calls Tryz.prog pf #[mq c] w fun e w' => e = .returned (mq c) ∧ Ext w w' := by
 apply uw.vc
 intro w0 e0 w1 e1
 have x1 : Ext w w1 := ((Ext.aq _).ab e0).ab e1
 have z0 := dR e0
 have r0 : Row w1 w.heap.size [c.1, c.2.1, c.2.2] mK := (by rw [e0]; exact Row.new w [_, _, _] _ : Row w0 w.heap.size _ _).ext ((Ext.aq _).ab e1)
 clear e0 e1
 have xd := Ext.dr w1
 have r1 := r0.ext xd
 refine (kN c.1 h.1 w1.drew).mono ?_
 rintro e w2 ⟨rfl, rfl⟩
 refine ⟨_, rfl, rfl, rfl, r1.aX (o := 2) (fun j hj => by
  match j, hj with
  | 0, _ => rfl), r1.aX (o := 1) (fun j hj => by
  match j, hj with
  | 0, _ => rfl), (kN c.2.1 h.2.1 w1.drew).mono ?_⟩
 rintro e w4 ⟨rfl, rfl⟩
 refine ⟨_, rfl, rfl, rfl, r1.aX (o := 2) (fun j hj => by
  match j, hj with
  | 0, _ => rfl), (kN c.2.2 h.2.2 w1.drew).mono ?_⟩
 rintro e w6 ⟨rfl, rfl⟩
 exact ⟨_, rfl, rfl, rfl, fun w8 e8 => ⟨rfl, (x1.tr xd).ah e8 (by omega)⟩⟩
theorem gj (a b d : Int) (c c' : Ce) (he : c' = (c.1 + a, c.2.1 + b, c.2.2 + d)) (hc : cW c) (ha : (-1 ≤ a ∧ a ≤ 1) ∧ (-1 ≤ b ∧ b ≤ 1) ∧ -1 ≤ d ∧ d ≤ 1) {g : Nat} {w : World} (hr : Row w g [c.1, c.2.1, c.2.2] mK) :
  Calls Tryz.prog bT #[a, b, d, .pointer (some ⟨g, 0, none⟩)] w fun e w' => e = .returned (mq c') ∧ Ext w w' := by
 subst he
 apply mS.vc
 obtain ⟨⟨h1, h2⟩, ⟨h3, h4⟩, h5, h6⟩ := id hc
 intro w0 e0
 have x0 : Ext w w0 := (Ext.aq _).ab e0
 have z0 := dR e0
 clear e0
 have xd := x0.tr (Ext.dr w0)
 have zd : w0.drew.heap.size = w0.heap.size := rfl
 have r1 := hr.ext xd
 have q1 : IntKind.wrap .i64 (c.1 + a) = c.1 + a := wI
 have q2 : IntKind.wrap .i64 (c.2.1 + b) = c.2.1 + b := wI
 have q3 : IntKind.wrap .i64 (c.2.2 + d) = c.2.2 + d := wI
 refine ⟨c.1, r1.at 0 rfl, c.2.1, r1.at 1 rfl, c.2.2, r1.at 2 rfl, (kN c.1 (by omega) w0.drew).mono ?_⟩
 rintro e w4 ⟨rfl, rfl⟩
 refine ⟨_, rfl, rfl, jg (r1.at 2 rfl), jg (r1.at 1 rfl), (kN c.2.1 (by omega) w0.drew).mono ?_⟩
 rintro e w6 ⟨rfl, rfl⟩
 refine ⟨_, rfl, rfl, jg (r1.at 2 rfl), (kN c.2.2 (by omega) w0.drew).mono ?_⟩
 rintro e w8 ⟨rfl, rfl⟩
 refine ⟨_, rfl, rfl, ?_⟩
 rw [q1, q2, q3]
 refine (FC (c.1 + a, c.2.1 + b, c.2.2 + d) (by simp only; omega) w0.drew).mono ?_
 rintro e w10 ⟨rfl, x10⟩
 exact ⟨_, _, _, rfl, x10.k, fun w14 e14 => ⟨rfl, (xd.tr x10).ah e14 (Nat.le_refl _)⟩⟩
abbrev dp (c:Ce):List Value:=[.int .i64 c.1,.int .i64 c.2.1,.int .i64 c.2.2]
theorem vw (c:Ce):One (dp c):=by
 intro v hv;simp at hv;rcases hv with rfl|rfl|rfl<;>rfl
abbrev Bv (c:Ce):List Value:=[.int .i64 (c.1-1),.int .i64 c.2.1,.int .i64 c.2.2,.int .i64 (c.1+1),.int .i64 c.2.1,.int .i64 c.2.2,.int .i64 c.1,.int .i64 (c.2.1-1),.int .i64 c.2.2,.int .i64 c.1,.int .i64 (c.2.1+1),.int .i64 c.2.2,.int .i64 c.1,.int .i64 c.2.1,.int .i64 (c.2.2-1),.int .i64 c.1,.int .i64 c.2.1,.int .i64 (c.2.2+1)]
theorem Bw (c:Ce):One (Bv c):=by
 intro v hv
 simp only [Bv,List.mem_cons,List.not_mem_nil,or_false]at hv
 rcases hv with rfl|rfl|rfl|rfl|rfl|rfl|rfl|rfl|rfl|rfl|rfl|rfl|rfl|rfl|rfl|rfl|rfl|rfl<;>rfl
theorem FD (c:Ce):Bv c=((fL c).map dp).flatten:=rfl
theorem lW {cs vs:List Value} (h:vs.length=cs.length):aw cs 0 vs=vs:=by
 rw [bo _ _ _ (by omega)]
 simp [<-h]
theorem xg {a b c a' b' c':Int} (h1:a=a') (h2:b=b') (h3:c=c'):((a,b,c):Ce)=(a',b',c'):=by rw [h1,h2,h3]
set_option maxRecDepth 100000 in
theorem iJ (c : Ce) (hc : cW c) (w : World) : Calls Tryz.prog dA #[mq c] w fun e w' => e = .returned (.agg (Bv c).toArray) ∧ Ext w w' := by
 apply rk.vc
 intro w0 e0 w1 e1
 have x1 : Ext w w1 := ((Ext.aq _).ab e0).ab e1
 have z0 := dR e0
 have r0 : Row w1 w.heap.size [c.1, c.2.1, c.2.2] mK := (by rw [e0]; exact Row.new w [_, _, _] _ : Row w0 w.heap.size _ _).ext ((Ext.aq _).ab e1)
 have rb : Row w1 w0.heap.size [(0:Int), (0:Int), (0:Int), (0:Int), (0:Int), (0:Int), (0:Int), (0:Int), (0:Int), (0:Int), (0:Int), (0:Int), (0:Int), (0:Int), (0:Int), (0:Int), (0:Int), (0:Int)] 161 := by rw [e1]; exact Row.new w0 [_, _, _, _, _, _, _, _, _, _, _, _, _, _, _, _, _, _] _
 clear e0 e1
 refine (gj (-1) 0 0 c (c.1 - 1, c.2.1, c.2.2) (xg (by omega) (by omega) (by omega)) hc (by decide) r0).mono ?_
 rintro e w2 ⟨rfl, x2⟩
 refine ⟨_, _, _, rfl, (gj 1 0 0 c (c.1 + 1, c.2.1, c.2.2) (xg (by omega) (by omega) (by omega)) hc (by decide) (r0.ext x2)).mono ?_⟩
 rintro e w6 ⟨rfl, x6⟩
 have y6 := x2.tr x6
 refine ⟨_, _, _, rfl, (gj 0 (-1) 0 c (c.1, c.2.1 - 1, c.2.2) (xg (by omega) (by omega) (by omega)) hc (by decide) (r0.ext y6)).mono ?_⟩
 rintro e w10 ⟨rfl, x10⟩
 have y10 := y6.tr x10
 refine ⟨_, _, _, rfl, (gj 0 1 0 c (c.1, c.2.1 + 1, c.2.2) (xg (by omega) (by omega) (by omega)) hc (by decide) (r0.ext y10)).mono ?_⟩
 rintro e w14 ⟨rfl, x14⟩
 have y14 := y10.tr x14
 refine ⟨_, _, _, rfl, (gj 0 0 (-1) c (c.1, c.2.1, c.2.2 - 1) (xg (by omega) (by omega) (by omega)) hc (by decide) (r0.ext y14)).mono ?_⟩
 rintro e w18 ⟨rfl, x18⟩
 have y18 := y14.tr x18
 refine ⟨_, _, _, rfl, (gj 0 0 1 c (c.1, c.2.1, c.2.2 + 1) (xg (by omega) (by omega) (by omega)) hc (by decide) (r0.ext y18)).mono ?_⟩
 rintro e w22 ⟨rfl, x22⟩
 have y22 := y18.tr x22
 have r22 := rb.ext y22
 refine ⟨_, _, _, rfl, ⟨rfl, r22.wr (by simp)⟩, fun w26 e26 => ?_⟩
 have e26 : w26 = aA w22 (some ⟨w0.heap.size, 0, none⟩) (Bv c) := e26
 rw [r22.aA (vs := Bv c) (by simp) (Bw c), lW (by simp)] at e26
 have hr' : Row w26 w0.heap.size (Bv c) 161 := by rw [e26]; exact r22.set _
 exact ⟨_, _, _, _, _, _, _, _, _, _, _, _, _, _, _, _, _, _, hr'.aX (fun j hj => by rw [Nat.zero_add]), rfl, (x1.tr y22).ah e26 (by omega)⟩
theorem oZ (b : Int) (w : World) : Calls Tryz.prog oJ #[b] w fun e w' => e = .returned (.bool (b == 3)) ∧ w' = w := by
 apply nr.vc
 exact ⟨rfl, rfl⟩
theorem kA (b : Int) (w : World) : Calls Tryz.prog jH #[b] w fun e w' => e = .returned (.bool (kZ b)) ∧ w' = w := by
 apply rD.vc
 unfold kZ
 refine Br.mk (fun h => ⟨?_, rfl⟩) (fun h => ⟨?_, rfl⟩)
 ·have h1 : (8 : Int) ≤ b := by simpa using h
  rw [decide_eq_true h1, Bool.true_and]
 ·have h1 : ¬ (8 : Int) ≤ b := by simpa using h
  rw [decide_eq_false h1, Bool.false_and]
theorem Af (b : Int) (w : World) : Calls Tryz.prog nc #[b] w fun e w' => e = .returned (.bool (gn b)) ∧ w' = w := by
 apply lD.vc
 unfold gn
 refine Br.mk (fun h => ⟨?_, rfl⟩) (fun h => (kA b w).mono ?_)
 ·have h1 : b = 0 := by simpa using h
  rw [decide_eq_true h1, Bool.true_or]
 ·rintro e w' ⟨rfl, rfl⟩
  have h1 : ¬ b = 0 := by simpa using h
  rw [decide_eq_false h1, Bool.false_or]
  exact ⟨_, rfl, rfl, rfl⟩
theorem uP (b : Int) (w : World) : Calls Tryz.prog iz #[b] w fun e w' => e = .returned (.int .i64 (ay b)) ∧ w' = w := by
 apply pg.vc
 refine (oZ b w).mono ?_
 rintro e w0 ⟨rfl, rfl⟩
 unfold ay
 refine ⟨_, rfl, Br.mk (fun h => ?_) (fun h => (kA b w0).mono ?_)⟩
 ·rw [if_pos (by simpa using h)]; exact ⟨rfl, rfl⟩
 ·rintro e w2 ⟨rfl, rfl⟩
  rw [if_neg (by simpa using h)]
  refine ⟨_, rfl, Br.mk (fun h => ?_) (fun h => ?_)⟩
  ·rw [if_pos h]; exact ⟨rfl, rfl⟩
  ·rw [if_neg (by rw [h]; decide)]; exact ⟨rfl, rfl⟩
end Go.Proofs.YtalpkjfpmdpbiaaGreatDoor
namespace Go.Proofs.YtalpkjfpmdpbiaaGreatDoor
open Go Go.Vc Go.RowKit Go.Proofs Go.bQ Go.aB Go.Code Go.mw
def Tl (v : Value) (V : Ce → Int) (w : World) : Prop := ∃ D : Nat → Prop, (∀ i, D i → i < w.heap.size) ∧ ∀ w', (∀ i, D i → w'.heap[i]? = w.heap[i]?) → ∀ c, pW c → a8 Tryz.prog v [mq c] w' fun e w'' => e = .returned (.int .i64 (V c)) ∧ Ext w' w''
theorem Tl.ext {v : Value} {V : Ce → Int} {w w' : World} (h : Tl v V w) (x : Ext w w') : Tl v V w' := by
 obtain ⟨D, h1, h2⟩ := h
 exact ⟨D, fun i hi => Nat.lt_of_lt_of_le (h1 i hi) x.size, fun w'' hk => h2 w'' fun i hi => (hk i hi).trans (x.heap (h1 i hi))⟩
theorem Tl.at {v : Value} {V : Ce → Int} {w : World} (h : Tl v V w) {c : Ce} (hc : pW c) : a8 Tryz.prog v [mq c] w fun e w' => e = .returned (.int .i64 (V c)) ∧ Ext w w' := by
 obtain ⟨D, h1, h2⟩ := h
 exact h2 w (fun _ _ => rfl) c hc
theorem aQ {v:Value} {l:List Value} {w:World} {R R':Ending->World->Prop} (h:a8 Tryz.prog v l w R) (k:∀e w',R e w'->R' e w'):a8 Tryz.prog v l w R':=pP h k
abbrev gC (x:Go.mw.Cg):List Value:=[.int .i64 x.1.1,.int .i64 x.1.2.1,.int .i64 x.1.2.2,.int .i64 x.2]
theorem FE {E k n:Nat} {w w':World} {s s':Sl} {news:List Value} (h:av E k w s n news s' w') (hc:s.c<s.n+n):Ext w w':=by
 cases h with
 |fits hf=>omega
 |sD=>exact (Ext.dr w).tr (Ext.al _ _)
set_option maxRecDepth 100000 in
theorem A3 {v : Value} {V : Ce → Int} {w : World} (hV : Tl v V w) (c : Ce) (hc : cW c) :
  Calls Tryz.prog lk #[v, mq c] w fun e w' => ∃ s : Sl, e = .returned s ∧ af w.heap.size mK 3 w' s ((bW V c).map dp) ∧ Ext w w' := by
 apply pj.vc
 intro w0 e0
 have x0 : Ext w w0 := (Ext.aq _).ab e0
 have z0 := dR e0
 clear e0
 refine (iJ c hc w0).mono ?_
 rintro e w1 ⟨rfl, x1⟩
 have z1 := x1.size
 refine ⟨_, _, _, _, _, _, _, _, _, _, _, _, _, _, _, _, _, _, rfl, x1.k, fun w20 e20 => ?_⟩
 have x20 : Ext w1 w20 := (Ext.aq _).ab e20
 have z20 := dR e20
 have hr : Row w20 w1.heap.size [(0:Int), (0:Int), (0:Int), (0:Int), (0:Int), (0:Int), (0:Int), (0:Int), (0:Int), (0:Int), (0:Int), (0:Int), (0:Int), (0:Int), (0:Int), (0:Int), (0:Int), (0:Int)] 161 := by rw [e20]; exact Row.new w1 [_, _, _, _, _, _, _, _, _, _, _, _, _, _, _, _, _, _] _
 clear e20
 refine ⟨⟨rfl, hr.wr (by simp)⟩, fun e => by
  have : w1.heap.size = w.heap.size := by simpa [bD] using e
  omega, fun w21 e21 w22 e22 => ?_⟩
 have e21 : w21 = aA w20 (some ⟨w1.heap.size, 0, none⟩) (Bv c) := e21
 rw [hr.aA (vs := Bv c) (by simp) (Bw c), lW (by simp)] at e21
 have hr2 : Row w21 w1.heap.size (Bv c) 161 := by rw [e21]; exact hr.set _
 have x21 : Ext w w21 := (x0.tr (x1.tr x20)).ah e21 (by omega)
 have z21 := Ap e21
 clear e21
 have xd := Ext.dr w21
 have zd : w21.drew.heap.size = w21.heap.size := rfl
 have x22 : Ext w21.drew w22 := (Ext.aq _).ab e22
 have z22 := dR e22
 have hc22 : Row w22 w21.drew.heap.size (dp c) mK := by rw [e22]; exact Row.new w21.drew [_, _, _] _
 clear e22
 have x022 := x21.tr (xd.tr x22)
 have hr22 := hr2.ext (xd.tr x22)
 have ho : af w.heap.size mK 3 w22 ⟨some ⟨w21.drew.heap.size, 0, none⟩, 1, 1⟩ [dp c] := af.gP (by omega) hc22 (by simp) (Nat.le_refl _) rfl (by simp)
 have ha := ho.yQ (bytes := 24) (more := (fL c).map dp) (by omega) (fun r hr => by obtain ⟨y, -, rfl⟩ := List.mem_map.1 hr; rfl) (fun r hr => by obtain ⟨y, -, rfl⟩ := List.mem_map.1 hr; exact vw y) (by simp [fL]) (by simp [fL])
 obtain ⟨hp, hres⟩ := ha
 refine ⟨((fL c).map dp).flatten, ?_, hp, fun s24 w25 hr25 => ?_⟩
 ·rw [bR]
  intro i u hu
  exact hr22.at i (by rw [FD]; exact hu)
 obtain ⟨ho25, hn25, -, -, -⟩ := hres s24 w25 hr25
 have x25 : Ext w22 w25 := FE hr25 (show (1 : Nat) < 1 + (6 - 0) by decide)
 have z25 := x25.size
 have x025 : Ext w w25 := x022.tr x25
 have ho25 : af w.heap.size mK 3 w25 s24 ((c :: fL c).map dp) := ho25
 have hrd := ho25.rd (show 0 < 3 by decide)
 have hn24 : s24.n = 7 := hrd.n
 refine ⟨x25.k, x25.k, fun n x s30 w31 => ∃ j : Nat, x = j ∧ j + n = 7 ∧ af w25.heap.size mK 3 w31 s30 ((((c :: fL c).take j).filter fun n => decide (0 < ay (V n))).map dp) ∧ Ext w25 w31, ⟨7, rfl, rfl, 0, rfl, rfl, af.nil, Ext.aq _⟩, ?_⟩
 rintro n us x s30 w31 ⟨j, rfl, hj, ho31, x31⟩
 have z31 := x31.size
 refine Br.mk (fun hb => ?_) (fun hb => ?_)
 ·replace hb := eN hb
  obtain ⟨y, hy⟩ := aN (l := c :: fL c) (i := j) (by have : (c :: fL c).length = 7 := rfl; omega)
  have hym : y ∈ c :: fL c := List.mem_of_getElem? hy
  have oky : pW y := by
   rcases List.mem_cons.1 hym with rfl | h
   ·exact hc.ok
   ·exact ui hc h
  have hy' : ((c :: fL c).map dp)[j]? = some (dp y) := by rw [List.getElem?_map, hy]; rfl
  have htk : (c :: fL c).take (j + 1) = (c :: fL c).take j ++ [y] := by rw [List.take_add_one, hy]; rfl
  refine ⟨hrd.eV (i := (j : Int)) (by decide) (by omega) hb, _, _, _, (hrd.ext x31).aX hy', fun w36 e36 w37 e37 => ?_⟩
  have x37 : Ext w31 w37 := ((Ext.aq _).ab e36).ah e37 (Nat.le_refl _)
  have z37 := yA e36 e37
  clear e36 e37
  refine aQ ((hV.ext (x025.tr (x31.tr x37))).at oky) ?_
  rintro e w38 ⟨rfl, x38⟩
  have z38 := x38.size
  refine ⟨_, rfl, x38.k, x38.k, x38.k, (uP (V y) w38).mono ?_⟩
  rintro e w40 ⟨rfl, rfl⟩
  have wk : IntKind.wrap .i64 ((j : Int) + 1) = ((j + 1 : Nat) : Int) := by rw [wI]; omega
  refine ⟨_, rfl, rfl, rfl, rfl, ?_⟩
  have ho40 := ho31.ext (x37.tr x38)
  refine Br.mk (fun hd => ?_) (fun hd => ?_)
  ·intro w42 e42
   subst e42
   have hn30 : s30.n ≤ 7 := by
    have h1 := (ho31.rd (show 0 < 3 by decide)).n
    have h2 := List.length_filter_le (fun n => decide (0 < ay (V n))) ((c :: fL c).take j)
    rw [List.length_map] at h1
    rw [List.length_take] at h2
    omega
   obtain ⟨hp8, hres8⟩ := ho40.mB (bytes := 24) (news := dp y) (.cells #[y.1, y.2.1, y.2.2] mK) (by omega) rfl (vw y) (by omega) (by omega)
   refine ⟨hp8, fun s43 w44 hr44 => ?_⟩
   obtain ⟨f8, ho8, hn8, x8, hk8, -⟩ := hres8 s43 w44 hr44
   have xa := Ext.al w40 (.cells #[y.1, y.2.1, y.2.2] mK)
   have hb30 : ∀ b, s30.ax = some b → w25.heap.size ≤ b ∧ b < w31.heap.size := fun b hb => ho31.own.lt hb
   have kp : ∀ j, (j < w25.heap.size ∨ w31.heap.size ≤ j) → j < w40.heap.size → w44.heap[j]? = (w40.alloc (.cells #[y.1, y.2.1, y.2.2] mK)).heap[j]? := fun j hj hj2 => by
    rw [hk8 j (fun hb => by have := hb30 j hb; omega) hj2, xa.heap hj2]
   refine ⟨kp _ (.inl (by omega)) (by omega), kp _ (.inl (by omega)) (by omega), kp _ (.inr (by omega)) (by omega), f8, n - 1, by omega, rfl, rfl, j + 1, wk, by omega, ?_, (Below.trans (x31.tr (x37.tr x38)) x8 : Below w25.heap.size w25 w44)⟩
   rw [htk, List.filter_append, List.map_append, List.filter_cons_of_pos (by simpa using hd)]
   exact ho8
  ·refine ⟨n - 1, by omega, rfl, rfl, j + 1, wk, by omega, ?_, x31.tr (x37.tr x38)⟩
   rw [htk, List.filter_append, List.map_append, List.filter_cons_of_neg (by simpa using hd)]
   simpa using ho40
 ·replace hb := eO hb
  have hj7 : (c :: fL c).take j = c :: fL c := List.take_of_length_le (by have : (c :: fL c).length = 7 := rfl; omega)
  rw [hj7] at ho31
  exact ⟨s30, rfl, ho31.low (by omega), x025.tr x31⟩
theorem AI (c:Ce):((Bv c).drop ((2:Int).toNat*3)).take 3=dp (aS c):=rfl
set_option maxRecDepth 100000 in
theorem CA {v : Value} {V : Ce → Int} {w : World} (hV : Tl v V w) (c : Ce) (hc : cW c) :
  Calls Tryz.prog mR #[v, mq c] w fun e w' => ∃ s : Sl, e = .returned s ∧ af w.heap.size gz 4 w' s ((qw V c).map gC) ∧ Ext w w' := by
 apply rn.vc
 intro w0 e0
 have x0 : Ext w w0 := (Ext.aq _).ab e0
 have z0 := dR e0
 clear e0
 refine (iJ c hc w0).mono ?_
 rintro e w1 ⟨rfl, x1⟩
 have z1 := x1.size
 have okl : pW (aS c) := ui hc (by simp [fL])
 refine ⟨_, _, _, _, _, _, _, _, _, _, _, _, _, _, _, _, _, _, rfl, x1.k, by decide, _, _, _, AI c, fun w23 e23 w24 e24 => ?_⟩
 have x24 : Ext w1 w24 := ((Ext.aq _).ab e23).ah e24 (Nat.le_refl _)
 have z24 := yA e23 e24
 clear e23 e24
 have x024 := x0.tr (x1.tr x24)
 refine aQ ((hV.ext x024).at okl) ?_
 rintro e w25 ⟨rfl, x25⟩
 have z25 := x25.size
 refine ⟨_, rfl, x25.k, x25.k, (Af (V (aS c)) w25).mono ?_⟩
 rintro e w27 ⟨rfl, rfl⟩
 unfold qw
 refine ⟨_, rfl, rfl, rfl, Br.mk (fun h => ?_) (fun h => fun w29 e29 => ?_)⟩
 ·rw [if_neg (by simpa using h)]
  exact ⟨⟨none, 0, 0⟩, rfl, af.nil, x024.tr x25⟩
 ·rw [if_pos (by simpa using h)]
  have hr : Row w29 w27.heap.size (([(c, V (aS c)), (aS c, 3)] : List Go.mw.Cg).map gC).flatten gz := by rw [e29]; exact Row.new w27 [_, _, _, _, _, _, _, _] _
  exact ⟨⟨some ⟨w27.heap.size, 0, none⟩, 2, 2⟩, rfl, af.gP (by omega) hr (Nat.le_refl _) (Nat.le_refl _) rfl (by intro r hr; simp at hr; rcases hr with rfl | rfl <;> rfl), (x024.tr x25).ab e29⟩
end Go.Proofs.YtalpkjfpmdpbiaaGreatDoor
