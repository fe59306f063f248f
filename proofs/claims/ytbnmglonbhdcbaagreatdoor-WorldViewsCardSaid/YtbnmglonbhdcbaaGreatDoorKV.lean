import Derived.Test.YtbnmglonbhdcbaaGreatDoorKI
import Derived.Test.YtbnmglonbhdcbaaGreatDoorGD
set_option linter.all false
namespace Go.Proofs.YtbnmglonbhdcbaaGreatDoor
open Go Go.Vc Go.RowKit Go.Proofs Go.Chk Go.Runs Go.Code

abbrev rI (l : List Int) : List (List Value) := l.map fun n => [.int .i64 n]
set_option maxRecDepth 100000 in
theorem gGood_spec (s : Sl) (z : List Int) (els : Int) (w : World) (hs : RdK w s 1 (rI z)) (hz : ∀ n ∈ z, inI n) (he : inI els) :
    Calls Tryz.prog n_ref13_Goodb #[.agg #[.slice s.a s.n s.c, .int .i64 els]] w fun e w' => ∃ s' : Sl, e = .returned (.agg #[.slice s'.a s'.n s'.c, .int .i64 (around els 3 - 1)]) ∧ OwnK w.heap.size tInt 1 w' s' (rI ((z.take 216).map bGood)) ∧ Ext w w' := by
  apply ref13_Goodb.vc
  have hsn := hs.n
  rw [List.length_map] at hsn
  have hb3 := around_bd els 3 (by decide)
  intro w0 e0 w1 e1 w2 e2
  have z0 : w0.heap.size = w.heap.size + 1 := by rw [e0]; simp
  have z1 : w1.heap.size = w.heap.size + 2 := by rw [e1]; simp [z0]
  have z2 : w2.heap.size = w.heap.size + 3 := by rw [e2]; simp [z1]
  have x2 : Ext w w2 := (((Ext.rfl' w).of_alloc e0).of_alloc e1).of_alloc e2
  have hA : Row w2 w.heap.size [.slice s.a s.n s.c, .int .i64 els] tG := (by rw [e0]; exact Row.new w [_, _] _ : Row w0 w.heap.size [.slice s.a s.n s.c, .int .i64 els] tG).ext (((Ext.rfl' _).of_alloc e1).of_alloc e2)
  have hC : Row w2 w1.heap.size [.slice none 0 0, .int .i64 0] tG := by rw [e2]; exact Row.new w1 [_, _] _
  clear e0 e1 e2
  have wr3 : IntKind.wrap .i64 (around els 3 - 1) = around els 3 - 1 := wrap_in (by unfold inI; omega)
  refine ⟨fun n x s7 x8 w' => ∃ j : Nat, x = j ∧ j + n = z.length ∧ j ≤ 216 ∧ x8 = 0 ∧ OwnK w2.heap.size tInt 1 w' s7 (rI ((z.take j).map bGood)) ∧ Row w' w1.heap.size [.slice s7.a s7.n s7.c, .int .i64 0] tG ∧ Mod (fun i => i = w1.heap.size ∨ w2.heap.size ≤ i) w2 w', ⟨z.length, rfl, rfl, 0, rfl, by omega, by omega, rfl, OwnK.nil, hC, Mod.refl _ _⟩, ?_⟩
  rintro n us x s7 x8 w9 ⟨j, rfl, hj, hj2, rfl, ho, hC9, hM⟩
  have z9 := hM.size
  have x9 : Ext w w9 := hM.ext x2 fun i hi => by omega
  have hA9 := hM.row hA (by omega)
  have hon := (ho.rd (show 0 < 1 by decide)).n
  have fin : (216 ≤ j ∨ z.length ≤ j) → (z.take j) = z.take 216 := fun h => by
    rcases h with h | h
    · have : j = 216 := by omega
      rw [this]
    · rw [List.take_of_length_le h, List.take_of_length_le (by omega)]
  refine Br.mk (fun h1 => Br.mk (fun h2 => ?_) (fun h2 => ?_)) (fun h1 => ?_)
  · simp only [decide_eq_true_eq] at h1 h2
    obtain ⟨y, hy⟩ := get_lt (l := z) (i := j) (by omega)
    have hsx := hs.ext (x9.tr (Ext.dr _))
    have hm : (rI z)[j]? = some [.int .i64 y] := by rw [List.getElem?_map, hy]; rfl
    have hld := hsx.at hm (j := 0) rfl
    rw [padd_zero] at hld
    refine ⟨hs.inB (i := (j : Int)) (by decide) (by omega) h1, y, hld, (ref04_Good_spec y w9.drew (hz y (List.mem_of_getElem? hy))).mono ?_⟩
    rintro e w12 ⟨rfl, hw⟩
    subst hw
    have xd := Ext.dr w9
    have zd : w9.drew.heap.size = w9.heap.size := rfl
    refine ⟨_, rfl, rfl, rfl, rfl, (hA9.ext xd).loadL (fun j hj => by simp at hj; subst hj; rfl), (hC9.ext xd).loadL (fun j hj => by simp at hj; subst hj; rfl), fun w14 e14 => ?_⟩
    subst e14
    rw [List.length_map, List.length_map, List.length_take] at hon
    obtain ⟨hp, hres⟩ := (ho.ext xd).app1 (bytes := 8) (news := [.int .i64 (bGood y)]) (.cells #[.int .i64 (bGood y)] 3) (by omega) rfl (by intro v hv; simp at hv; subst hv; rfl) (by omega) (by omega)
    refine ⟨hp, fun s15 w16 hr => ?_⟩
    obtain ⟨f1, ho16, hn16, xb, hk16, hblk⟩ := hres s15 w16 hr
    have hb7 : ∀ i, i < w2.heap.size → s7.blk ≠ some i := fun i hi e => by have := (ho.own.lt e).1; omega
    have kk : ∀ i, i < w2.heap.size → w16.heap[i]? = (w9.drew.alloc (.cells #[.int .i64 (bGood y)] 3)).heap[i]? := fun i hi => by
      rw [hk16 i (hb7 i hi) (by omega)]
      exact ((Ext.al w9.drew _).heap (by omega)).symm
    have kk' : ∀ i, i < w2.heap.size → w16.heap[i]? = w9.heap[i]? := fun i hi => hk16 i (hb7 i hi) (by omega)
    refine ⟨kk _ (by omega), kk _ (by omega), kk _ (by omega), f1, (hA9.same (kk' _ (by omega))).loadL (fun j hj => by simp at hj; subst hj; rfl), fun w17 e17 => ?_⟩
    have z16 : w9.heap.size ≤ w16.heap.size := xb.size
    have e17' : ∀ i, i ≠ w1.heap.size → w17.heap[i]? = w16.heap[i]? := fun i hi => by rw [e17]; exact setRow_other _ _ _ _ hi
    have z17 : w17.heap.size = w16.heap.size := by rw [e17, setRow_size]
    have hC16 := hC9.same (kk' _ (show w1.heap.size < w2.heap.size by omega))
    have wk : IntKind.wrap .i64 ((j : Int) + 1) = ((j + 1 : Nat) : Int) := by rw [wrap_in (by unfold inI; omega)]; omega
    have ht : rI ((z.take (j + 1)).map bGood) = rI ((z.take j).map bGood) ++ [[.int .i64 (bGood y)]] := by
      rw [List.take_add_one, hy, List.map_append]
      show (List.map bGood (z.take j) ++ [bGood y]).map _ = _
      rw [List.map_append]; rfl
    refine ⟨n - 1, by omega, rfl, rfl, j + 1, wk, by omega, by omega, rfl, ?_, by rw [e17]; exact hC16.set _, ?_⟩
    · rw [ht]
      exact OwnK.keep ho16 fun b hb => e17' b (by have := (ho16.own.lt hb).1; omega)
    · have m917 : Mod (fun i => i = w1.heap.size ∨ w2.heap.size ≤ i) w9 w17 := ⟨by rw [e17]; exact xb.os, by rw [e17]; exact xb.tape, by rw [e17]; exact xb.output, by omega, fun i hi hn => by
        have hn1 : i ≠ w1.heap.size := fun e => hn (.inl e)
        have hn2 : i < w2.heap.size := Nat.lt_of_not_le fun e => hn (.inr e)
        rw [e17' i hn1]; exact kk' i hn2⟩
      exact hM.trans m917
  all_goals
    refine (around_spec els 3 w9 he (by decide) (by unfold inI; omega)).mono ?_
    rintro e w18 ⟨rfl, hw⟩
    subst hw
    refine ⟨_, rfl, rfl, rfl, rfl, fun w20 e20 w21 e21 => ?_⟩
    rw [wr3]
    have e20' : ∀ i, i ≠ w1.heap.size → w20.heap[i]? = w18.heap[i]? := fun i hi => by rw [e20]; exact setRow_other _ _ _ _ hi
    have e21' : ∀ i, i ≠ w0.heap.size → w21.heap[i]? = w20.heap[i]? := fun i hi => by rw [e21]; exact setRow_other _ _ _ _ hi
    refine ⟨s7, rfl, ?_, (x9.of_setRow e20 (by omega)).of_setRow e21 (by omega)⟩
    have hf := fin (by first | (simp only [decide_eq_false_iff_not] at h2; exact .inl (by omega)) | (simp only [decide_eq_false_iff_not] at h1; exact .inr (by omega)))
    rw [← hf]
    exact (OwnK.keep ho fun b hb => by
      have := (ho.own.lt hb).1
      rw [e21' b (by omega), e20' b (by omega)]).low (by omega)
theorem vwClosure_spec (s : Sl) (z : List Int) (els : Int) (bg : Nat) (c : Ce) (w : World) (hr : Row w bg [.slice s.a s.n s.c, .int .i64 els] tG) (hs : RdK w s 1 (rI z)) :
    Calls Tryz.prog n_law13_WorldViews_1 #[cev c, .pointer (some ⟨bg, 0, none⟩)] w fun e w' => e = .returned (.int .i64 (gAt z els c)) ∧ Ext w w' := by
  apply law13_WorldViews_1.vc
  intro w0 e0
  have z0 : w0.heap.size = w.heap.size + 1 := by rw [e0]; simp
  have x0 : Ext w w0 := (Ext.rfl' w).of_alloc e0
  refine ⟨s, els, (hr.ext x0).loadL (fun j hj => by rw [Nat.zero_add]), (gAt_spec s z els c w0 (hs.ext x0)).mono ?_⟩
  rintro e w3 ⟨rfl, x3⟩
  exact ⟨_, rfl, x3.heap (by omega), rfl, x0.tr x3⟩
end Go.Proofs.YtbnmglonbhdcbaaGreatDoor
namespace Go.Proofs.YtbnmglonbhdcbaaGreatDoor
open Go Go.Vc Go.RowKit Go.Proofs Go.Chk Go.Runs Go.Code

def sumN : Nat → (Nat → Nat) → Nat
  | 0, _ => 0
  | n + 1, g => sumN n g + g n
theorem sumN_congr {g h : Nat → Nat} : ∀ {n : Nat}, (∀ i, i < n → g i = h i) → sumN n g = sumN n h
  | 0, _ => rfl
  | n + 1, hh => by
    unfold sumN
    rw [sumN_congr fun i hi => hh i (by omega), hh n (by omega)]
theorem sumN_add (g h : Nat → Nat) : ∀ n : Nat, sumN n (fun i => g i + h i) = sumN n g + sumN n h
  | 0 => rfl
  | n + 1 => by
    show sumN n (fun i => g i + h i) + (g n + h n) = sumN n g + g n + (sumN n h + h n)
    rw [sumN_add g h n]; omega
theorem sumN_zero : ∀ n : Nat, sumN n (fun _ => 0) = 0
  | 0 => rfl
  | n + 1 => by
    show sumN n (fun _ => 0) + 0 = 0
    rw [sumN_zero n]
theorem sumN_swap (g : Nat → Nat → Nat) (n : Nat) : ∀ m : Nat, sumN m (fun i => sumN n fun j => g i j) = sumN n fun j => sumN m fun i => g i j
  | 0 => (sumN_zero n).symm
  | m + 1 => by
    show sumN m (fun i => sumN n fun j => g i j) + sumN n (fun j => g m j) = sumN n fun j => sumN m (fun i => g i j) + g m j
    rw [sumN_swap g n m, sumN_add]
theorem sumN_app (g : Nat → Nat) (a : Nat) : ∀ n : Nat, sumN (a + n) g = sumN a g + sumN n fun j => g (a + j)
  | 0 => by simp [sumN]
  | n + 1 => by
    show sumN (a + n) g + g (a + n) = sumN a g + (sumN n (fun j => g (a + j)) + g (a + n))
    rw [sumN_app g a n]; omega
theorem sumN_mul (g : Nat → Nat) (n : Nat) : ∀ m : Nat, sumN (m * n) g = sumN m fun i => sumN n fun j => g (i * n + j)
  | 0 => by rw [Nat.zero_mul]; rfl
  | m + 1 => by
    rw [Nat.add_mul, Nat.one_mul, sumN_app, sumN_mul g n m]; rfl
theorem cnt_range (p : Nat → Bool) : ∀ n : Nat, (List.range n).countP p = sumN n fun i => if p i then 1 else 0
  | 0 => rfl
  | n + 1 => by
    rw [List.range_succ, List.countP_append, cnt_range p n]
    show _ = sumN n _ + _
    simp [List.countP_cons]
/-- The count of a box's cells, by x, y, z. -/
theorem cnt_box (f : Ce → Int) (k : Int) (a b : Ce) : cntK f k (boxL a b) = sumN (spanK a.1 b.1) fun jx => sumN (spanK a.2.1 b.2.1) fun jy => sumN (spanK a.2.2 b.2.2) fun jz => if f (a.1 + (jx : Int), a.2.1 + (jy : Int), a.2.2 + (jz : Int)) == k then 1 else 0 := by
  unfold cntK boxL
  rw [List.countP_map, cnt_range]
  generalize spanK a.2.1 b.2.1 = ny
  generalize spanK a.2.2 b.2.2 = nz
  generalize spanK a.1 b.1 = nx
  rw [sumN_mul, sumN_mul]
  rw [sumN_swap (fun jx jy => sumN nz fun jz => if f (a.1 + (jx : Int), a.2.1 + (jy : Int), a.2.2 + (jz : Int)) == k then 1 else 0)]
  refine sumN_congr fun jy hy => ?_
  rw [sumN_swap (fun jx jz => if f (a.1 + (jx : Int), a.2.1 + (jy : Int), a.2.2 + (jz : Int)) == k then 1 else 0)]
  refine sumN_congr fun jz hz => sumN_congr fun jx hx => ?_
  obtain ⟨h1, h2⟩ := md_mul (a := jy * nz + jz) hx
  obtain ⟨h3, h4⟩ := md_mul (a := jy) hz
  simp only [Function.comp, h1, h2, h3, h4]
end Go.Proofs.YtbnmglonbhdcbaaGreatDoor
namespace Go.Proofs.YtbnmglonbhdcbaaGreatDoor
open Go Go.Vc Go.RowKit Go.Proofs Go.Chk Go.Runs Go.Code

theorem sumN_le {g : Nat → Nat} {m : Nat} (h : ∀ i, g i ≤ m) : ∀ n : Nat, sumN n g ≤ n * m
  | 0 => Nat.zero_le _
  | n + 1 => by
    show sumN n g + g n ≤ (n + 1) * m
    have := sumN_le h n
    have := h n
    rw [Nat.add_mul, Nat.one_mul]; omega
/-- The corner of a box; the other one. -/
def vFrom (c : Ce) : Ce := (around c.1 8 - 1, around c.2.1 8 - 1, around c.2.2 8 - 1)
def vTo (c d : Ce) : Ce := ((vFrom c).1 + around d.1 9 - 1, (vFrom c).2.1 + around d.2.1 9 - 1, (vFrom c).2.2 + around d.2.2 9 - 1)
theorem v_bd (c d : Ce) : smallC (vFrom c) ∧ smallC (vTo c d) ∧ spanK (vFrom c).1 (vTo c d).1 ≤ 8 ∧ spanK (vFrom c).2.1 (vTo c d).2.1 ≤ 8 ∧ spanK (vFrom c).2.2 (vTo c d).2.2 ≤ 8 := by
  have h1 := around_bd c.1 8 (by decide)
  have h2 := around_bd c.2.1 8 (by decide)
  have h3 := around_bd c.2.2 8 (by decide)
  have h4 := around_bd d.1 9 (by decide)
  have h5 := around_bd d.2.1 9 (by decide)
  have h6 := around_bd d.2.2 9 (by decide)
  unfold smallC vTo vFrom spanK
  simp only
  omega
set_option maxRecDepth 100000 in
theorem WorldViews_law (s : Sl) (G : List Int) (els : Int) (c d : Ce) (b : Int) (w : World) (hs : RdK w s 1 (rI G)) (hG : ∀ n ∈ G, inI n) (he : inI els) (hc : okC c) (hd : okC d) : Calls Tryz.prog n_law13_WorldViews #[.agg #[.slice s.a s.n s.c, .int .i64 els], cev c, cev d, .int .i64 b] w fun e w' => e = .returned (.bool true) ∧ Ext w w' := by
  apply (law13_WorldViews.vc (a0_0 := s))
  intro w0 e0 w1 e1 w2 e2
  have z0 : w0.heap.size = w.heap.size + 1 := by rw [e0]; simp
  have z1 : w1.heap.size = w.heap.size + 2 := by rw [e1]; simp [z0]
  have z2 : w2.heap.size = w.heap.size + 3 := by rw [e2]; simp [z1]
  have x2 : Ext w w2 := (((Ext.rfl' w).of_alloc e0).of_alloc e1).of_alloc e2
  have hC2 : Row w2 w0.heap.size (cR c) tCe := (by rw [e1]; exact Row.new w0 [_, _, _] _ : Row w1 w0.heap.size (cR c) tCe).ext ((Ext.rfl' _).of_alloc e2)
  have hD2 : Row w2 w1.heap.size (cR d) tCe := by rw [e2]; exact Row.new w1 [_, _, _] _
  clear e0 e1 e2
  refine (gGood_spec s G els w2 (hs.ext x2) hG he).mono ?_
  rintro e w3 ⟨s4, rfl, ho, x3⟩
  refine ⟨s4, _, rfl, x3.heap (by omega), x3.heap (by omega), x3.heap (by omega), fun w6 e6 w7 e7 => ?_⟩
  have x67 : Ext w3 w7 := ((Ext.rfl' _).of_alloc e6).of_setRow e7 (Nat.le_refl _)
  have hG7 : Row w7 w3.heap.size [.slice s4.a s4.n s4.c, .int .i64 (around els 3 - 1)] tG := by rw [e7]; exact Row.set (by rw [e6]; exact Row.new w3 [_, _] _) _
  have ho7 := ho.ext x67
  have x7 : Ext w w7 := x2.tr (x3.tr x67)
  have x27 : Ext w2 w7 := x3.tr x67
  have hC7 := hC2.ext x27
  have hD7 := hD2.ext x27
  clear e6 e7 hs hG he
  generalize (G.take 216).map bGood = z at *
  generalize around els 3 - 1 = el at *
  obtain ⟨bdF, bdT, n1, n2, n3⟩ := v_bd c d
  have hf1 : (vFrom c).1 = around c.1 8 - 1 := rfl
  have hf2 : (vFrom c).2.1 = around c.2.1 8 - 1 := rfl
  have hf3 : (vFrom c).2.2 = around c.2.2 8 - 1 := rfl
  have ht1 : (vTo c d).1 = (vFrom c).1 + around d.1 9 - 1 := rfl
  have ht2 : (vTo c d).2.1 = (vFrom c).2.1 + around d.2.1 9 - 1 := rfl
  have ht3 : (vTo c d).2.2 = (vFrom c).2.2 + around d.2.2 9 - 1 := rfl
  have h1 := around_bd c.1 8 (by decide)
  have h2 := around_bd c.2.1 8 (by decide)
  have h3 := around_bd c.2.2 8 (by decide)
  have h4 := around_bd d.1 9 (by decide)
  have h5 := around_bd d.2.1 9 (by decide)
  have h6 := around_bd d.2.2 9 (by decide)
  have q1 : IntKind.wrap .i64 (around c.1 8 - 1) = (vFrom c).1 := by rw [wrap_in (by unfold inI; omega), hf1]
  have q2 : IntKind.wrap .i64 (around c.2.1 8 - 1) = (vFrom c).2.1 := by rw [wrap_in (by unfold inI; omega), hf2]
  have q3 : IntKind.wrap .i64 (around c.2.2 8 - 1) = (vFrom c).2.2 := by rw [wrap_in (by unfold inI; omega), hf3]
  have p1 : IntKind.wrap .i64 (IntKind.wrap .i64 ((vFrom c).1 + around d.1 9) - 1) = (vTo c d).1 := by rw [wrap_in (n := (vFrom c).1 + around d.1 9) (by unfold inI; omega), wrap_in (by unfold inI; omega), ht1]
  have p2 : IntKind.wrap .i64 (IntKind.wrap .i64 ((vFrom c).2.1 + around d.2.1 9) - 1) = (vTo c d).2.1 := by rw [wrap_in (n := (vFrom c).2.1 + around d.2.1 9) (by unfold inI; omega), wrap_in (by unfold inI; omega), ht2]
  have p3 : IntKind.wrap .i64 (IntKind.wrap .i64 ((vFrom c).2.2 + around d.2.2 9) - 1) = (vTo c d).2.2 := by rw [wrap_in (n := (vFrom c).2.2 + around d.2.2 9) (by unfold inI; omega), wrap_in (by unfold inI; omega), ht3]
  have hlt : w.heap.size < w7.heap.size ∧ w0.heap.size < w7.heap.size ∧ w1.heap.size < w7.heap.size := ⟨by have := x27.size; omega, hC7.lt, hD7.lt⟩
  clear h1 h2 h3 h4 h5 h6 hf1 hf2 hf3 ht1 ht2 ht3 hC2 hD2 z0 z1
  have rC : ∀ {w'}, Ext w7 w' → (∀ j v, (cR c)[j]? = some v → LoadL w' (some ⟨w0.heap.size, j, none⟩) 0 [v]) ∧ (∀ j v, (cR d)[j]? = some v → LoadL w' (some ⟨w1.heap.size, j, none⟩) 0 [v]) := fun h =>
    ⟨fun j v hv => (hC7.ext h).loadL (fun i hi => by simp at hi; subst hi; simpa using hv), fun j v hv => (hD7.ext h).loadL (fun i hi => by simp at hi; subst hi; simpa using hv)⟩
  refine ⟨fun p w' => ∃ bf, p = some ⟨bf, 0, none⟩ ∧ Row w' bf (cR (vFrom c)) tCe ∧ Ext w7 w', ?_, ?_⟩
  · have leaf : ∀ wa wb : World, wa = w7.drew.alloc (.cells #[.int .i64 0, .int .i64 0, .int .i64 0] tCe) → wb = wa.setRow w7.drew.heap.size #[.int .i64 (IntKind.wrap .i64 (around c.1 8 - 1)), .int .i64 (IntKind.wrap .i64 (around c.2.1 8 - 1)), .int .i64 (IntKind.wrap .i64 (around c.2.2 8 - 1))] →
        ([.slice s.a s.n s.c, .int .i64 els] : List Value) = [.slice s.a s.n s.c, .int .i64 els] ∧ cR c = cR c ∧ cR d = cR d ∧ ∃ bf, some (Addr.mk w7.drew.heap.size 0 none) = some ⟨bf, 0, none⟩ ∧ Row wb bf (cR (vFrom c)) tCe ∧ Ext w7 wb := by
      intro wa wb ea eb
      rw [q1, q2, q3] at eb
      refine ⟨rfl, rfl, rfl, _, rfl, ?_, ((Ext.dr w7).of_alloc ea).of_setRow eb (Nat.le_refl _)⟩
      rw [eb]; exact Row.set (by rw [ea]; exact Row.new w7.drew [_, _, _] _) _
    have s1 : ∀ w', Calls Tryz.prog n_ref01_Around #[.int .i64 c.1, .int .i64 8] w' fun e w'' => e = .returned (.int .i64 (around c.1 8)) ∧ w'' = w' := fun w' => around_spec _ _ w' hc.1 (by decide) (by unfold inI; omega)
    have s2 : ∀ w', Calls Tryz.prog n_ref01_Around #[.int .i64 c.2.1, .int .i64 8] w' fun e w'' => e = .returned (.int .i64 (around c.2.1 8)) ∧ w'' = w' := fun w' => around_spec _ _ w' hc.2.1 (by decide) (by unfold inI; omega)
    have s3 : ∀ w', Calls Tryz.prog n_ref01_Around #[.int .i64 c.2.2, .int .i64 8] w' fun e w'' => e = .returned (.int .i64 (around c.2.2 8)) ∧ w'' = w' := fun w' => around_spec _ _ w' hc.2.2 (by decide) (by unfold inI; omega)
    have xd := Ext.dr w7
    refine ⟨(s1 _).mono ?_, fun wa ea => ?_⟩
    · rintro e w9 ⟨rfl, hw⟩; subst hw
      refine ⟨_, rfl, rfl, rfl, rfl, (rC xd).1 2 _ rfl, (rC xd).1 1 _ rfl, (s2 _).mono ?_, fun wa ea => ?_⟩
      · rintro e w11 ⟨rfl, hw⟩; subst hw
        refine ⟨_, rfl, rfl, rfl, rfl, (rC xd).1 2 _ rfl, (s3 _).mono ?_, fun wa ea => ?_⟩
        · rintro e w13 ⟨rfl, hw⟩; subst hw
          exact ⟨_, rfl, rfl, rfl, rfl, fun wa ea wb eb => leaf wa wb ea eb, fun wa ea wb eb => leaf wa wb ea eb⟩
        · refine (s3 _).mono ?_
          rintro e w20 ⟨rfl, hw⟩; subst hw
          exact ⟨_, rfl, rfl, rfl, rfl, rfl, fun wb eb => leaf _ wb ea eb⟩
      · have xa := xd.of_alloc ea
        refine (s2 _).mono ?_
        rintro e w24 ⟨rfl, hw⟩; subst hw
        refine ⟨_, rfl, rfl, rfl, rfl, rfl, (rC xa).1 2 _ rfl, (s3 _).mono ?_⟩
        rintro e w26 ⟨rfl, hw⟩; subst hw
        exact ⟨_, rfl, rfl, rfl, rfl, rfl, fun wb eb => leaf _ wb ea eb⟩
    · have xa := xd.of_alloc ea
      refine (s1 _).mono ?_
      rintro e w30 ⟨rfl, hw⟩; subst hw
      refine ⟨_, rfl, rfl, rfl, rfl, rfl, (rC xa).1 2 _ rfl, (rC xa).1 1 _ rfl, (s2 _).mono ?_⟩
      rintro e w32 ⟨rfl, hw⟩; subst hw
      refine ⟨_, rfl, rfl, rfl, rfl, rfl, (rC xa).1 2 _ rfl, (s3 _).mono ?_⟩
      rintro e w34 ⟨rfl, hw⟩; subst hw
      exact ⟨_, rfl, rfl, rfl, rfl, rfl, fun wb eb => leaf _ wb ea eb⟩
  rintro us p w39 ⟨bf, rfl, hF, x39⟩
  refine ⟨fun p w' => ∃ bt, p = some ⟨bt, 0, none⟩ ∧ Row w' bt (cR (vTo c d)) tCe ∧ Row w' bf (cR (vFrom c)) tCe ∧ Ext w7 w', ?_, ?_⟩
  · have leaf : ∀ wa wb : World, wa = w39.drew.alloc (.cells #[.int .i64 0, .int .i64 0, .int .i64 0] tCe) → wb = wa.setRow w39.drew.heap.size #[.int .i64 (IntKind.wrap .i64 (IntKind.wrap .i64 ((vFrom c).1 + around d.1 9) - 1)), .int .i64 (IntKind.wrap .i64 (IntKind.wrap .i64 ((vFrom c).2.1 + around d.2.1 9) - 1)), .int .i64 (IntKind.wrap .i64 (IntKind.wrap .i64 ((vFrom c).2.2 + around d.2.2 9) - 1))] →
        ([.slice s.a s.n s.c, .int .i64 els] : List Value) = [.slice s.a s.n s.c, .int .i64 els] ∧ cR c = cR c ∧ cR d = cR d ∧ ∃ bt, some (Addr.mk w39.drew.heap.size 0 none) = some ⟨bt, 0, none⟩ ∧ Row wb bt (cR (vTo c d)) tCe ∧ Row wb bf (cR (vFrom c)) tCe ∧ Ext w7 wb := by
      intro wa wb ea eb
      rw [p1, p2, p3] at eb
      have xx := ((Ext.dr w39).of_alloc ea).of_setRow eb (Nat.le_refl _)
      refine ⟨rfl, rfl, rfl, _, rfl, ?_, hF.ext xx, x39.tr xx⟩
      rw [eb]; exact Row.set (by rw [ea]; exact Row.new w39.drew [_, _, _] _) _
    have s1 : ∀ w', Calls Tryz.prog n_ref01_Around #[.int .i64 d.1, .int .i64 9] w' fun e w'' => e = .returned (.int .i64 (around d.1 9)) ∧ w'' = w' := fun w' => around_spec _ _ w' hd.1 (by decide) (by unfold inI; omega)
    have s2 : ∀ w', Calls Tryz.prog n_ref01_Around #[.int .i64 d.2.1, .int .i64 9] w' fun e w'' => e = .returned (.int .i64 (around d.2.1 9)) ∧ w'' = w' := fun w' => around_spec _ _ w' hd.2.1 (by decide) (by unfold inI; omega)
    have s3 : ∀ w', Calls Tryz.prog n_ref01_Around #[.int .i64 d.2.2, .int .i64 9] w' fun e w'' => e = .returned (.int .i64 (around d.2.2 9)) ∧ w'' = w' := fun w' => around_spec _ _ w' hd.2.2 (by decide) (by unfold inI; omega)
    have rF : ∀ {w'}, Ext w39 w' → ∀ j v, (cR (vFrom c))[j]? = some v → LoadL w' (padd (some ⟨bf, 0, none⟩) j) 0 [v] := fun h j v hv => by
      rw [padd_row, Nat.zero_add]; exact (hF.ext h).loadL (fun i hi => by simp at hi; subst hi; simpa using hv)
    have xd := Ext.dr w39
    have xd7 := x39.tr xd
    have hFd := hF.ext xd
    refine nnS ⟨(vFrom c).1, hFd.at 0 rfl, nnS ⟨(vFrom c).2.1, hFd.at 1 rfl, nnS ⟨(vFrom c).2.2, hFd.at 2 rfl, ?_⟩⟩⟩
    refine ⟨(s1 _).mono ?_, fun wa ea => ?_⟩
    · rintro e w9 ⟨rfl, hw⟩; subst hw
      refine ⟨_, rfl, rfl, rfl, rfl, (rC xd7).2 2 _ rfl, rF xd 2 _ rfl, (rC xd7).2 1 _ rfl, rF xd 1 _ rfl, rF xd 0 _ rfl, (s2 _).mono ?_, fun wa ea => ?_⟩
      · rintro e w11 ⟨rfl, hw⟩; subst hw
        refine ⟨_, rfl, rfl, rfl, rfl, (rC xd7).2 2 _ rfl, rF xd 2 _ rfl, rF xd 1 _ rfl, rF xd 0 _ rfl, (s3 _).mono ?_, fun wa ea => ?_⟩
        · rintro e w13 ⟨rfl, hw⟩; subst hw
          exact ⟨_, rfl, rfl, rfl, rfl, rF xd 2 _ rfl, rF xd 1 _ rfl, rF xd 0 _ rfl, fun wa ea wb eb => leaf wa wb ea eb, fun wa ea wb eb => leaf wa wb ea eb⟩
        · have xa := xd.of_alloc ea
          refine (s3 _).mono ?_
          rintro e w20 ⟨rfl, hw⟩; subst hw
          exact ⟨_, rfl, rfl, rfl, rfl, rfl, rF xa 2 _ rfl, rF xa 1 _ rfl, rF xa 0 _ rfl, fun wb eb => leaf _ wb ea eb⟩
      · have xa := xd.of_alloc ea
        refine (s2 _).mono ?_
        rintro e w24 ⟨rfl, hw⟩; subst hw
        refine ⟨_, rfl, rfl, rfl, rfl, rfl, (rC (x39.tr xa)).2 2 _ rfl, rF xa 2 _ rfl, rF xa 1 _ rfl, rF xa 0 _ rfl, (s3 _).mono ?_⟩
        rintro e w26 ⟨rfl, hw⟩; subst hw
        exact ⟨_, rfl, rfl, rfl, rfl, rfl, rF xa 2 _ rfl, rF xa 1 _ rfl, rF xa 0 _ rfl, fun wb eb => leaf _ wb ea eb⟩
    · have xa := xd.of_alloc ea
      refine (s1 _).mono ?_
      rintro e w30 ⟨rfl, hw⟩; subst hw
      refine ⟨_, rfl, rfl, rfl, rfl, rfl, (rC (x39.tr xa)).2 2 _ rfl, rF xa 2 _ rfl, (rC (x39.tr xa)).2 1 _ rfl, rF xa 1 _ rfl, rF xa 0 _ rfl, (s2 _).mono ?_⟩
      rintro e w32 ⟨rfl, hw⟩; subst hw
      refine ⟨_, rfl, rfl, rfl, rfl, rfl, (rC (x39.tr xa)).2 2 _ rfl, rF xa 2 _ rfl, rF xa 1 _ rfl, rF xa 0 _ rfl, (s3 _).mono ?_⟩
      rintro e w34 ⟨rfl, hw⟩; subst hw
      exact ⟨_, rfl, rfl, rfl, rfl, rfl, rF xa 2 _ rfl, rF xa 1 _ rfl, rF xa 0 _ rfl, fun wb eb => leaf _ wb ea eb⟩
  clear hF x39
  rintro us2 p w74 ⟨bt, rfl, hT, hF, x74⟩
  clear hC7 hD7 q1 q2 q3 p1 p2 p3 rC
  generalize vFrom c = fr at *
  generalize vTo c d = to at *
  have hall := cnt_box (gAt z el) b fr to
  obtain ⟨F3, hF3⟩ : ∃ F3 : Nat → Nat → Nat → Nat, F3 = fun (jx jy jz : Nat) => if gAt z el (fr.1 + (jx : Int), fr.2.1 + (jy : Int), fr.2.2 + (jz : Int)) == b then 1 else 0 := ⟨_, rfl⟩
  have hall : cntK (gAt z el) b (boxL fr to) = sumN (spanK fr.1 to.1) fun jx => sumN (spanK fr.2.1 to.2.1) fun jy => sumN (spanK fr.2.2 to.2.2) fun jz => F3 jx jy jz := by rw [hall, hF3]
  have F3le : ∀ jx jy jz, F3 jx jy jz ≤ 1 := fun jx jy jz => by rw [hF3]; simp only; split <;> omega
  have F3at : ∀ jx jy jz, F3 jx jy jz = if gAt z el (fr.1 + (jx : Int), fr.2.1 + (jy : Int), fr.2.2 + (jz : Int)) == b then 1 else 0 := fun jx jy jz => by rw [hF3]
  clear hF3
  have hny : ∀ j : Nat, fr.2.1 + (j : Int) ≤ to.2.1 ↔ j < spanK fr.2.1 to.2.1 := fun j => by unfold spanK; omega
  have hnz : ∀ j : Nat, fr.2.2 + (j : Int) ≤ to.2.2 ↔ j < spanK fr.2.2 to.2.2 := fun j => by unfold spanK; omega
  have hnx : ∀ j : Nat, fr.1 + (j : Int) ≤ to.1 ↔ j < spanK fr.1 to.1 := fun j => by unfold spanK; omega
  have bF := bdF
  obtain ⟨⟨f1, f2⟩, ⟨f3, f4⟩, f5, f6⟩ := bdF
  generalize spanK fr.1 to.1 = nx at *
  generalize spanK fr.2.1 to.2.1 = ny at *
  generalize spanK fr.2.2 to.2.2 = nz at *
  have l2 : ∀ jx jy, sumN nz (F3 jx jy) ≤ 8 := fun jx jy => Nat.le_trans (sumN_le (F3le jx jy) nz) (by omega)
  have l1 : ∀ jx, (sumN ny fun jy => sumN nz (F3 jx jy)) ≤ 64 := fun jx => Nat.le_trans (sumN_le (l2 jx) ny) (by have := Nat.mul_le_mul_right 8 n2; omega)
  have l0 : ∀ n, n ≤ 8 → (sumN n fun jx => sumN ny fun jy => sumN nz (F3 jx jy)) ≤ 512 := fun n hn => Nat.le_trans (sumN_le l1 n) (by have := Nat.mul_le_mul_right 64 hn; omega)
  have l1' : ∀ jx n, n ≤ 8 → (sumN n fun jy => sumN nz (F3 jx jy)) ≤ 64 := fun jx n hn => Nat.le_trans (sumN_le (l2 jx) n) (by have := Nat.mul_le_mul_right 8 hn; omega)
  have l2' : ∀ jx jy n, n ≤ 8 → sumN n (F3 jx jy) ≤ 8 := fun jx jy n hn => Nat.le_trans (sumN_le (F3le jx jy) n) (by omega)
  have rF : ∀ {w'}, Ext w74 w' → Row w' bf (cR fr) tCe := fun h => hF.ext h
  have rT : ∀ {w'}, Ext w74 w' → Row w' bt (cR to) tCe := fun h => hT.ext h
  refine nnS ⟨fr.1, hF.at 0 rfl, fun n x v w' => ∃ jx : Nat, x = fr.1 + jx ∧ jx + n = nx ∧ v = ((sumN jx fun jx => sumN ny fun jy => sumN nz (F3 jx jy) : Nat) : Int) ∧ Ext w74 w', ⟨nx, rfl, rfl, rfl, 0, by omega, by omega, rfl, Ext.rfl' _⟩, ?_⟩
  rintro n77 us78 x79 x80 w81 ⟨jx, rfl, hjx, rfl, x81⟩
  refine nnS ⟨to.1, (rT x81).at 0 rfl, Br.mk (fun hc1 => ?_) (fun hc1 => ?_)⟩
  · simp only [decide_eq_true_eq] at hc1
    have lx := (hnx jx).1 hc1
    refine nnS ⟨fr.2.1, (rF x81).at 1 rfl, fun n x v w' => ∃ jy : Nat, x = fr.2.1 + jy ∧ jy + n = ny ∧ v = (((sumN jx fun jx => sumN ny fun jy => sumN nz (F3 jx jy)) + (sumN jy fun jy => sumN nz (F3 jx jy)) : Nat) : Int) ∧ Ext w74 w', ⟨ny, rfl, rfl, rfl, 0, by omega, by omega, rfl, x81⟩, ?_⟩
    clear x81
    rintro n86 us87 x88 x89 w90 ⟨jy, rfl, hjy, rfl, x90⟩
    refine nnS ⟨to.2.1, (rT x90).at 1 rfl, Br.mk (fun hc2 => ?_) (fun hc2 => ?_)⟩
    · simp only [decide_eq_true_eq] at hc2
      have ly := (hny jy).1 hc2
      refine nnS ⟨fr.2.2, (rF x90).at 2 rfl, fun n x v w' => ∃ jz : Nat, x = fr.2.2 + jz ∧ jz + n = nz ∧ v = (((sumN jx fun jx => sumN ny fun jy => sumN nz (F3 jx jy)) + (sumN jy fun jy => sumN nz (F3 jx jy)) + sumN jz (F3 jx jy) : Nat) : Int) ∧ Ext w74 w', ⟨nz, rfl, rfl, rfl, 0, by omega, by omega, rfl, x90⟩, ?_⟩
      clear x90
      rintro n95 us96 x97 x98 w99 ⟨jz, rfl, hjz, rfl, x99⟩
      refine nnS ⟨to.2.2, (rT x99).at 2 rfl, Br.mk (fun hc3 => ?_) (fun hc3 => ?_)⟩
      · simp only [decide_eq_true_eq] at hc3
        have lz := (hnz jz).1 hc3
        have x799 := x74.tr x99
        refine ⟨s4, el, (hG7.ext x799).loadL (fun j hj => by rw [Nat.zero_add]), (gAt_spec s4 z el (fr.1 + (jx : Int), fr.2.1 + (jy : Int), fr.2.2 + (jz : Int)) w99 ((ho7.ext x799).rd (by decide))).mono ?_⟩
        rintro e w104 ⟨rfl, x104⟩
        have z99 := x799.size
        have wk : IntKind.wrap .i64 (fr.2.2 + (jz : Int) + 1) = fr.2.2 + ((jz + 1 : Nat) : Int) := by rw [wrap_in (by unfold inI; omega)]; omega
        have e3 : sumN (jz + 1) (F3 jx jy) = sumN jz (F3 jx jy) + F3 jx jy jz := rfl
        have b0 := l0 jx (by omega)
        have b1 := l1' jx jy (by omega)
        have b2 := l2' jx jy jz (by omega)
        have hat := F3at jx jy jz
        generalize (sumN jx fun jx => sumN ny fun jy => sumN nz (F3 jx jy)) = a0 at *
        generalize (sumN jy fun jy => sumN nz (F3 jx jy)) = a1 at *
        refine ⟨_, rfl, x104.heap (by omega), x104.heap (by omega), x104.heap (by omega), Br.mk (fun hb1 => ?_) (fun hb1 => ?_)⟩
        · rw [if_pos hb1] at hat
          refine ⟨n95 - 1, by omega, rfl, rfl, rfl, jz + 1, wk, by omega, ?_, x99.tr x104⟩
          rw [e3, hat, wrap_in (by unfold inI; omega)]
          omega
        · rw [if_neg (by rw [hb1]; simp)] at hat
          refine ⟨n95 - 1, by omega, rfl, rfl, rfl, jz + 1, wk, by omega, ?_, x99.tr x104⟩
          rw [e3, hat]
          omega
      · simp only [decide_eq_false_iff_not] at hc3
        have e : jz = nz := by have := mt (hnz jz).2 hc3; omega
        subst e
        have wk : IntKind.wrap .i64 (fr.2.1 + (jy : Int) + 1) = fr.2.1 + ((jy + 1 : Nat) : Int) := by rw [wrap_in (by unfold inI; omega)]; omega
        refine ⟨n86 - 1, by omega, rfl, rfl, rfl, jy + 1, wk, by omega, ?_, x99⟩
        rw [Nat.add_assoc]; rfl
    · simp only [decide_eq_false_iff_not] at hc2
      have e : jy = ny := by have := mt (hny jy).2 hc2; omega
      subst e
      have wk : IntKind.wrap .i64 (fr.1 + (jx : Int) + 1) = fr.1 + ((jx + 1 : Nat) : Int) := by rw [wrap_in (by unfold inI; omega)]; omega
      exact ⟨n77 - 1, by omega, rfl, rfl, rfl, jx + 1, wk, by omega, rfl, x90⟩
  · simp only [decide_eq_false_iff_not] at hc1
    have e : jx = nx := by have := mt (hnx jx).2 hc1; omega
    subst e
    rw [← hall]
    have xd := x81.tr (Ext.dr w81)
    have x7d := x74.tr xd
    have hFd := rF xd
    have hGd := hG7.ext x7d
    have zd := x7d.size
    have okf : okC fr := by unfold okC inI; omega
    have hV : ∀ w', (∀ i, (i = w3.heap.size ∨ s4.blk = some i) → w'.heap[i]? = w7.heap[i]?) → ∀ c, okC c → callV Tryz.prog (vwFn w3.heap.size) [cev c] w' fun e w'' => e = .returned (.int .i64 (gAt z el c)) ∧ Ext w' w'' := fun w' hw c hc => by
      refine callV_of (by kernel_rfl) (by rfl) (vwClosure_spec s4 z el w3.heap.size c w' (hG7.same (hw _ (.inl rfl))) (OwnK.rd (OwnK.keep ho7 fun b hb => hw b (.inr hb)) (by decide)))
    have hlt7 : ∀ i, (i = w3.heap.size ∨ s4.blk = some i) → i < w7.heap.size := fun i hi => by
      rcases hi with rfl | hi
      · exact hG7.lt
      · exact (ho7.own.lt hi).2
    refine ⟨fr.1, fr.2.1, fr.2.2, row_at hFd, s4, el, hGd.loadL (fun j hj => by rw [Nat.zero_add]), fr.1, fr.2.1, fr.2.2, row_at hFd, (vSolid_spec (gAt z el) (vwFn w3.heap.size) fr okf w81.drew (fun w' xw c hc => hV w' (fun i hi => (x7d.tr xw).heap (hlt7 i hi)) c hc)).mono ?_⟩
    rintro e w114 ⟨rfl, x114⟩
    have x7e := x7d.tr x114
    refine ⟨_, rfl, x114.heap (by omega), x114.heap (by omega), x114.heap (by omega), row_at (hFd.ext x114), (hG7.ext x7e).loadL (fun j hj => by rw [Nat.zero_add]), (gAt_spec s4 z el fr w114 ((ho7.ext x7e).rd (by decide))).mono ?_⟩
    rintro e w116 ⟨rfl, x116⟩
    have ze := x7e.size
    have x7f := x7e.tr x116
    refine ⟨_, rfl, x116.heap (by omega), x116.heap (by omega), x116.heap (by omega), (ref04_Solid_spec _ w116).mono ?_⟩
    rintro e w118 ⟨rfl, hw⟩
    subst hw
    refine ⟨_, rfl, rfl, rfl, rfl, yes (by simp) ?_⟩
    have xf := xd.tr (x114.tr x116)
    have zf := x7f.size
    refine ⟨_, _, _, row_at (rF xf), _, _, _, row_at (rT xf), (count_spec (gAt z el) (fun i => i = w3.heap.size ∨ s4.blk = some i) (vwFn w3.heap.size) fr to b w118 bF bdT rfl (fun i hi => Nat.lt_of_lt_of_le (hlt7 i hi) zf) (fun w' hw c hc => hV w' (fun i hi => (hw i hi).trans (x7f.heap (hlt7 i hi))) c hc)).mono ?_⟩
    rintro e w126 ⟨rfl, x126⟩
    refine ⟨_, rfl, x126.heap (by omega), x126.heap (by omega), x126.heap (by omega), yes (by simp) ((lives13_spec w126).mono ?_)⟩
    rintro e w128 ⟨rfl, x128⟩
    have zg := x126.size
    exact ⟨_, rfl, x128.heap (by omega), x128.heap (by omega), x128.heap (by omega), rfl, x7.tr (x7f.tr (x126.tr x128))⟩
end Go.Proofs.YtbnmglonbhdcbaaGreatDoor
