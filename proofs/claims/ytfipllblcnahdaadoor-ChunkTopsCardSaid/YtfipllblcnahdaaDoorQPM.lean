import Derived.Test.YtfipllblcnahdaaDoorQPL
set_option linter.all false
namespace Go.Chk
open Go Go.Vc Go.Runs

/-! ## Counting -/
/-- How many numbers below n are such. -/
def cnt : Nat → (Nat → Bool) → Nat
  | 0, _ => 0
  | n + 1, P => cnt n P + (if P n then 1 else 0)
theorem cnt_ext {n : Nat} {P Q : Nat → Bool} (h : ∀ i, i < n → P i = Q i) : cnt n P = cnt n Q := by
  induction n with
  | zero => rfl
  | succ n ih => simp only [cnt]; rw [ih fun i hi => h i (by omega), h n (by omega)]
theorem cnt_le (n : Nat) (P : Nat → Bool) : cnt n P ≤ n := by
  induction n with
  | zero => exact Nat.le_refl _
  | succ n ih => simp only [cnt]; split <;> omega
theorem cnt_add (m n : Nat) (P : Nat → Bool) : cnt (m + n) P = cnt m P + cnt n fun j => P (m + j) := by
  induction n with
  | zero => rfl
  | succ n ih => rw [← Nat.add_assoc]; simp only [cnt]; rw [ih]; omega
theorem cnt_and (n : Nat) (b : Bool) (P : Nat → Bool) : cnt n (fun i => b && P i) = if b then cnt n P else 0 := by
  cases b with
  | true => exact cnt_ext fun i _ => Bool.true_and _
  | false =>
    show cnt n (fun i => false && P i) = 0
    induction n with
    | zero => rfl
    | succ n ih => simp only [cnt, Bool.false_and] at ih ⊢; rw [ih]; rfl
theorem cnt_mul (a b : Nat) (hb : 0 < b) (P Q : Nat → Bool) : cnt (a * b) (fun i => P (i / b) && Q (i % b)) = cnt a P * cnt b Q := by
  induction a with
  | zero => simp [cnt]
  | succ a ih =>
    rw [Nat.succ_mul, cnt_add, ih]
    have : cnt b (fun j => P ((a * b + j) / b) && Q ((a * b + j) % b)) = cnt b (fun j => P a && Q j) := cnt_ext fun j hj => by
      rw [Nat.mul_comm a b, Nat.mul_add_div hb, Nat.mul_add_mod, Nat.div_eq_of_lt hj, Nat.mod_eq_of_lt hj, Nat.add_zero]
    rw [this, cnt_and]
    simp only [cnt]
    split
    · rw [Nat.add_mul, Nat.one_mul]
    · rw [Nat.add_zero, Nat.add_zero]
theorem cnt_icc (n : Nat) (lo hi : Int) : cnt n (fun i => decide (lo ≤ (i : Int)) && decide ((i : Int) ≤ hi)) = (min hi ((n : Int) - 1) - max lo 0 + 1).toNat := by
  induction n with
  | zero => simp only [cnt]; omega
  | succ n ih =>
    simp only [cnt]
    rw [ih]
    by_cases h : lo ≤ (n : Int) ∧ (n : Int) ≤ hi
    · have : (decide (lo ≤ (n : Int)) && decide ((n : Int) ≤ hi)) = true := by simp [h.1, h.2]
      simp only [this, if_true]
      omega
    · have : (decide (lo ≤ (n : Int)) && decide ((n : Int) ≤ hi)) = false := by
        rw [Bool.eq_false_iff]
        intro e
        simp only [Bool.and_eq_true, decide_eq_true_eq] at e
        exact h e
      simp only [this, Bool.false_eq_true, if_false]
      omega

/-! ## A box of cells, filled -/
def inBox (f t c : Ce) : Bool := decide (f.1 ≤ c.1) && decide (c.1 ≤ t.1) && decide (f.2.1 ≤ c.2.1) && decide (c.2.1 ≤ t.2.1) && decide (f.2.2 ≤ c.2.2) && decide (c.2.2 ≤ t.2.2)
theorem inBox_iff (f t c : Ce) : inBox f t c = true ↔ (f.1 ≤ c.1 ∧ c.1 ≤ t.1) ∧ (f.2.1 ≤ c.2.1 ∧ c.2.1 ≤ t.2.1) ∧ f.2.2 ≤ c.2.2 ∧ c.2.2 ≤ t.2.2 := by
  unfold inBox
  simp only [Bool.and_eq_true, decide_eq_true_eq]
  omega
/-- The first k cells are done. -/
def boxTo (p : Po) (C : List Int) (f t : Ce) (b : Int) (k : Nat) : List Int := C.mapIdx fun i y => if i < k ∧ inBox f t (cellAt p i) = true then b else y
def boxC (p : Po) (C : List Int) (f t : Ce) (b : Int) : List Int := C.mapIdx fun i y => if inBox f t (cellAt p i) = true then b else y
def boxN (p : Po) (f t : Ce) (k : Nat) : Nat := cnt k fun i => inBox f t (cellAt p i)
theorem boxTo_len (p : Po) (C : List Int) (f t : Ce) (b : Int) (k : Nat) : (boxTo p C f t b k).length = C.length := by unfold boxTo; simp
theorem boxC_len (p : Po) (C : List Int) (f t : Ce) (b : Int) : (boxC p C f t b).length = C.length := by unfold boxC; simp
theorem boxTo_get (p : Po) (C : List Int) (f t : Ce) (b : Int) (k i : Nat) : (boxTo p C f t b k)[i]? = (C[i]?).map fun y => if i < k ∧ inBox f t (cellAt p i) = true then b else y := by
  unfold boxTo; rw [List.getElem?_mapIdx]
theorem boxTo_zero (p : Po) (C : List Int) (f t : Ce) (b : Int) : boxTo p C f t b 0 = C := by
  apply List.ext_getElem?
  intro i
  rw [boxTo_get]
  cases C[i]? with
  | none => rfl
  | some y => simp
theorem boxTo_all (p : Po) (C : List Int) (f t : Ce) (b : Int) : boxTo p C f t b C.length = boxC p C f t b := by
  apply List.ext_getElem?
  intro i
  rw [boxTo_get]
  unfold boxC
  rw [List.getElem?_mapIdx]
  rcases Nat.lt_or_ge i C.length with h | h
  · simp [h]
  · rw [List.getElem?_eq_none h]; rfl
theorem boxTo_in {p : Po} {C : List Int} {f t : Ce} {b : Int} {k : Nat} (hk : k < C.length) (h : inBox f t (cellAt p k) = true) : (boxTo p C f t b k).set k b = boxTo p C f t b (k + 1) := by
  apply List.ext_getElem?
  intro i
  rw [List.getElem?_set, boxTo_get, boxTo_get, boxTo_len]
  by_cases e : k = i
  · subst e
    rw [if_pos rfl, if_pos hk, List.getElem?_eq_getElem hk]
    simp [h]
  · rw [if_neg e]
    cases C[i]? with
    | none => rfl
    | some y =>
      simp only [Option.map_some]
      congr 1
      by_cases h1 : i < k
      · simp [h1, show i < k + 1 by omega]
      · rw [if_neg (by omega), if_neg (by omega)]
theorem boxTo_out {p : Po} {C : List Int} {f t : Ce} {b : Int} {k : Nat} (h : inBox f t (cellAt p k) = false) : boxTo p C f t b k = boxTo p C f t b (k + 1) := by
  apply List.ext_getElem?
  intro i
  rw [boxTo_get, boxTo_get]
  cases C[i]? with
  | none => rfl
  | some y =>
    simp only [Option.map_some]
    congr 1
    by_cases e : i = k
    · subst e
      rw [if_neg (by omega), if_neg (by rw [h]; simp)]
    · by_cases h1 : i < k
      · simp [h1, show i < k + 1 by omega]
      · rw [if_neg (by omega), if_neg (by omega)]
theorem boxN_in {p : Po} {f t : Ce} {k : Nat} (h : inBox f t (cellAt p k) = true) : boxN p f t (k + 1) = boxN p f t k + 1 := by
  unfold boxN; simp only [cnt]; simp only [h, if_true]
theorem boxN_out {p : Po} {f t : Ce} {k : Nat} (h : inBox f t (cellAt p k) = false) : boxN p f t (k + 1) = boxN p f t k := by
  unfold boxN; simp only [cnt]; simp [h]
theorem boxC_mem {p : Po} {C : List Int} {f t : Ce} {b x : Int} (h : x ∈ boxC p C f t b) : x = b ∨ x ∈ C := by
  obtain ⟨i, hi⟩ := List.getElem?_of_mem h
  unfold boxC at hi
  rw [List.getElem?_mapIdx, Option.map_eq_some_iff] at hi
  obtain ⟨y, hy, hx⟩ := hi
  split at hx
  · exact .inl hx.symm
  · exact .inr (hx ▸ List.mem_of_getElem? hy)
def loX (p : Po) (f : Ce) : Int := max (f.1 - p.1 * 16) 0
def hiX (p : Po) (t : Ce) : Int := min (t.1 - p.1 * 16) 15
def loZ (p : Po) (f : Ce) : Int := max (f.2.2 - p.2 * 16) 0
def hiZ (p : Po) (t : Ce) : Int := min (t.2.2 - p.2 * 16) 15
def loY (f : Ce) : Int := max f.2.1 0
def hiY (t : Ce) : Int := min t.2.1 31
/-- How many rows of a box lie at one height; how many heights there are. -/
def perY (p : Po) (f t : Ce) : Nat := if loX p f ≤ hiX p t then (hiZ p t - loZ p f + 1).toNat else 0
def nY (f t : Ce) : Nat := (hiY t - loY f + 1).toNat
def rowK (p : Po) (f t : Ce) (k : Nat) : Int × Int := (((loY f + (k / perY p f t : Nat)) * 16 + (loZ p f + (k % perY p f t : Nat))) * 16 + loX p f, hiX p t - loX p f + 1)
def rowsX (p : Po) (f t : Ce) : List (List Value) := (List.range (nY f t * perY p f t)).map fun k => [.int .i64 (rowK p f t k).1, .int .i64 (rowK p f t k).2]
theorem rowsX_len (p : Po) (f t : Ce) : (rowsX p f t).length = nY f t * perY p f t := by simp [rowsX]
theorem perY_bd (p : Po) (f t : Ce) : perY p f t ≤ 16 ∧ nY f t ≤ 32 := by
  unfold perY nY hiZ loZ hiY loY
  split <;> omega
theorem rowsX_get {p : Po} {f t : Ce} {j i : Nat} (hj : j < nY f t) (hi : i < perY p f t) : (rowsX p f t)[j * perY p f t + i]? = some [.int .i64 (((loY f + (j : Nat)) * 16 + (loZ p f + (i : Nat))) * 16 + loX p f), .int .i64 (hiX p t - loX p f + 1)] := by
  have hlt : j * perY p f t + i < nY f t * perY p f t := by
    have := Nat.mul_le_mul_right (perY p f t) (show j + 1 ≤ nY f t from hj)
    rw [Nat.add_mul, Nat.one_mul] at this
    omega
  unfold rowsX
  rw [List.getElem?_map, List.getElem?_range hlt]
  unfold rowK
  have hq1 : (j * perY p f t + i) / perY p f t = j := by
    rw [Nat.mul_comm j, Nat.mul_add_div (by omega), Nat.div_eq_of_lt hi, Nat.add_zero]
  have hq2 : (j * perY p f t + i) % perY p f t = i := by
    rw [Nat.mul_comm j, Nat.mul_add_mod, Nat.mod_eq_of_lt hi]
  rw [Option.map_some, hq1, hq2]
theorem rowsX_inv {p : Po} {f t : Ce} {k : Nat} {x y : Int} (h : (rowsX p f t)[k]? = some [.int .i64 x, .int .i64 y]) : k < nY f t * perY p f t ∧ (x, y) = rowK p f t k := by
  have hlt := (List.getElem?_eq_some_iff.1 h).1
  rw [rowsX_len] at hlt
  refine ⟨hlt, ?_⟩
  unfold rowsX at h
  rw [List.getElem?_map, List.getElem?_range hlt] at h
  simp at h
  exact Prod.ext h.1.symm h.2.symm
theorem rowsX_shape (p : Po) (f t : Ce) : ∀ x ∈ rowsX p f t, ∃ (a b : Int), x = [.int .i64 a, .int .i64 b] := by
  intro x hx
  obtain ⟨k, _, rfl⟩ := List.mem_map.1 hx
  exact ⟨_, _, rfl⟩
/-- What a row's place is. -/
theorem rowK_bd {p : Po} {f t : Ce} {k : Nat} (hk : k < nY f t * perY p f t) : ∃ y z : Nat, y < nY f t ∧ z < perY p f t ∧ rowK p f t k = (((loY f + (y : Nat)) * 16 + (loZ p f + (z : Nat))) * 16 + loX p f, hiX p t - loX p f + 1) ∧ loX p f ≤ hiX p t ∧ (perY p f t : Int) = hiZ p t - loZ p f + 1 ∧ (nY f t : Int) = hiY t - loY f + 1 := by
  have hm : 0 < perY p f t := by
    rcases Nat.eq_zero_or_pos (perY p f t) with h | h
    · rw [h] at hk; simp at hk
    · exact h
  have h1 : k / perY p f t < nY f t := by rw [Nat.div_lt_iff_lt_mul hm]; exact hk
  refine ⟨k / perY p f t, k % perY p f t, h1, Nat.mod_lt _ hm, rfl, ?_, ?_, ?_⟩
  · unfold perY at hm
    split at hm
    · assumption
    · omega
  · unfold perY at hm ⊢
    split at hm
    · rename_i h; rw [if_pos h]; omega
    · omega
  · have : 0 < nY f t := Nat.lt_of_le_of_lt (Nat.zero_le _) h1
    unfold nY at this ⊢
    omega
/-- The cells behind the first k rows. -/
def rowsC (p : Po) (C : List Int) (f t : Ce) (b : Int) : Nat → List Int
  | 0 => C
  | k + 1 => fillC (rowsC p C f t b k) (rowK p f t k).1 ((rowK p f t k).1 + (rowK p f t k).2) b
theorem rowsC_len (p : Po) (C : List Int) (f t : Ce) (b : Int) : ∀ k, (rowsC p C f t b k).length = C.length
  | 0 => rfl
  | k + 1 => by show (fillC _ _ _ _).length = _; rw [fillC_len, rowsC_len p C f t b k]
theorem rowsC_may {p : Po} {C : List Int} {f t : Ce} {b : Int} {G : Int → Prop} (hC : ∀ x ∈ C, G x) (hb : G b) : ∀ k, ∀ x ∈ rowsC p C f t b k, G x
  | 0 => hC
  | k + 1 => fun x hx => by
    obtain ⟨i, hi⟩ := List.getElem?_of_mem hx
    change (fillC _ _ _ _)[i]? = _ at hi
    unfold fillC at hi
    rw [List.getElem?_mapIdx, Option.map_eq_some_iff] at hi
    obtain ⟨y, hy, hx⟩ := hi
    split at hx
    · rw [← hx]; exact hb
    · rw [← hx]; exact rowsC_may hC hb k y (List.mem_of_getElem? hy)
def covers (p : Po) (f t : Ce) (k i : Nat) : Prop := ∃ j, j < k ∧ (rowK p f t j).1 ≤ (i : Int) ∧ (i : Int) < (rowK p f t j).1 + (rowK p f t j).2
open Classical in
theorem rowsC_get (p : Po) (C : List Int) (f t : Ce) (b : Int) (i : Nat) : ∀ k, (rowsC p C f t b k)[i]? = (C[i]?).map fun y => if covers p f t k i then b else y
  | 0 => by
    show C[i]? = _
    cases C[i]? with
    | none => rfl
    | some y =>
      rw [Option.map_some, if_neg]
      rintro ⟨j, hj, _⟩; omega
  | k + 1 => by
    show (fillC _ _ _ _)[i]? = _
    unfold fillC
    rw [List.getElem?_mapIdx, rowsC_get p C f t b i k]
    cases C[i]? with
    | none => rfl
    | some y =>
      simp only [Option.map_some]
      congr 1
      by_cases h : (rowK p f t k).1 ≤ (i : Int) ∧ (i : Int) < (rowK p f t k).1 + (rowK p f t k).2
      · rw [if_pos h, if_pos ⟨k, by omega, h⟩]
      · rw [if_neg h]
        by_cases h2 : covers p f t k i
        · obtain ⟨j, hj, h3⟩ := h2
          rw [if_pos ⟨j, hj, h3⟩, if_pos ⟨j, by omega, h3⟩]
        · rw [if_neg h2, if_neg]
          rintro ⟨j, hj, h3⟩
          by_cases e : j = k
          · subst e; exact h h3
          · exact h2 ⟨j, by omega, h3⟩
theorem covers_iff {p : Po} {f t : Ce} {i : Nat} (hi : i < 8192) : covers p f t (nY f t * perY p f t) i ↔ inBox f t (cellAt p i) = true := by
  rw [inBox_iff]
  have hx : (cellAt p i).1 = p.1 * 16 + (i : Int) % 16 := rfl
  have hy : (cellAt p i).2.1 = (i : Int) / 256 := rfl
  have hz : (cellAt p i).2.2 = p.2 * 16 + (i : Int) / 16 % 16 := rfl
  rw [hx, hy, hz]
  constructor
  · rintro ⟨j, hj, h1, h2⟩
    obtain ⟨y, z, hy, hz, e, hxx, ez, ey⟩ := rowK_bd hj
    rw [e] at h1 h2
    simp only at h1 h2
    have x0 : 0 ≤ loX p f ∧ f.1 - p.1 * 16 ≤ loX p f := by unfold loX; omega
    have x1 : hiX p t ≤ 15 ∧ hiX p t ≤ t.1 - p.1 * 16 := by unfold hiX; omega
    have z0 : 0 ≤ loZ p f ∧ f.2.2 - p.2 * 16 ≤ loZ p f := by unfold loZ; omega
    have z1 : hiZ p t ≤ 15 ∧ hiZ p t ≤ t.2.2 - p.2 * 16 := by unfold hiZ; omega
    have y0 : 0 ≤ loY f ∧ f.2.1 ≤ loY f := by unfold loY; omega
    have y1 : hiY t ≤ 31 ∧ hiY t ≤ t.2.1 := by unfold hiY; omega
    generalize loX p f = xa at *
    generalize hiX p t = xb at *
    generalize hgz : loZ p f + (z : Int) = zz at *
    generalize hgy : loY f + (y : Int) = yy at *
    have g1 : 0 ≤ zz ∧ zz ≤ 15 ∧ f.2.2 - p.2 * 16 ≤ zz ∧ zz ≤ t.2.2 - p.2 * 16 := by omega
    have g2 : 0 ≤ yy ∧ f.2.1 ≤ yy ∧ yy ≤ t.2.1 := by omega
    clear hgz hgy ez ey z0 z1 y0 y1 hy hz hj e
    have d1 : (i : Int) / 256 = yy := by omega
    have d2 : (i : Int) / 16 % 16 = zz := by omega
    have d3 : (i : Int) % 16 = (i : Int) - ((yy * 16 + zz) * 16) := by omega
    rw [d1, d2, d3]
    omega
  · rintro ⟨⟨a1, a2⟩, ⟨b1, b2⟩, c1, c2⟩
    have hX : loX p f ≤ hiX p t := by unfold loX hiX; omega
    have hm : perY p f t = (hiZ p t - loZ p f + 1).toNat := by unfold perY; rw [if_pos hX]
    have hn : nY f t = (hiY t - loY f + 1).toNat := rfl
    have hz1 : ((i : Int) / 16 % 16 - loZ p f).toNat < perY p f t := by rw [hm]; unfold loZ hiZ; omega
    have hy1 : ((i : Int) / 256 - loY f).toNat < nY f t := by rw [hn]; unfold loY hiY; omega
    have hrow := rowsX_get hy1 hz1
    obtain ⟨hlt, e⟩ := rowsX_inv hrow
    refine ⟨_, hlt, ?_⟩
    rw [← e]
    simp only
    have x0 : loX p f ≤ (i : Int) % 16 := by unfold loX; omega
    have x1 : (i : Int) % 16 ≤ hiX p t := by unfold hiX; omega
    have z0 : loZ p f ≤ (i : Int) / 16 % 16 := by unfold loZ; omega
    have y0 : loY f ≤ (i : Int) / 256 := by unfold loY; omega
    have ez : loZ p f + (((i : Int) / 16 % 16 - loZ p f).toNat : Int) = (i : Int) / 16 % 16 := by omega
    have ey : loY f + (((i : Int) / 256 - loY f).toNat : Int) = (i : Int) / 256 := by omega
    rw [ez, ey]
    clear ez ey z0 y0 hrow e hlt hz1 hy1 hm hn hX a1 a2 b1 b2 c1 c2 hx hy hz
    omega
theorem rowsC_all {p : Po} {C : List Int} {f t : Ce} {b : Int} (hC : C.length = 8192) : rowsC p C f t b (nY f t * perY p f t) = boxC p C f t b := by
  apply List.ext_getElem?
  intro i
  rw [rowsC_get]
  unfold boxC
  rw [List.getElem?_mapIdx]
  rcases Nat.lt_or_ge i C.length with h | h
  · rw [List.getElem?_eq_getElem h]
    simp only [Option.map_some]
    congr 1
    by_cases hb : inBox f t (cellAt p i) = true
    · rw [if_pos hb, if_pos ((covers_iff (by omega)).2 hb)]
    · rw [if_neg hb, if_neg (fun hc => hb ((covers_iff (by omega)).1 hc))]
  · rw [List.getElem?_eq_none h]; rfl
theorem boxN_all (p : Po) (f t : Ce) : (boxN p f t 8192 : Int) = (nY f t * perY p f t : Nat) * (hiX p t - loX p f + 1) := by
  have h1 : boxN p f t (32 * 256) = cnt (32 * 256) (fun i => (fun y : Nat => decide (f.2.1 ≤ (y : Int)) && decide ((y : Int) ≤ t.2.1)) (i / 256) && (fun j : Nat => (fun z : Nat => decide (f.2.2 - p.2 * 16 ≤ (z : Int)) && decide ((z : Int) ≤ t.2.2 - p.2 * 16)) (j / 16) && (fun x : Nat => decide (f.1 - p.1 * 16 ≤ (x : Int)) && decide ((x : Int) ≤ t.1 - p.1 * 16)) (j % 16)) (i % 256)) := by
    unfold boxN
    refine cnt_ext fun i hi => ?_
    have hx : (cellAt p i).1 = p.1 * 16 + (i : Int) % 16 := rfl
    have hy : (cellAt p i).2.1 = (i : Int) / 256 := rfl
    have hz : (cellAt p i).2.2 = p.2 * 16 + (i : Int) / 16 % 16 := rfl
    rw [Bool.eq_iff_iff, inBox_iff, hx, hy, hz]
    simp only [Bool.and_eq_true, decide_eq_true_eq]
    omega
  have h3 := cnt_mul 32 256 (by decide) (fun y : Nat => decide (f.2.1 ≤ (y : Int)) && decide ((y : Int) ≤ t.2.1)) (fun j : Nat => (fun z : Nat => decide (f.2.2 - p.2 * 16 ≤ (z : Int)) && decide ((z : Int) ≤ t.2.2 - p.2 * 16)) (j / 16) && (fun x : Nat => decide (f.1 - p.1 * 16 ≤ (x : Int)) && decide ((x : Int) ≤ t.1 - p.1 * 16)) (j % 16))
  rw [show (8192 : Nat) = 32 * 256 from rfl, h1, h3]
  have h2 := cnt_mul 16 16 (by decide) (fun z : Nat => decide (f.2.2 - p.2 * 16 ≤ (z : Int)) && decide ((z : Int) ≤ t.2.2 - p.2 * 16)) (fun x : Nat => decide (f.1 - p.1 * 16 ≤ (x : Int)) && decide ((x : Int) ≤ t.1 - p.1 * 16))
  rw [show 16 * 16 = 256 from rfl] at h2
  rw [h2, cnt_icc, cnt_icc, cnt_icc]
  have e1 : (min t.2.1 (((32 : Nat) : Int) - 1) - max f.2.1 0 + 1).toNat = nY f t := rfl
  have e2 : (min (t.2.2 - p.2 * 16) (((16 : Nat) : Int) - 1) - max (f.2.2 - p.2 * 16) 0 + 1).toNat = (hiZ p t - loZ p f + 1).toNat := rfl
  have e3 : (min (t.1 - p.1 * 16) (((16 : Nat) : Int) - 1) - max (f.1 - p.1 * 16) 0 + 1).toNat = (hiX p t - loX p f + 1).toNat := rfl
  rw [e1, e2, e3]
  unfold perY
  split
  · rename_i h
    have : ((hiX p t - loX p f + 1).toNat : Int) = hiX p t - loX p f + 1 := by omega
    rw [Int.natCast_mul, Int.natCast_mul, Int.natCast_mul, Int.mul_assoc, this]
  · rename_i h
    have : (hiX p t - loX p f + 1).toNat = 0 := by omega
    rw [this]
    simp

/-! ## Cut corners -/
def cutK (n : Int) : Int := min (max n (-2147483648)) 2147483648
def cutC (c : Ce) : Ce := (cutK c.1, cutK c.2.1, cutK c.2.2)
def smallP (p : Po) : Prop := (-1000000 ≤ p.1 ∧ p.1 ≤ 1000000) ∧ -1000000 ≤ p.2 ∧ p.2 ≤ 1000000
theorem inBox_cut {p : Po} (hp : smallP p) (f t : Ce) {i : Nat} (hi : i < 8192) : inBox (cutC f) (cutC t) (cellAt p i) = inBox f t (cellAt p i) := by
  have hx : (cellAt p i).1 = p.1 * 16 + (i : Int) % 16 := rfl
  have hy : (cellAt p i).2.1 = (i : Int) / 256 := rfl
  have hz : (cellAt p i).2.2 = p.2 * 16 + (i : Int) / 16 % 16 := rfl
  obtain ⟨⟨p1, p2⟩, p3, p4⟩ := hp
  rw [Bool.eq_iff_iff, inBox_iff, inBox_iff, hx, hy, hz]
  unfold cutC cutK
  simp only
  omega
theorem boxC_cut {p : Po} (hp : smallP p) {C : List Int} (hC : C.length = 8192) (f t : Ce) (b : Int) : boxC p C (cutC f) (cutC t) b = boxC p C f t b := by
  apply List.ext_getElem?
  intro i
  unfold boxC
  rw [List.getElem?_mapIdx, List.getElem?_mapIdx]
  rcases Nat.lt_or_ge i C.length with h | h
  · rw [inBox_cut hp f t (by omega)]
  · rw [List.getElem?_eq_none h]; rfl
theorem boxN_cut {p : Po} (hp : smallP p) (f t : Ce) : boxN p (cutC f) (cutC t) 8192 = boxN p f t 8192 := cnt_ext fun i hi => inBox_cut hp f t hi

/-! ## A chunk that is filled whole -/
theorem boxC_whole {C : List Int} (hC : C.length = 8192) (a : Int) : boxC (0, 0) C (0, 0, 0) (15, 31, 15) a = List.replicate 8192 a ∧ boxN (0, 0) (0, 0, 0) (15, 31, 15) 8192 = 8192 := by
  have hin : ∀ i : Nat, i < 8192 → inBox (0, 0, 0) (15, 31, 15) (cellAt (0, 0) i) = true := fun i hi => by
    rw [inBox_iff]
    unfold cellAt
    simp only
    omega
  refine ⟨?_, ?_⟩
  · apply List.ext_getElem?
    intro i
    unfold boxC
    rw [List.getElem?_mapIdx, List.getElem?_replicate]
    rcases Nat.lt_or_ge i 8192 with h | h
    · rw [List.getElem?_eq_getElem (by omega), if_pos h, Option.map_some, if_pos (hin i h)]
    · rw [List.getElem?_eq_none (by omega), if_neg (by omega)]; rfl
  · have : ∀ k, k ≤ 8192 → boxN (0, 0) (0, 0, 0) (15, 31, 15) k = k := by
      intro k
      unfold boxN
      induction k with
      | zero => intro _; rfl
      | succ k ih => intro h; simp only [cnt]; rw [ih (by omega)]; simp only [hin k (by omega), if_true]
    exact this 8192 (Nat.le_refl _)
theorem nm1 (n a : Int) (h : 1 ≤ n) : Nm [(n, a)] := .snoc [] (n, a) .nil h (by simp)
theorem ofC_rep (n : Nat) (hn : 1 ≤ n) (a : Int) : ofC (List.replicate n a) = [((n : Int), a)] := by
  have := (nm1 (n : Int) a (by omega)).fix
  rw [cellsR_one] at this
  simpa using this
theorem ofC_set {m : Nat} {a b : Int} (hm : m < 8192) : (ofC ((List.replicate 8192 a).set m b)).length = if a = b then 1 else if m = 0 ∨ m = 8191 then 2 else 3 := by
  split
  · rename_i e
    subst e
    rw [show (List.replicate 8192 a).set m a = List.replicate 8192 a from by
      apply List.ext_getElem?
      intro i
      rw [List.getElem?_set, List.getElem?_replicate, List.length_replicate]
      by_cases e : m = i
      · subst e; rw [if_pos rfl, if_pos hm]
      · rw [if_neg e]]
    rw [ofC_rep 8192 (by decide)]; rfl
  · rename_i hne
    have hsp : (List.replicate 8192 a).set m b = List.replicate m a ++ ([b] ++ List.replicate (8191 - m) a) := by
      apply List.ext_getElem?
      intro i
      rw [List.getElem?_set, List.getElem?_replicate, List.length_replicate]
      rcases Nat.lt_trichotomy i m with h | h | h
      · rw [if_neg (by omega), if_pos (by omega), List.getElem?_append_left (by rw [List.length_replicate]; exact h), List.getElem?_replicate, if_pos h]
      · subst h
        rw [if_pos rfl, if_pos hm, List.getElem?_append_right (by rw [List.length_replicate]; exact Nat.le_refl _), List.length_replicate, Nat.sub_self]; rfl
      · rw [if_neg (by omega), List.getElem?_append_right (by rw [List.length_replicate]; omega), List.length_replicate, List.getElem?_append_right (by show 1 ≤ _; omega), List.getElem?_replicate]
        show _ = if i - m - 1 < 8191 - m then _ else _
        by_cases hi : i < 8192
        · rw [if_pos hi, if_pos (by omega)]
        · rw [if_neg hi, if_neg (by omega)]
    have key : ∀ l : List Rn, Nm l → cellsR l = (List.replicate 8192 a).set m b → (ofC ((List.replicate 8192 a).set m b)).length = l.length := fun l h e => by rw [← e, h.fix]
    have hba : b ≠ a := fun e => hne e.symm
    split
    · rename_i h
      rcases h with h | h
      · have e0 : List.replicate m a = [] := by rw [h]; rfl
        refine key [(1, b), (((8191 - m : Nat) : Int), a)] ?_ ?_
        · exact .snoc [(1, b)] (((8191 - m : Nat) : Int), a) (nm1 1 b (by decide)) (show (1 : Int) ≤ ((8191 - m : Nat) : Int) by omega) (fun q hq => by simp at hq; subst hq; exact hba)
        · rw [hsp, e0]; simp [cellsR]
      · have e0 : List.replicate (8191 - m) a = [] := by rw [h]; rfl
        refine key [((m : Int), a), (1, b)] ?_ ?_
        · exact .snoc [((m : Int), a)] (1, b) (nm1 (m : Int) a (by omega)) (show (1 : Int) ≤ 1 by decide) (fun q hq => by simp at hq; subst hq; exact hne)
        · rw [hsp, e0]; simp [cellsR]
    · rename_i h
      refine key [((m : Int), a), (1, b), (((8191 - m : Nat) : Int), a)] ?_ ?_
      · exact .snoc [((m : Int), a), (1, b)] (((8191 - m : Nat) : Int), a) (.snoc [((m : Int), a)] (1, b) (nm1 (m : Int) a (by omega)) (show (1 : Int) ≤ 1 by decide) (fun q hq => by simp at hq; subst hq; exact hne)) (show (1 : Int) ≤ ((8191 - m : Nat) : Int) by omega) (fun q hq => by simp at hq; subst hq; exact hba)
      · rw [hsp]; simp [cellsR]
end Go.Chk
namespace Go.Chk
open Go Go.Vc Go.Runs
theorem rowK_in {p : Po} {f t : Ce} {k : Nat} (hk : k < nY f t * perY p f t) : 0 ≤ (rowK p f t k).1 ∧ (rowK p f t k).1 + (rowK p f t k).2 ≤ 8192 ∧ 1 ≤ (rowK p f t k).2 ∧ (rowK p f t k).2 ≤ 16 ∧ (rowK p f t k).2 = hiX p t - loX p f + 1 := by
  obtain ⟨y, z, hy, hz, e, hx, ez, ey⟩ := rowK_bd hk
  rw [e]
  have x0 : 0 ≤ loX p f := by unfold loX; omega
  have x1 : hiX p t ≤ 15 := by unfold hiX; omega
  have z0 : 0 ≤ loZ p f := by unfold loZ; omega
  have z1 : hiZ p t ≤ 15 := by unfold hiZ; omega
  have y0 : 0 ≤ loY f := by unfold loY; omega
  have y1 : hiY t ≤ 31 := by unfold hiY; omega
  clear e hk
  refine ⟨?_, ?_, ?_, ?_, rfl⟩
  · show 0 ≤ ((loY f + (y : Int)) * 16 + (loZ p f + (z : Int))) * 16 + loX p f
    omega
  · show ((loY f + (y : Int)) * 16 + (loZ p f + (z : Int))) * 16 + loX p f + (hiX p t - loX p f + 1) ≤ 8192
    omega
  · show 1 ≤ hiX p t - loX p f + 1
    omega
  · show hiX p t - loX p f + 1 ≤ 16
    omega
theorem rows_le (p : Po) (f t : Ce) : nY f t * perY p f t ≤ 512 := by
  obtain ⟨h1, h2⟩ := perY_bd p f t
  exact Nat.mul_le_mul h2 h1
end Go.Chk
