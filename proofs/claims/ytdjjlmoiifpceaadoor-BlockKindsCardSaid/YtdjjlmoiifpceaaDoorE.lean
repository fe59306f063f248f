import Derived.Test.YtdjjlmoiifpceaaDoorD
set_option linter.all false
namespace Go.Proofs.YtdjjlmoiifpceaaDoor
open Go Go.Vc Go.RowKit Go.Proofs

theorem strEq_iff (x y : ByteArray) : strEq x y = true ↔ x = y := by
  unfold strEq
  rw [ByteArray.toList_eq, ByteArray.toList_eq, beq_iff_eq]
  obtain ⟨⟨x⟩⟩ := x
  obtain ⟨⟨y⟩⟩ := y
  simp
theorem nm_get (i : Int) (h0 : 0 ≤ i) (h1 : i < 16) : (nmVal 8)[i.toNat * 1]? = some (.string (bName i)) := by
  have hk : i.toNat < 16 := by omega
  have e : bName i = nmT.getD i.toNat ⟨#[]⟩ := by unfold bName; rw [if_neg (by omega)]
  rw [e, Nat.mul_one]
  generalize i.toNat = k at hk
  have : ∀ k, k < 16 → (nmVal 8)[k]? = some (.string (nmT.getD k ⟨#[]⟩)) := by
    intro k hk
    have : k = 0 ∨ k = 1 ∨ k = 2 ∨ k = 3 ∨ k = 4 ∨ k = 5 ∨ k = 6 ∨ k = 7 ∨ k = 8 ∨ k = 9 ∨ k = 10 ∨ k = 11 ∨ k = 12 ∨ k = 13 ∨ k = 14 ∨ k = 15 := by omega
    rcases this with rfl | rfl | rfl | rfl | rfl | rfl | rfl | rfl | rfl | rfl | rfl | rfl | rfl | rfl | rfl | rfl <;> rfl
  exact this k hk
theorem bName_out (b : Int) (h : b < 0 ∨ 16 ≤ b) : bName b = ⟨#[]⟩ := by
  unfold bName
  rcases h with h | h
  · rw [if_pos h]
  · rw [if_neg (by omega)]
    rw [List.getD_eq_getElem?_getD, List.getElem?_eq_none (by show 16 ≤ b.toNat; omega)]; rfl
theorem bMay_iff (b : Int) : bMay b = true ↔ bName b ≠ ⟨#[]⟩ := by
  by_cases h : b < 0 ∨ 16 ≤ b
  · rw [bName_out b h]
    unfold bMay
    simp; omega
  · have : b = 0 ∨ b = 1 ∨ b = 2 ∨ b = 3 ∨ b = 4 ∨ b = 5 ∨ b = 6 ∨ b = 7 ∨ b = 8 ∨ b = 9 ∨ b = 10 ∨ b = 11 ∨ b = 12 ∨ b = 13 ∨ b = 14 ∨ b = 15 := by omega
    rcases this with rfl | rfl | rfl | rfl | rfl | rfl | rfl | rfl | rfl | rfl | rfl | rfl | rfl | rfl | rfl | rfl <;> decide
theorem block_Name_spec (b : Int) (w : World) : Calls Tryd.prog 9 #[.int .i64 b] w fun e w' => e = .returned (.string (bName b)) ∧ Ext w w' := by
  apply block_Name.vc
  refine Br.mk (fun h => ?_) (fun h => Br.mk (fun h2 => ?_) (fun h2 => ?_)) <;> simp at h
  · rw [bName_out b (.inl h)]; exact ⟨rfl, Ext.rfl' w⟩
  · simp at h2; rw [bName_out b (.inr h2)]; exact ⟨rfl, Ext.rfl' w⟩
  · simp at h2
    refine (block_names_spec w).mono ?_
    rintro e w' ⟨rfl, x⟩
    exact ⟨_, _, _, _, _, _, _, _, _, _, _, _, _, _, _, _, rfl, ⟨h, h2⟩, _, nm_get b h h2, rfl, x⟩
theorem block_May_spec (b : Int) (w : World) : Calls Tryd.prog 13 #[.int .i64 b] w fun e w' => e = .returned (.bool (bMay b)) ∧ Ext w w' := by
  apply block_May.vc
  refine (block_Name_spec b w).mono ?_
  rintro e w' ⟨rfl, x⟩
  refine ⟨_, rfl, ?_, x⟩
  congr 2
  rw [Bool.eq_iff_iff, bMay_iff]
  have := strEq_iff (bName b) ⟨#[]⟩
  cases h : strEq (bName b) ⟨#[]⟩ <;> simp_all
theorem ref04_Name_spec (b : Int) (w : World) (hb : inI b) : Calls Tryd.prog 10 #[.int .i64 b] w fun e w' => e = .returned (.string (bName b)) ∧ Ext w w' := by
  apply ref04_Name.vc
  refine (ref04_May_spec b w).mono ?_
  rintro e w' ⟨rfl, rfl⟩
  refine ⟨_, rfl, Br.mk (fun h => ?_) (fun h => Br.mk (fun h2 => ?_) (fun h2 => ?_))⟩
  · have : bName b = ⟨#[]⟩ := by
      have := bMay_iff b
      cases hm : bMay b <;> simp_all
    rw [this]; exact ⟨rfl, Ext.rfl' _⟩
  · simp at h h2
    have hm := h
    unfold bMay at hm
    simp at hm
    unfold inI at hb
    rw [wrap_in (by unfold inI; omega), wrap_in (by unfold inI; omega)]
    have : b = 8 ∨ b = 9 ∨ b = 10 ∨ b = 11 ∨ b = 12 ∨ b = 13 ∨ b = 14 ∨ b = 15 := by omega
    refine ⟨by omega, ?_, by omega, by omega, ?_, ?_, Ext.rfl' _⟩
    · show b - 7 ≤ 8
      omega
    · have : IntKind.i64.max = 9223372036854775807 := by decide
      rcases ‹b = 8 ∨ _› with rfl | rfl | rfl | rfl | rfl | rfl | rfl | rfl <;> decide
    · rcases this with rfl | rfl | rfl | rfl | rfl | rfl | rfl | rfl <;> (congr 2)
  · simp at h h2
    have hm := h
    unfold bMay at hm
    simp at hm
    intro w2 hw2
    have r2 : Row w2 w'.heap.size ((nmT.take 6).map .string) 9 := by rw [hw2]; exact Row.new w' ((nmT.take 6).map .string) 9
    refine ⟨⟨rfl, by omega, by omega⟩, bName b, ?_, rfl, (Ext.rfl' _).of_alloc hw2⟩
    rw [padd_row, r2.ld]
    have : b = 0 ∨ b = 1 ∨ b = 2 ∨ b = 3 ∨ b = 4 ∨ b = 5 := by omega
    rcases this with rfl | rfl | rfl | rfl | rfl | rfl <;> rfl
theorem lives_spec (w : World) : Calls Tryd.prog 12 #[] w fun e w' => e = .returned (.bool true) ∧ Ext w w' := by
  apply law04_lives.vc
  refine (block_Water_spec 3 w (by unfold inI; omega)).mono ?_
  rintro e w' ⟨rfl, rfl⟩
  refine ⟨_, rfl, Br.mk (fun h => ?_) (fun h => absurd h (by decide))⟩
  refine (block_Name_spec 11 w').mono ?_
  rintro e w'' ⟨rfl, x⟩
  exact ⟨_, rfl, by rw [(strEq_iff _ _).2 (by decide)], x⟩
/-- The block of a name. -/
def pHit (s : ByteArray) (j : Int) : Bool := bMay j && strEq (bName j) s
def pRes (s : ByteArray) : Int × Bool := match (List.range 16).find? (fun j : Nat => pHit s j) with | some j => ((j : Int), true) | none => (0, false)
theorem pRes_hit {s : ByteArray} {k : Nat} (hk : k < 16) (hn : ∀ j : Nat, j < k → pHit s j = false) (h : pHit s k = true) : pRes s = ((k : Int), true) := by
  have : (List.range 16).find? (fun j : Nat => pHit s j) = some k := by
    rw [List.find?_range_eq_some]
    exact ⟨h, by simpa using hk, fun j hj => by simpa using hn j hj⟩
  unfold pRes
  rw [this]
theorem pRes_none {s : ByteArray} (hn : ∀ j : Nat, j < 16 → pHit s j = false) : pRes s = (0, false) := by
  have : (List.range 16).find? (fun j : Nat => pHit s j) = none := by
    rw [List.find?_range_eq_none]
    exact fun j hj => by simpa using hn j hj
  unfold pRes
  rw [this]
theorem ref04_Parse_spec (s : ByteArray) (w : World) : Calls Tryd.prog 8 #[.string s] w fun e w' => e = .returned (.tuple #[.int .i64 (pRes s).1, .bool (pRes s).2]) ∧ Ext w w' := by
  apply ref04_Parse.vc
  refine ⟨fun n x wr => ∃ k : Nat, x = k ∧ k + n = 16 ∧ Ext w wr ∧ ∀ j : Nat, j < k → pHit s j = false, ⟨16, 0, rfl, rfl, Ext.rfl' w, fun j hj => by omega⟩, ?_⟩
  rintro n us x wr ⟨k, rfl, hk, xr, hn⟩
  refine Br.mk (fun h => ?_) (fun h => ?_) <;> simp at h
  · have hw := wrap_in (n := (k : Int) + 1) (by unfold inI; omega)
    refine (ref04_May_spec k wr).mono ?_
    rintro e w' ⟨rfl, rfl⟩
    refine ⟨_, rfl, Br.mk (fun h1 => ?_) (fun h1 => ?_)⟩
    · refine (ref04_Name_spec k w' (by unfold inI; omega)).mono ?_
      rintro e w'' ⟨rfl, x2⟩
      refine ⟨_, rfl, Br.mk (fun h2 => ?_) (fun h2 => ?_)⟩
      · rw [pRes_hit (by omega) hn (by unfold pHit; rw [h1, h2]; rfl)]
        exact ⟨rfl, xr.tr x2⟩
      · refine ⟨n - 1, by omega, k + 1, by omega, by omega, xr.tr x2, fun j hj => ?_⟩
        rcases Nat.lt_or_ge j k with hlt | hge
        · exact hn j hlt
        · obtain rfl : j = k := by omega
          unfold pHit; rw [h2]; simp
    · refine ⟨n - 1, by omega, k + 1, by omega, by omega, xr, fun j hj => ?_⟩
      rcases Nat.lt_or_ge j k with hlt | hge
      · exact hn j hlt
      · obtain rfl : j = k := by omega
        unfold pHit; rw [h1]; rfl
  · rw [pRes_none (fun j hj => hn j (by omega))]
    exact ⟨rfl, xr⟩
theorem block_Parse_spec (s : ByteArray) (w : World) : Calls Tryd.prog 7 #[.string s] w fun e w' => e = .returned (.tuple #[.int .i64 (pRes s).1, .bool (pRes s).2]) ∧ Ext w w' := by
  apply block_Parse.vc
  refine (block_names_spec w).mono ?_
  rintro e w0 ⟨rfl, x0⟩
  refine ⟨_, _, _, _, _, _, _, _, _, _, _, _, _, _, _, _, rfl, ?_⟩
  refine ⟨fun n x wr => ∃ k : Nat, x = k ∧ k + n = 16 ∧ Ext w wr ∧ ∀ j : Nat, j < k → pHit s j = false, ⟨16, 0, rfl, rfl, x0, fun j hj => by omega⟩, ?_⟩
  rintro n us x wr ⟨k, rfl, hk, xr, hn⟩
  refine Br.mk (fun h => ?_) (fun h => ?_) <;> simp at h
  · have hw := wrap_in (n := (k : Int) + 1) (by unfold inI; omega)
    have next : pHit s k = false → ∃ n22, n22 < n ∧ ∃ k_1 : Nat, IntKind.wrap .i64 ((k : Int) + 1) = ↑k_1 ∧ k_1 + n22 = 16 ∧ Ext w wr ∧ ∀ j : Nat, j < k_1 → pHit s ↑j = false := by
      intro hf
      refine ⟨n - 1, by omega, k + 1, by omega, by omega, xr, fun j hj => ?_⟩
      rcases Nat.lt_or_ge j k with hlt | hge
      · exact hn j hlt
      · obtain rfl : j = k := by omega
        exact hf
    refine ⟨⟨by omega, h⟩, _, nm_get k (by omega) h, Br.mk (fun h1 => Br.mk (fun h2 => ?_) (fun h2 => ?_)) (fun h1 => ?_)⟩
    · have hm : bMay k = true := by
        rw [bMay_iff]
        intro e
        rw [strEq_iff] at h1
        rw [e] at h1
        simp [← h1] at h2
        exact absurd ((strEq_iff ⟨#[]⟩ ⟨#[]⟩).2 rfl) (by simp [h2])
      rw [pRes_hit (by omega) hn (by unfold pHit; rw [hm, h1]; rfl)]
      exact ⟨rfl, xr⟩
    · refine next ?_
      have h2' : strEq s ⟨#[]⟩ = true := by simpa using h2
      rw [strEq_iff] at h1 h2'
      have : bMay k = false := by
        have := bMay_iff k
        cases hm : bMay k <;> simp_all
      unfold pHit; rw [this]; rfl
    · exact next (by unfold pHit; rw [h1]; simp)
  · rw [pRes_none (fun j hj => hn j (by omega))]
    exact ⟨rfl, xr⟩
end Go.Proofs.YtdjjlmoiifpceaaDoor
