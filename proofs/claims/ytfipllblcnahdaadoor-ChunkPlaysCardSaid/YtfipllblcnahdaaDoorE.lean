import Derived.Test.YtfipllblcnahdaaDoorD
set_option linter.all false
namespace Go.Proofs.YtfipllblcnahdaaDoor
open Go Go.Vc Go.RowKit Go.Proofs

theorem strEq_iff (x y : ByteArray) : strEq x y = true ↔ x = y := by
  unfold strEq
  rw [ByteArray.toList_eq, ByteArray.toList_eq, beq_iff_eq]
  obtain ⟨⟨x⟩⟩ := x
  obtain ⟨⟨y⟩⟩ := y
  simp
theorem nm_get (i : Int) (h0 : 0 ≤ i) (h1 : i < 16) : (nmVal 8)[i.toNat * 1]? = some (.string (bName i)) := by
  have hk : i.toNat < 16 := by omega
  have e : bName i = nmT.getD i.toNat ⟨#[]⟩ := by unfold bName; rw [if_neg (by omega)]
  rw [e, Nat.mul_one]
  generalize i.toNat = k at hk
  have : ∀ k, k < 16 → (nmVal 8)[k]? = some (.string (nmT.getD k ⟨#[]⟩)) := by
    intro k hk
    have : k = 0 ∨ k = 1 ∨ k = 2 ∨ k = 3 ∨ k = 4 ∨ k = 5 ∨ k = 6 ∨ k = 7 ∨ k = 8 ∨ k = 9 ∨ k = 10 ∨ k = 11 ∨ k = 12 ∨ k = 13 ∨ k = 14 ∨ k = 15 := by omega
    rcases this with rfl | rfl | rfl | rfl | rfl | rfl | rfl | rfl | rfl | rfl | rfl | rfl | rfl | rfl | rfl | rfl <;> rfl
  exact this k hk
theorem bName_out (b : Int) (h : b < 0 ∨ 16 ≤ b) : bName b = ⟨#[]⟩ := by
  unfold bName
  rcases h with h | h
  · rw [if_pos h]
  · rw [if_neg (by omega)]
    rw [List.getD_eq_getElem?_getD, List.getElem?_eq_none (by show 16 ≤ b.toNat; omega)]; rfl
theorem bMay_iff (b : Int) : bMay b = true ↔ bName b ≠ ⟨#[]⟩ := by
  by_cases h : b < 0 ∨ 16 ≤ b
  · rw [bName_out b h]
    unfold bMay
    simp; omega
  · have : b = 0 ∨ b = 1 ∨ b = 2 ∨ b = 3 ∨ b = 4 ∨ b = 5 ∨ b = 6 ∨ b = 7 ∨ b = 8 ∨ b = 9 ∨ b = 10 ∨ b = 11 ∨ b = 12 ∨ b = 13 ∨ b = 14 ∨ b = 15 := by omega
    rcases this with rfl | rfl | rfl | rfl | rfl | rfl | rfl | rfl | rfl | rfl | rfl | rfl | rfl | rfl | rfl | rfl <;> decide
theorem block_Name_spec (b : Int) (w : World) : Calls Tryd.prog n_block_Name #[.int .i64 b] w fun e w' => e = .returned (.string (bName b)) ∧ Ext w w' := by
  apply block_Name.vc
  refine Br.mk (fun h => ?_) (fun h => Br.mk (fun h2 => ?_) (fun h2 => ?_)) <;> simp at h
  · rw [bName_out b (.inl h)]; exact ⟨rfl, Ext.rfl' w⟩
  · simp at h2; rw [bName_out b (.inr h2)]; exact ⟨rfl, Ext.rfl' w⟩
  · simp at h2
    refine (block_names_spec w).mono ?_
    rintro e w' ⟨rfl, x⟩
    exact ⟨_, _, _, _, _, _, _, _, _, _, _, _, _, _, _, _, rfl, ⟨h, h2⟩, _, nm_get b h h2, rfl, x⟩
theorem block_May_spec (b : Int) (w : World) : Calls Tryd.prog n_block_May #[.int .i64 b] w fun e w' => e = .returned (.bool (bMay b)) ∧ Ext w w' := by
  apply block_May.vc
  refine (block_Name_spec b w).mono ?_
  rintro e w' ⟨rfl, x⟩
  refine ⟨_, rfl, ?_, x⟩
  congr 2
  rw [Bool.eq_iff_iff, bMay_iff]
  have := strEq_iff (bName b) ⟨#[]⟩
  cases h : strEq (bName b) ⟨#[]⟩ <;> simp_all
/-- The block of a name. -/
def pHit (s : ByteArray) (j : Int) : Bool := bMay j && strEq (bName j) s
def pRes (s : ByteArray) : Int × Bool := match (List.range 16).find? (fun j : Nat => pHit s j) with | some j => ((j : Int), true) | none => (0, false)
theorem pRes_hit {s : ByteArray} {k : Nat} (hk : k < 16) (hn : ∀ j : Nat, j < k → pHit s j = false) (h : pHit s k = true) : pRes s = ((k : Int), true) := by
  have : (List.range 16).find? (fun j : Nat => pHit s j) = some k := by
    rw [List.find?_range_eq_some]
    exact ⟨h, by simpa using hk, fun j hj => by simpa using hn j hj⟩
  unfold pRes
  rw [this]
theorem pRes_none {s : ByteArray} (hn : ∀ j : Nat, j < 16 → pHit s j = false) : pRes s = (0, false) := by
  have : (List.range 16).find? (fun j : Nat => pHit s j) = none := by
    rw [List.find?_range_eq_none]
    exact fun j hj => by simpa using hn j hj
  unfold pRes
  rw [this]
end Go.Proofs.YtfipllblcnahdaaDoor
