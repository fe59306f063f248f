import Derived.Test.YtfipllblcnahdaaDoorQPK
set_option linter.all false
namespace Go.Chk
open Go Go.Vc
/-- How high a column is, of the first n cells. -/
def topTo (C : List Int) (i : Int) : Nat → Int
  | 0 => -1
  | n + 1 => if C.getD n 0 ≠ 0 ∧ (n : Int) % 256 = i then (n : Int) / 256 else topTo C i n
def col (x z : Int) : Int := z % 16 * 16 + x % 16
theorem col_in (x z : Int) : 0 ≤ col x z ∧ col x z < 256 := by unfold col; omega
/-- Of whole rows: the highest one that is not air. -/
theorem topTo_none {C : List Int} {i : Int} {n : Nat} (h : ∀ k : Nat, k < n → (k : Int) % 256 = i → C.getD k 0 = 0) : topTo C i n = -1 := by
  induction n with
  | zero => rfl
  | succ n ih =>
    unfold topTo
    rw [if_neg]
    · exact ih fun k hk => h k (by omega)
    · rintro ⟨h1, h2⟩
      exact h1 (h n (by omega) h2)
theorem topTo_at {C : List Int} {i : Int} {n m : Nat} (hm : m < n) (hi : (m : Int) % 256 = i) (hc : C.getD m 0 ≠ 0) (h : ∀ k : Nat, m < k → k < n → (k : Int) % 256 = i → C.getD k 0 = 0) : topTo C i n = (m : Int) / 256 := by
  induction n with
  | zero => omega
  | succ n ih =>
    unfold topTo
    by_cases e : m = n
    · subst e
      rw [if_pos ⟨hc, hi⟩]
    · rw [if_neg]
      · exact ih (by omega) fun k h1 h2 => h k h1 (by omega)
      · rintro ⟨h1, h2⟩
        exact h1 (h n (by omega) (by omega) h2)
end Go.Chk
