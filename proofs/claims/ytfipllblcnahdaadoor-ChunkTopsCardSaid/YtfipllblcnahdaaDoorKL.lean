import Derived.Test.YtfipllblcnahdaaDoorKK
set_option linter.all false
namespace Go.Proofs.YtfipllblcnahdaaDoor
open Go Go.Vc Go.RowKit Go.Proofs Go.Chk Go.Runs

theorem okP0 : okP (0, 0) := by unfold okP; decide
theorem okC31 : okC (0, 31, 0) := by unfold okC inI; decide
theorem Turn_k {w0 w w' : World} {g : Nat} (hm : Mod (fun i => i = g) w w') (x : Ext w0 w) (hg : w0.heap.size ≤ g) : Ext w0 w' := hm.ext x fun i hi => by rw [hi]; exact hg
theorem lives11_spec (w : World) : Calls Tryd.prog n_law11_lives #[] w fun e w' => e = .returned (.bool true) ∧ Ext w w' := by
  apply law11_lives.vc
  refine (Make_spec 0 (0, 0) okP0 w).mono ?_
  rintro e w0 ⟨g, s, rfl, h0, x0, hg⟩
  refine ⟨_, rfl, Br.mk (fun h => by cases h) (fun _ => ?_)⟩
  refine (Set_spec h0 (0, 31, 0) okC31 5).mono ?_
  rintro e w2 ⟨rfl, s2, h2, m2, f2⟩
  have x2 := Turn_k m2 x0 hg
  have hin : inK (0, 0) (0, 31, 0) = true := by decide
  have hm5 : bMay 5 = true := by decide +kernel
  have hk : kSet (0, 0) (made 0 (0, 0)) (0, 31, 0) 5 = ((made 0 (0, 0)).set 7936 5, 0) := by
    unfold kSet
    rw [if_neg (by rw [hin]; decide), if_neg (by rw [hm5]; decide)]
    rfl
  rw [hk] at h2 ⊢
  refine ⟨_, rfl, Br.mk (fun _ => ?_) (fun h => by cases h)⟩
  refine (Top_spec h2 0 0).mono ?_
  rintro e w4 ⟨rfl, x4⟩
  have ht : topTo ((made 0 (0, 0)).set 7936 5) (col 0 0) 8192 = 31 := by
    rw [topTo_at (m := 7936) (by decide) (by decide)]
    · rfl
    · rw [List.getD_eq_getElem?_getD, List.getElem?_set_self (by rw [made_len]; decide)]; decide
    · intro k h1 h2 h3
      have : col 0 0 = 0 := by decide
      omega
  rw [ht]
  exact ⟨_, rfl, rfl, x2.tr x4⟩
end Go.Proofs.YtfipllblcnahdaaDoor
