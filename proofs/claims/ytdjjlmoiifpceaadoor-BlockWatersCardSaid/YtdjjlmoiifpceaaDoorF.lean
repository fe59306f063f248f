import Derived.Test.YtdjjlmoiifpceaaDoorE
set_option linter.all false
namespace Go.Proofs.YtdjjlmoiifpceaaDoor
open Go Go.Vc Go.RowKit Go.Proofs

/-- The placeable blocks below k, as cells. -/
def lst (k : Nat) : List Value := (((List.range k).filter fun j : Nat => bMay j).map fun j : Nat => .int .i64 (j : Int))
theorem lst_succ (k : Nat) : lst (k + 1) = if bMay k then lst k ++ [.int .i64 (k : Int)] else lst k := by
  unfold lst
  rw [List.range_succ, List.filter_append, List.map_append]
  cases h : bMay k <;> simp [h]
theorem lst_le (k : Nat) : (lst k).length ≤ k := by
  unfold lst
  rw [List.length_map]
  exact Nat.le_trans (List.length_filter_le _ _) (by simp)
theorem bMay_str (x : Nat) (hx : x < 16) : strEq (bName x) ⟨#[]⟩ = !bMay x := by
  have := bMay_iff x
  cases h : strEq (bName x) ⟨#[]⟩ <;> cases h' : bMay x <;> simp_all
  · exact absurd ((strEq_iff ⟨#[]⟩ ⟨#[]⟩).2 rfl) (by rw [h]; decide)
  · exact this ((strEq_iff _ _).1 h)
theorem block_All_spec (w : World) : Calls Tryd.prog 15 #[] w fun e w' => ∃ s : Sl, e = .returned (.slice s.a s.n s.c) ∧ Own w.heap.size 3 1 w' s (lst 16) ∧ Ext w w' := by
  apply block_All.vc
  refine (block_names_spec w).mono ?_
  rintro e w0 ⟨rfl, x0⟩
  refine ⟨_, _, _, _, _, _, _, _, _, _, _, _, _, _, _, _, rfl, ?_⟩
  refine ⟨fun n x s wr => ∃ k : Nat, x = k ∧ k + n = 16 ∧ Ext w wr ∧ Own w.heap.size 3 1 wr s (lst k), ⟨16, 0, rfl, rfl, x0, .nil⟩, ?_⟩
  rintro n us x s wr ⟨k, rfl, hk, xr, ho⟩
  refine Br.mk (fun h => ?_) (fun h => ?_) <;> simp at h
  · have hw := wrap_in (n := (k : Int) + 1) (by unfold inI; omega)
    have hm := bMay_str k (by omega)
    refine ⟨⟨by omega, h⟩, _, nm_get k (by omega) h, Br.mk (fun h1 => ?_) (fun h1 => ?_)⟩
    · rintro w1 rfl
      have xa := Ext.al wr (.cells #[.int .i64 (k : Int)] 3)
      have hl := ho.len
      have hle := lst_le k
      obtain ⟨hp, hr⟩ := (ho.ext xa).append (bytes := 8) (m := 1) (news := [.int .i64 (k : Int)]) (xr.tr xa).size rfl (by intro v hv; simp at hv; subst hv; rfl) (by omega) (by omega)
      refine ⟨hp, fun s' w2 hr' => ?_⟩
      obtain ⟨ho', hn', xb, hkp, _⟩ := hr s' w2 hr'
      refine ⟨hkp _ (fun hb => absurd (ho.lt hb).2 (Nat.lt_irrefl _)) (by simp), n - 1, by omega, k + 1, by omega, by omega, (xr.tr xa).trans xb, ?_⟩
      rw [lst_succ, if_pos (by rw [hm] at h1; simpa using h1)]
      exact ho'
    · refine ⟨n - 1, by omega, k + 1, by omega, by omega, xr, ?_⟩
      rw [lst_succ, if_neg (by rw [hm] at h1; simp at h1; simp [h1])]
      exact ho
  · obtain rfl : k = 16 := by omega
    exact ⟨s, rfl, ho, xr⟩
end Go.Proofs.YtdjjlmoiifpceaaDoor
