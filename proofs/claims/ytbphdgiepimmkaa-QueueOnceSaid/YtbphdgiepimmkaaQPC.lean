import Derived.Test.YtbphdgiepimmkaaQPB
set_option linter.all false
namespace Go.Que
open Go Go.Vc
/-! ## How often each one was told -/
def toldV (l : List It) : List Value := (List.range 30).map fun k : Nat => .int .i64 (if l.any (fun x => x.2.1 == (k : Int)) then 1 else 0)
theorem toldV_nil : toldV [] = zeroRows [.int .i64 0] 30 := by rfl
theorem toldV_len (l : List It) : (toldV l).length = 30 := by simp [toldV]
theorem toldV_get (l : List It) {k : Nat} (hk : k < 30) : (toldV l)[k]? = some (.int .i64 (if l.any (fun x => x.2.1 == (k : Int)) then 1 else 0)) := by
  unfold toldV
  rw [List.getElem?_map, List.getElem?_range hk]; rfl
theorem toldV_set {l : List It} {p k : Nat} {x : It} (hx : l[p]? = some x) (hk : x.2.1 = (k : Int)) (hk30 : k < 30) : (toldV (l.take p)).set k (.int .i64 1) = toldV (l.take (p + 1)) := by
  apply List.ext_getElem?
  intro i
  rw [List.getElem?_set]
  rcases Nat.lt_or_ge i 30 with h | h
  · rw [List.take_add_one, hx]
    split
    · rename_i e
      subst e
      rw [if_pos (by rw [toldV_len]; exact h), toldV_get _ h]
      simp [hk]
    · rename_i e
      rw [toldV_get _ h, toldV_get _ h]
      have : (x.2.1 == (i : Int)) = false := by rw [hk]; simp; omega
      simp only [List.any_append, Option.toList_some, List.any_cons, List.any_nil, this, Bool.or_false]
  · rw [List.getElem?_eq_none (by rw [toldV_len]; exact h), List.getElem?_eq_none (by rw [toldV_len]; exact h), if_neg (by omega)]
theorem told_not {l : List It} (hn : (l.map (·.2)).Nodup) (hc : ∀ x ∈ l, ∃ j : Nat, x.2 = ((j : Int), 0, 0)) {p : Nat} {x : It} (hx : l[p]? = some x) : (l.take p).any (fun y => y.2.1 == x.2.1) = false := by
  rw [List.any_eq_false]
  intro y hy e
  simp only [beq_iff_eq] at e
  obtain ⟨hp, he⟩ := List.getElem?_eq_some_iff.1 hx
  have h2 : y.2 = x.2 := by
    obtain ⟨a, ha⟩ := hc y (List.mem_of_mem_take hy)
    obtain ⟨b, hb⟩ := hc x (he ▸ List.getElem_mem _)
    rw [ha, hb] at e ⊢
    rw [show (a : Int) = b from e]
  have hd : l = l.take p ++ x :: l.drop (p + 1) := by rw [← he, ← List.drop_eq_getElem_cons hp, List.take_append_drop]
  rw [hd, List.map_append, List.map_cons, List.nodup_append] at hn
  exact hn.2.2 y.2 (List.mem_map_of_mem hy) x.2 (List.mem_cons_self ..) h2
end Go.Que
