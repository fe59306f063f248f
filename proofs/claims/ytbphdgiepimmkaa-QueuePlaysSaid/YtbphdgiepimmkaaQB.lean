import Derived.Test.YtbphdgiepimmkaaQA
import Derived.Test.YtbphdgiepimmkaaQLB
set_option linter.all false
namespace Go.Proofs.Ytbphdgiepimmkaa
open Go Go.Vc Go.RowKit Go.Proofs Go.Que

theorem rows_wd (l : List It) : ∀ r ∈ l.map itv, r.length = 4 := by
  intro r hr; obtain ⟨x, _, rfl⟩ := List.mem_map.1 hr; rfl
theorem rows_one (l : List It) : ∀ r ∈ l.map itv, One r := by
  intro r hr; obtain ⟨x, _, rfl⟩ := List.mem_map.1 hr
  intro u hu; simp at hu
  rcases hu with rfl | rfl | rfl | rfl <;> rfl
theorem itv_one (x : It) : One (itv x) := by
  intro u hu; simp at hu
  rcases hu with rfl | rfl | rfl | rfl <;> rfl
theorem take_flat (l : List It) (i : Nat) : (l.map itv).flatten.take (i * 4) = ((l.take i).map itv).flatten := by
  have hw := rows_wd (l.take i)
  rcases Nat.lt_or_ge i l.length with h | h
  · conv => lhs; rw [← List.take_append_drop i l, List.map_append, List.flatten_append]
    rw [List.take_left' (by rw [flatten_len hw]; simp; omega)]
  · rw [List.take_of_length_le h, List.take_of_length_le]
    rw [flatten_len (rows_wd l)]; simp; omega
theorem drop_flat (l : List It) (i : Nat) : (l.map itv).flatten.drop (i * 4) = ((l.drop i).map itv).flatten := by
  rcases Nat.lt_or_ge i l.length with h | h
  · conv => lhs; rw [← List.take_append_drop i l, List.map_append, List.flatten_append]
    rw [List.drop_left' (by rw [flatten_len (rows_wd _)]; simp; omega)]
  · rw [List.drop_of_length_le h, List.drop_of_length_le]
    · rfl
    · rw [flatten_len (rows_wd l)]; simp; omega
/-- The cells of a slice's rest. -/
theorem rest_get {cs : List Value} {l : List It} {n : Nat} (ht : cs.take (n * 4) = (l.map itv).flatten) (hn : n = l.length) (i j : Nat) (hj : j < ((l.drop i).map itv).flatten.length) : cs[i * 4 + j]? = ((l.drop i).map itv).flatten[j]? := by
  rw [← drop_flat, List.getElem?_drop, ← ht, List.getElem?_take, if_pos]
  rw [flatten_len (rows_wd _)] at hj
  simp at hj
  omega
theorem overlaps_spec {w : World} {g g' : Nat} {x cs : List Value} (hx : Row w g x tItem) (hr : Row w g' cs tItem) (hne : g ≠ g') (hc : cs.length ≠ 0) (o : Nat) (la ca lb cb : Nat) {R : Ending → World → Prop} (h : R (.returned (.bool false)) w) :
    ExtC Try.prog 40 [.slice (some ⟨g, 0, none⟩) la ca, .slice (some ⟨g', o, none⟩) lb cb] w R := by
  refine ⟨_, ⟨_, rfl, by kernel_rfl, by kernel_rfl, by kernel_rfl⟩, _, _, Lib.run_overlaps_apart w 52 0 tItem (by kernel_rfl) 4 (fun w => by kernel_rfl) ⟨g, 0, none⟩ ⟨g', o, none⟩ la ca lb cb hne tItem tItem x.length cs.length ?_ ?_ hc ?_ ?_, h⟩
  · simp [World.shape?, show w.heap[g]? = _ from hx]
  · simp [World.shape?, show w.heap[g']? = _ from hr]
  · simp [World.frozen?, show w.heap[g]? = _ from hx]
  · simp [World.frozen?, show w.heap[g]? = _ from hx]
theorem overlaps_spec' {w : World} {g g' : Nat} {x cs : List Value} (hx : Row w g x tItem) (hr : Row w g' cs tItem) (hne : g ≠ g') (hc : cs.length ≠ 0) {p : Option Addr} {o : Nat} (hp : p = some ⟨g', o, none⟩) (la ca lb cb : Nat) {R : Ending → World → Prop} (h : R (.returned (.bool false)) w) :
    ExtC Try.prog 40 [.slice (some ⟨g, 0, none⟩) la ca, .slice p lb cb] w R := by
  subst hp; exact overlaps_spec hx hr hne hc o la ca lb cb h
end Go.Proofs.Ytbphdgiepimmkaa
