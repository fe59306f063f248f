import Derived.Test.YtfipllblcnahdaaDoorQRN
set_option linter.all false
namespace Go.Vc
open Go Go.RowKit

/-! ## Within an owned block -/
theorem putCells_get {cs vs : List Value} {off : Nat} (h : off + vs.length ≤ cs.length) (j : Nat) :
    (putCells cs off vs)[j]? = if j < off then cs[j]? else if j < off + vs.length then vs[j - off]? else cs[j]? := by
  rw [putCells_eq _ _ _ h, List.append_assoc]
  have ht : (cs.take off).length = off := by rw [List.length_take]; omega
  split
  · rename_i h1
    rw [List.getElem?_append_left (by omega), List.getElem?_take, if_pos h1]
  · rename_i h1
    rw [List.getElem?_append_right (by omega), ht]
    split
    · rw [List.getElem?_append_left (by omega)]
    · rw [List.getElem?_append_right (by omega), List.getElem?_drop]
      congr 1; omega
theorem OwnK.form {B E k : Nat} {w : World} {s : Sl} {rows : List (List Value)} (h : OwnK B E k w s rows) (hk : 0 < k) : (s = ⟨none, 0, 0⟩ ∧ rows = []) ∨
    ∃ g cs, s.a = some ⟨g, 0, none⟩ ∧ B ≤ g ∧ Row w g cs E ∧ cs.length = s.c * k ∧ s.n ≤ s.c ∧ cs.take (s.n * k) = rows.flatten ∧ s.n = rows.length := by
  have hn := (h.rd hk).n
  have ho := h.own
  have hf := flatten_len h.wd
  generalize hx : rows.flatten = xs at ho hf
  cases ho with
  | nil => exact .inl ⟨rfl, List.eq_nil_of_length_eq_zero (by rw [← hn])⟩
  | row g n c cs hg hr hc hn' => exact .inr ⟨g, cs, rfl, hg, hr, hc, hn', rfl, hn⟩
theorem OwnK.of_row {B E k : Nat} {w : World} {g n c : Nat} {cs : List Value} {rows : List (List Value)} (hg : B ≤ g) (hr : Row w g cs E) (hc : cs.length = c * k) (hn : n ≤ c) (ht : cs.take (n * k) = rows.flatten) (hw : ∀ r ∈ rows, r.length = k) :
    OwnK B E k w ⟨some ⟨g, 0, none⟩, n, c⟩ rows := ⟨by rw [← ht]; exact .row g n c cs hg hr hc hn, hw⟩
theorem slBase_zero (a : Option Addr) (m size : Nat) : slBase a 0 m size = a := by
  unfold slBase
  split
  · rfl
  · cases a <;> simp [Addr.add]
theorem slBase_row (g l m size : Nat) : slBase (some ⟨g, 0, none⟩) l m size = if m = l then some ⟨g, 0, none⟩ else some ⟨g, l * size, none⟩ := by
  unfold slBase
  split
  · rfl
  · simp [add_loc]
theorem Row.peek {w : World} {g : Nat} {cs vs : List Value} {E : TypeId} (hr : Row w g cs E) {l m size : Nat} (hm : m = l → vs = []) (hv : ∀ j, j < vs.length → cs[l * size + j]? = vs[j]?) : Rd w (slBase (some ⟨g, 0, none⟩) l m size) vs := by
  intro j v hj
  have hlt := (List.getElem?_eq_some_iff.1 hj).1
  rw [slBase_row, if_neg (fun e => by rw [hm e] at hlt; simp at hlt), padd_row, hr.ld, hv j hlt]
  exact hj
theorem Row.poke {w : World} {g : Nat} {cs vs : List Value} {E : TypeId} (hr : Row w g cs E) {l m size : Nat} (hm : m = l → vs = []) (hl : l * size + vs.length ≤ cs.length) (h1 : One vs) :
    Wr w (slBase (some ⟨g, 0, none⟩) l m size) vs.length ∧ Row (Go.Vc.setP w (slBase (some ⟨g, 0, none⟩) l m size) vs) g (putCells cs (l * size) vs) E ∧ Mod (fun i => i = g) w (Go.Vc.setP w (slBase (some ⟨g, 0, none⟩) l m size) vs) := by
  by_cases e : m = l
  · have := hm e
    subst this
    rw [slBase_row, if_pos e]
    exact ⟨fun i hi => by simp at hi, hr, Mod.refl _ _⟩
  · rw [slBase_row, if_neg e, hr.setP hl h1]
    exact ⟨hr.wr hl, hr.set _, ⟨rfl, rfl, rfl, by rw [setRow_size]; exact Nat.le_refl _, fun i _ hn => setRow_other _ _ _ _ hn⟩⟩
theorem Rd_unique {w : World} {a : Option Addr} {xs ys : List Value} (hx : Rd w a xs) (hy : Rd w a ys) (hl : xs.length = ys.length) : xs = ys := by
  apply List.ext_getElem?
  intro i
  rcases Nat.lt_or_ge i xs.length with hi | hi
  · have h1 := hx i xs[i] (List.getElem?_eq_getElem hi)
    have h2 := hy i (ys[i]'(by omega)) (List.getElem?_eq_getElem (by omega))
    rw [h1] at h2
    rw [List.getElem?_eq_getElem hi, List.getElem?_eq_getElem (by omega)]
    exact h2
  · rw [List.getElem?_eq_none hi, List.getElem?_eq_none (by omega)]
theorem Row.rd0 {w : World} {g : Nat} {cs vs : List Value} {E : TypeId} (hr : Row w g cs E) (hv : ∀ j, j < vs.length → cs[j]? = vs[j]?) : Rd w (some ⟨g, 0, none⟩) vs := by
  intro j v hj
  have hlt := (List.getElem?_eq_some_iff.1 hj).1
  rw [padd_row, hr.ld, Nat.zero_add, hv j hlt]
  exact hj
theorem Row.ne {w : World} {g g' : Nat} {cs cs' : List Value} {E E' : TypeId} (hr : Row w g cs E) (hr' : Row w g' cs' E') (hE : E ≠ E') : g ≠ g' := by
  rintro rfl
  have := hr.symm.trans hr'
  simp at this
  exact hE this.2
theorem Row.ne_map {w : World} {g r : Nat} {cs : List Value} {E : TypeId} {G : Value → Prop} {kvs : List (Value × Value)} (hr : Row w g cs E) (hm : MapIs G w (some r) kvs) : g ≠ r := by
  rintro rfl
  exact hm.not_cells _ _ _ hr
theorem MapIs.same {w w' : World} {G : Value → Prop} {r : Nat} {kvs : List (Value × Value)} (hm : MapIs G w (some r) kvs) (h : w'.heap[r]? = w.heap[r]?) : MapIs G w' (some r) kvs := by
  obtain ⟨es, c, h1, h2⟩ := hm
  exact ⟨es, c, h.trans h1, h2⟩
theorem MapIs.lt {w : World} {G : Value → Prop} {r : Nat} {kvs : List (Value × Value)} (hm : MapIs G w (some r) kvs) : r < w.heap.size := by
  obtain ⟨es, c, h1, h2⟩ := hm
  exact (Array.getElem?_eq_some_iff.1 h1).1
theorem MapIs.new {w : World} {G : Value → Prop} : MapIs G (w.alloc (.map #[] 0)) (some w.heap.size) [] :=
  ⟨#[], 0, World.alloc_heap_new w _, rfl, by simp, by simp, by simp, by simp⟩
end Go.Vc
