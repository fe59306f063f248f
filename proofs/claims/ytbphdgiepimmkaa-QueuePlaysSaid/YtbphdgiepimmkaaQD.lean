import Derived.Test.YtbphdgiepimmkaaQC
set_option linter.all false
namespace Go.Proofs.Ytbphdgiepimmkaa
open Go Go.Vc Go.RowKit Go.Proofs Go.Que

theorem RdK.item {w : World} {s : Sl} {l : List It} (h : RdK w s 4 (l.map itv)) {i : Nat} {x : It} (hi : l[i]? = some x) : LoadL w (padd s.a (i * 4)) 0 (itv x) :=
  h.loadL (by rw [List.getElem?_map, hi]; rfl)
/-- Where an item belongs: behind those of its tick. -/
theorem Bin_spec {w : World} {s : Sl} {l : List It} (x : It) (h : RdK w s 4 (l.map itv)) (hs : l.Pairwise fun a b => a.1 ≤ b.1) (hl : l.length ≤ 5000) :
    Calls Try.prog n_slices_BinarySearchFunc_Item #[.slice s.a s.n s.c, .agg (itv x).toArray, .func (.func 32) #[] #[]] w fun e w' => (∃ b, e = .returned (.tuple #[.int .i64 ((l.takeWhile fun y => y.1 ≤ x.1).length : Nat), .bool b])) ∧ Ext w w' := by
  have hn : s.n = l.length := by rw [h.n, List.length_map]
  apply slices_BinarySearchFunc_Item.vc
  intro w0 e0
  have x0 : Ext w w0 := (Ext.rfl' w).of_alloc e0
  have hs0 : w0.heap.size = w.heap.size + 1 := by rw [e0]; simp [World.alloc_eq]
  have hk : (l.takeWhile fun y => decide (y.1 ≤ x.1)).length ≤ l.length := (List.takeWhile_sublist _).length_le
  generalize hkk : (l.takeWhile fun y => decide (y.1 ≤ x.1)).length = k at hk
  have hat : ∀ {i : Nat} {y : It}, l[i]? = some y → (i < k ↔ y.1 ≤ x.1) := fun hi => by rw [← hkk]; exact takeWhile_at hs x.1 hi
  refine ⟨fun n a b wr => Ext w0 wr ∧ ∃ lo hi : Nat, a = lo ∧ b = hi ∧ lo ≤ k ∧ k ≤ hi ∧ hi ≤ l.length ∧ n = hi - lo, ⟨_, rfl, Ext.rfl' _, 0, s.n, rfl, rfl, Nat.zero_le _, by omega, by omega, rfl⟩, ?_⟩
  rintro n us a b wr ⟨xr, lo, hi, rfl, rfl, h1, h2, h3, rfl⟩
  refine Br.mk (fun hlt => ?_) (fun hge => ?_) <;> simp only [decide_eq_true_eq, decide_eq_false_iff_not] at *
  · rw [mid_eq (by omega)]
    have hmid : (lo + hi) / 2 < l.length := by omega
    have hget : l[(lo + hi) / 2]? = some l[(lo + hi) / 2] := List.getElem?_eq_getElem hmid
    generalize l[(lo + hi) / 2] = y at hget
    have hr := (h.ext (x0.tr xr)).ext (Ext.dr wr)
    have hsz := xr.size
    refine ⟨⟨?_, by omega, by omega⟩, y.1, y.2.1, y.2.2.1, y.2.2.2, RdK.item hr hget, ?_⟩
    · exact h.isSome (by decide) (i := (lo + hi) / 2) (by simpa using hmid)
    refine callV_of (by kernel_rfl) rfl ((push1_spec y x _).mono ?_)
    rintro e w2 ⟨⟨z, rfl, hz⟩, x2⟩
    have hz' := (hat hget).trans hz.symm
    have x3 := (xr.tr (Ext.dr wr)).tr x2
    refine ⟨z, rfl, (x2.heap ?_), Br.mk (fun hb => ?_) (fun hb => ?_)⟩
    · show w.heap.size < wr.heap.size
      omega
    · simp only [decide_eq_true_eq] at hb
      have := hz'.2 hb
      have hw : IntKind.wrap .i64 ((((lo + hi) / 2 : Nat) : Int) + 1) = (((lo + hi) / 2 + 1 : Nat) : Int) := by rw [wrap_in (by unfold inI; omega)]; omega
      rw [hw]
      exact ⟨_, by omega, trivial, x3, (lo + hi) / 2 + 1, hi, rfl, rfl, by omega, h2, h3, rfl⟩
    · simp only [decide_eq_false_iff_not] at hb
      have : ¬ (lo + hi) / 2 < k := fun h => hb (hz'.1 h)
      exact ⟨_, by omega, trivial, x3, lo, (lo + hi) / 2, rfl, rfl, h1, by omega, by omega, rfl⟩
  · have : lo = k := by omega
    subst this
    have hr := (h.ext (x0.tr xr)).ext (Ext.dr wr)
    have hsz := xr.size
    refine Br.mk (fun hb => ?_) (fun hb => ⟨⟨_, rfl⟩, x0.tr (xr.tr (Ext.dr _))⟩)
    simp only [decide_eq_true_eq] at hb
    have hget : l[lo]? = some (l[lo]'(by omega)) := List.getElem?_eq_getElem (by omega)
    generalize l[lo]'(by omega) = y at hget
    refine ⟨⟨h.isSome (by decide) (i := lo) (by simp; omega), by omega, by omega⟩, y.1, y.2.1, y.2.2.1, y.2.2.2, RdK.item hr hget, ?_⟩
    refine callV_of (by kernel_rfl) rfl ((push1_spec y x _).mono ?_)
    rintro e w2 ⟨⟨z, rfl, hz⟩, x2⟩
    refine ⟨z, rfl, x2.heap (show w.heap.size < wr.heap.size by omega), ⟨_, rfl⟩, (x0.tr (xr.tr (Ext.dr wr))).tr x2⟩
/-- The first item of a cell. -/
theorem drop1_spec (x : It) {b : Nat} {c : Cl} {w : World} (hb : Row w b (clv c) tCell) : Calls Try.prog n_queue_Queue_Drop_1 #[.agg (itv x).toArray, .pointer (some ⟨b, 0, none⟩)] w fun e w' => e = .returned (.bool (x.2 == c)) ∧ Ext w w' := by
  apply queue_Queue_Drop_1.vc
  intro w0 e0
  have x0 : Ext w w0 := (Ext.rfl' w).of_alloc e0
  exact ⟨c.1, c.2.1, c.2.2, (hb.ext x0).loadL (fun j hj => by rw [Nat.zero_add]), rfl, x0⟩
theorem Index_spec {w : World} {s : Sl} {l : List It} {b : Nat} {c : Cl} (h : RdK w s 4 (l.map itv)) (hb : Row w b (clv c) tCell) (hl : l.length ≤ 5000) :
    Calls Try.prog n_slices_IndexFunc_Item #[.slice s.a s.n s.c, .func (.func 30) #[] #[.pointer (some ⟨b, 0, none⟩)]] w fun e w' => (∃ i : Int, e = .returned (.int .i64 i) ∧ ((i = -1 ∧ ∀ x ∈ l, x.2 ≠ c) ∨ ∃ k : Nat, i = k ∧ k < l.length ∧ (∀ x ∈ l.take k, x.2 ≠ c) ∧ ∀ x, l[k]? = some x → x.2 = c)) ∧ Ext w w' := by
  have hn : s.n = l.length := by rw [h.n, List.length_map]
  apply slices_IndexFunc_Item.vc
  refine ⟨fun n a wr => Ext w wr ∧ ∃ k : Nat, a = k ∧ k + n = l.length ∧ (∀ x ∈ l.take k, x.2 ≠ c), ⟨l.length, Ext.rfl' _, 0, rfl, by omega, by simp⟩, ?_⟩
  rintro n us a wr ⟨xr, k, rfl, h1, h2⟩
  refine Br.mk (fun hlt => ?_) (fun hge => ?_) <;> simp only [decide_eq_true_eq, decide_eq_false_iff_not] at *
  · have hget : l[k]? = some (l[k]'(by omega)) := List.getElem?_eq_getElem (by omega)
    generalize l[k]'(by omega) = y at hget
    refine ⟨⟨h.isSome (by decide) (i := k) (by simp; omega), by omega, by omega⟩, y.1, y.2.1, y.2.2.1, y.2.2.2, RdK.item (h.ext xr) hget, ?_⟩
    refine callV_of (by kernel_rfl) rfl ((drop1_spec y (hb.ext xr)).mono ?_)
    rintro e w2 ⟨rfl, x2⟩
    refine ⟨_, rfl, Br.mk (fun hb => ?_) (fun hb => ?_)⟩
    · refine ⟨⟨_, rfl, .inr ⟨k, rfl, by omega, h2, fun x hx => ?_⟩⟩, xr.tr x2⟩
      rw [hget] at hx; cases hx; simpa using hb
    · have hw : IntKind.wrap .i64 ((k : Int) + 1) = ((k + 1 : Nat) : Int) := by rw [wrap_in (by unfold inI; omega)]; omega
      rw [hw]
      refine ⟨n - 1, by omega, xr.tr x2, k + 1, rfl, by omega, fun x hx => ?_⟩
      rw [List.take_add_one, hget] at hx
      rcases List.mem_append.1 hx with hx | hx
      · exact h2 x hx
      · simp at hx; subst hx; simpa using hb
  · refine ⟨⟨_, rfl, .inl ⟨rfl, ?_⟩⟩, xr⟩
    rw [List.take_of_length_le (by omega)] at h2
    exact h2
end Go.Proofs.Ytbphdgiepimmkaa
