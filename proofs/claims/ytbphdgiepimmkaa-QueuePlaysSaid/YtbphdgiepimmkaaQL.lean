import Derived.Test.YtbphdgiepimmkaaQK
set_option linter.all false
namespace Go.Proofs.Ytbphdgiepimmkaa
open Go Go.Vc Go.RowKit Go.Proofs Go.Que

set_option hygiene false in
local macro "keeps" h:term : tactic => `(tactic| repeat (refine And.intro (($h).block _ (by omega)) ?_))
theorem qdrop_at {l : List It} (hn : (l.map (·.2)).Nodup) {k : Nat} {x : It} (hx : l[k]? = some x) : qdrop l x.2 = l.take k ++ l.drop (k + 1) := by
  obtain ⟨hlt, he⟩ := List.getElem?_eq_some_iff.1 hx
  have hd : l = l.take k ++ x :: l.drop (k + 1) := by rw [← he, ← List.drop_eq_getElem_cons hlt, List.take_append_drop]
  have hn2 := hn
  rw [hd, List.map_append, List.map_cons, List.nodup_append] at hn2
  unfold qdrop
  conv => lhs; rw [hd]
  rw [List.filter_append, List.filter_cons_of_neg (by simp), List.filter_eq_self.2 fun y hy => ?_, List.filter_eq_self.2 fun y hy => ?_]
  · have h1 := (List.nodup_cons.1 hn2.2.1).1
    have : y.2 ≠ x.2 := fun e => h1 (e ▸ List.mem_map_of_mem hy)
    simpa using this
  · have := hn2.2.2 y.2 (List.mem_map_of_mem hy) x.2 (List.mem_cons_self ..)
    simpa using this
/-- Rows appended to none. -/
theorem app_first {w : World} {s : Sl} {l : List It} (ho : OwnK 0 tX 4 w s (l.map itv)) {k : Nat} (hk : k ≤ l.length) (hl : l.length ≤ 5000) (c' : Nat) :
    Rd w (slBase s.a 0 c' 4) ((l.take k).map itv).flatten ∧ AppPre 32 4 w ⟨none, 0, 0⟩ k ((l.take k).map itv).flatten ∧ ∀ s' w', AppRes 67 4 w ⟨none, 0, 0⟩ k ((l.take k).map itv).flatten s' w' →
      OwnK w.heap.size tX 4 w' s' ((l.take k).map itv) ∧ Ext w w' ∧ s'.n = k := by
  have hn : s.n = l.length := by rw [(ho.rd (by decide)).n, List.length_map]
  have hlen : ((l.take k).map itv).length = k := by rw [List.length_map, List.length_take]; omega
  obtain ⟨hp, hr⟩ := (OwnK.nil (B := w.heap.size) (E := tX) (k := 4) (w := w)).appN (bytes := 32) (more := (l.take k).map itv) (Nat.le_refl _) (rows_wd _) (rows_one _) (by rw [hlen]; simp; omega) (by rw [hlen]; simp; omega)
  rw [hlen] at hp hr
  refine ⟨?_, hp, fun s' w' hres => ?_⟩
  · have := ((ho.rd (by decide)).cut (m := k) (c' := c') (c'' := 0) (by simpa using hk)).flat (by decide)
    rw [← List.map_take] at this
    exact this
  · obtain ⟨h1, h2, h3, h4, h5⟩ := hr s' w' hres
    exact ⟨h1, h3, by simpa using h2⟩
/-- A slice's rest appended to one that is new. -/
theorem app_rest {w : World} {B : Nat} {s d : Sl} {l r : List It} (ho : OwnK 0 tX 4 w s (l.map itv)) (hd : OwnK B tX 4 w d (r.map itv)) (hB : B ≤ w.heap.size) {k : Nat} (hl : l.length ≤ 5000) (hr : r.length ≤ 5000) :
    Rd w (slBase s.a k s.c 4) ((l.drop k).map itv).flatten ∧ AppPre 32 4 w ⟨d.a, d.n, d.c⟩ (s.n - k) ((l.drop k).map itv).flatten ∧ ∀ s' w', AppRes 67 4 w ⟨d.a, d.n, d.c⟩ (s.n - k) ((l.drop k).map itv).flatten s' w' →
      OwnK B tX 4 w' s' ((r ++ l.drop k).map itv) ∧ Below B w w' ∧ ∀ j, d.blk ≠ some j → j < w.heap.size → w'.heap[j]? = w.heap[j]? := by
  have hn : s.n = l.length := by rw [(ho.rd (by decide)).n, List.length_map]
  have hdn : d.n = r.length := by rw [(hd.rd (by decide)).n, List.length_map]
  have hc := Own_cap ho (by decide)
  have hlen : ((l.drop k).map itv).length = s.n - k := by rw [List.length_map, List.length_drop]; omega
  obtain ⟨hp, hr⟩ := hd.appN (bytes := 32) (more := (l.drop k).map itv) hB (rows_wd _) (rows_one _) (by rw [hlen]; omega) (by rw [hlen]; omega)
  rw [hlen] at hp hr
  refine ⟨?_, hp, fun s' w' hres => ?_⟩
  · have := ((ho.rd (by decide)).rest (l := k) (m := s.c) (n' := l.length - k) (c' := 0) (by simp) (fun e => by simp; omega)).flat (by decide)
    rw [← List.map_drop] at this
    exact this
  · obtain ⟨h1, h2, h3, h4, h5⟩ := hr s' w' hres
    exact ⟨by rw [List.map_append]; exact h1, h3, h4⟩
theorem OwnK.boxed {B : Nat} {w w' : World} {s : Sl} {l : List It} (ho : OwnK B tX 4 w s (l.map itv)) {b : Nat} (hb : b < B) {cs : Array Value} (e : w' = w.setRow b cs) : OwnK B tX 4 w' s (l.map itv) := by
  subst e
  exact ho.keep fun g hg => setRow_other _ _ _ _ (by have := (ho.own.lt hg).1; omega)
theorem rDrop_spec {w : World} {s : Sl} {l : List It} (ho : OwnK 0 tX 4 w s (l.map itv)) (hn : (l.map (·.2)).Nodup) (hl : l.length ≤ 5000) (room lost : Int) (c : Cl) :
    Calls Try.prog n_ref17_Drop #[.agg #[.int .i64 room, .int .i64 lost, .slice s.a s.n s.c], cv c] w fun e w' => (∃ s' : Sl, e = .returned (.tuple #[.agg #[.int .i64 room, .int .i64 lost, .slice s'.a s'.n s'.c], .bool (qtick l c).isSome]) ∧ OwnK 0 tX 4 w' s' ((qdrop l c).map itv)) ∧ Ext w w' := by
  apply ref17_Drop.vc
  have hsn : s.n = l.length := by rw [(ho.rd (by decide)).n, List.length_map]
  have hcap := Own_cap ho (by decide)
  intro w0 e0 w1 e1 w2 e2
  have x2 : Ext w w2 := (((Ext.rfl' w).of_alloc e0).of_alloc e1).of_alloc e2
  have z0 : w0.heap.size = w.heap.size + 1 := by rw [e0]; simp
  have z1 : w1.heap.size = w.heap.size + 2 := by rw [e1]; simp [z0]
  have z2 : w2.heap.size = w.heap.size + 3 := by rw [e2]; simp [z1]
  refine (rFind_spec ((ho.ext x2).rd (by decide)) hl room lost c).mono ?_
  rintro e w3 ⟨rfl, x3⟩
  have x03 := x2.tr x3
  have z3 := x3.size
  refine ⟨_, rfl, ?_⟩
  keeps x3
  rcases qfind_cases l c with ⟨hf, hall, hq⟩ | ⟨k, x, hf, hx, hc, hbef, hq⟩
  · rw [hf]
    refine Br.mk (fun _ => ?_) (fun h => by simp at h)
    intro w5 e5
    have : qdrop l c = l := by unfold qdrop; rw [List.filter_eq_self]; intro y hy; simpa using hall y hy
    rw [this, hq]
    exact ⟨⟨s, rfl, (ho.ext (x03.of_setRow e5 (by omega)))⟩, x03.of_setRow e5 (by omega)⟩
  · rw [hf]
    obtain ⟨hlt, -⟩ := List.getElem?_eq_some_iff.1 hx
    refine Br.mk (fun h => by simp at h; omega) (fun _ => ?_)
    have hw : IntKind.wrap .i64 ((k : Int) + 1) = ((k + 1 : Nat) : Int) := by rw [wrap_in (by unfold inI; omega)]; omega
    rw [hw]
    simp only [Int.toNat_natCast, Nat.sub_zero]
    have h3 := ho.ext x03
    obtain ⟨a1, a2, a3⟩ := app_first h3 (k := k) (by omega) hl s.c
    refine ⟨by omega, by omega, _, a1, a2, fun s7 w8 hres => ?_⟩
    obtain ⟨b1, b2, b3⟩ := a3 s7 w8 hres
    keeps b2
    have h8 := h3.ext b2
    obtain ⟨c1, c2, c3⟩ := app_rest (k := k + 1) h8 b1 b2.size hl (by rw [List.length_take]; omega)
    refine ⟨by omega, by omega, _, c1, c2, fun s10 w11 hres2 => ?_⟩
    obtain ⟨d1, d2, -⟩ := c3 s10 w11 hres2
    keeps d2
    intro w12 e12 w13 e13
    have hd := qdrop_at hn hx
    rw [hc] at hd
    have x11 : Ext w w11 := x03.tr (b2.trans d2)
    refine ⟨⟨s10, by rw [hq]; rfl, ?_⟩, (x11.of_setRow e12 (Nat.le_refl _)).of_setRow e13 (by omega)⟩
    rw [hd]
    exact (OwnK.boxed (OwnK.boxed d1 (by omega) e12) (by omega) e13).low (Nat.zero_le _)
end Go.Proofs.Ytbphdgiepimmkaa
