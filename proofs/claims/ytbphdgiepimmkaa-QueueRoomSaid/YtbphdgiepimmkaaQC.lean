import Derived.Test.YtbphdgiepimmkaaQB
import Derived.Test.YtbphdgiepimmkaaQA
set_option linter.all false
namespace Go.Proofs.Ytbphdgiepimmkaa
open Go Go.Vc Go.RowKit Go.Proofs Go.Que

theorem qdrop_at {l : List It} (hn : (l.map (·.2)).Nodup) {k : Nat} {x : It} (hx : l[k]? = some x) : qdrop l x.2 = l.take k ++ l.drop (k + 1) := by
  obtain ⟨hlt, he⟩ := List.getElem?_eq_some_iff.1 hx
  have hd : l = l.take k ++ x :: l.drop (k + 1) := by rw [← he, ← List.drop_eq_getElem_cons hlt, List.take_append_drop]
  have hn2 := hn
  rw [hd, List.map_append, List.map_cons, List.nodup_append] at hn2
  unfold qdrop
  conv => lhs; rw [hd]
  rw [List.filter_append, List.filter_cons_of_neg (by simp), List.filter_eq_self.2 fun y hy => ?_, List.filter_eq_self.2 fun y hy => ?_]
  · have h1 := (List.nodup_cons.1 hn2.2.1).1
    have : y.2 ≠ x.2 := fun e => h1 (e ▸ List.mem_map_of_mem hy)
    simpa using this
  · have := hn2.2.2 y.2 (List.mem_map_of_mem hy) x.2 (List.mem_cons_self ..)
    simpa using this
/-- Rows appended to none. -/
theorem app_first {w : World} {s : Sl} {l : List It} (ho : OwnK 0 tX 4 w s (l.map itv)) {k : Nat} (hk : k ≤ l.length) (hl : l.length ≤ 5000) (c' : Nat) :
    Rd w (slBase s.a 0 c' 4) ((l.take k).map itv).flatten ∧ AppPre 32 4 w ⟨none, 0, 0⟩ k ((l.take k).map itv).flatten ∧ ∀ s' w', AppRes 67 4 w ⟨none, 0, 0⟩ k ((l.take k).map itv).flatten s' w' →
      OwnK w.heap.size tX 4 w' s' ((l.take k).map itv) ∧ Ext w w' ∧ s'.n = k := by
  have hn : s.n = l.length := by rw [(ho.rd (by decide)).n, List.length_map]
  have hlen : ((l.take k).map itv).length = k := by rw [List.length_map, List.length_take]; omega
  obtain ⟨hp, hr⟩ := (OwnK.nil (B := w.heap.size) (E := tX) (k := 4) (w := w)).appN (bytes := 32) (more := (l.take k).map itv) (Nat.le_refl _) (rows_wd _) (rows_one _) (by rw [hlen]; simp; omega) (by rw [hlen]; simp; omega)
  rw [hlen] at hp hr
  refine ⟨?_, hp, fun s' w' hres => ?_⟩
  · have := ((ho.rd (by decide)).cut (m := k) (c' := c') (c'' := 0) (by simpa using hk)).flat (by decide)
    rw [← List.map_take] at this
    exact this
  · obtain ⟨h1, h2, h3, h4, h5⟩ := hr s' w' hres
    exact ⟨h1, h3, by simpa using h2⟩
/-- A slice's rest appended to one that is new. -/
theorem app_rest {w : World} {B : Nat} {s d : Sl} {l r : List It} (ho : OwnK 0 tX 4 w s (l.map itv)) (hd : OwnK B tX 4 w d (r.map itv)) (hB : B ≤ w.heap.size) {k : Nat} (hl : l.length ≤ 5000) (hr : r.length ≤ 5000) :
    Rd w (slBase s.a k s.c 4) ((l.drop k).map itv).flatten ∧ AppPre 32 4 w ⟨d.a, d.n, d.c⟩ (s.n - k) ((l.drop k).map itv).flatten ∧ ∀ s' w', AppRes 67 4 w ⟨d.a, d.n, d.c⟩ (s.n - k) ((l.drop k).map itv).flatten s' w' →
      OwnK B tX 4 w' s' ((r ++ l.drop k).map itv) ∧ Below B w w' ∧ ∀ j, d.blk ≠ some j → j < w.heap.size → w'.heap[j]? = w.heap[j]? := by
  have hn : s.n = l.length := by rw [(ho.rd (by decide)).n, List.length_map]
  have hdn : d.n = r.length := by rw [(hd.rd (by decide)).n, List.length_map]
  have hc := Own_cap ho (by decide)
  have hlen : ((l.drop k).map itv).length = s.n - k := by rw [List.length_map, List.length_drop]; omega
  obtain ⟨hp, hr⟩ := hd.appN (bytes := 32) (more := (l.drop k).map itv) hB (rows_wd _) (rows_one _) (by rw [hlen]; omega) (by rw [hlen]; omega)
  rw [hlen] at hp hr
  refine ⟨?_, hp, fun s' w' hres => ?_⟩
  · have := ((ho.rd (by decide)).rest (l := k) (m := s.c) (n' := l.length - k) (c' := 0) (by simp) (fun e => by simp; omega)).flat (by decide)
    rw [← List.map_drop] at this
    exact this
  · obtain ⟨h1, h2, h3, h4, h5⟩ := hr s' w' hres
    exact ⟨by rw [List.map_append]; exact h1, h3, h4⟩
theorem OwnK.boxed {B : Nat} {w w' : World} {s : Sl} {l : List It} (ho : OwnK B tX 4 w s (l.map itv)) {b : Nat} (hb : b < B) {cs : Array Value} (e : w' = w.setRow b cs) : OwnK B tX 4 w' s (l.map itv) := by
  subst e
  exact ho.keep fun g hg => setRow_other _ _ _ _ (by have := (ho.own.lt hg).1; omega)
theorem rDrop_spec {w : World} {s : Sl} {l : List It} (ho : OwnK 0 tX 4 w s (l.map itv)) (hn : (l.map (·.2)).Nodup) (hl : l.length ≤ 5000) (room lost : Int) (c : Cl) :
    Calls Try.prog n_ref17_Drop #[.agg #[.int .i64 room, .int .i64 lost, .slice s.a s.n s.c], cv c] w fun e w' => (∃ s' : Sl, e = .returned (.tuple #[.agg #[.int .i64 room, .int .i64 lost, .slice s'.a s'.n s'.c], .bool (qtick l c).isSome]) ∧ OwnK 0 tX 4 w' s' ((qdrop l c).map itv)) ∧ Ext w w' := by
  apply ref17_Drop.vc
  have hsn : s.n = l.length := by rw [(ho.rd (by decide)).n, List.length_map]
  have hcap := Own_cap ho (by decide)
  intro w0 e0 w1 e1 w2 e2
  have x2 : Ext w w2 := (((Ext.rfl' w).of_alloc e0).of_alloc e1).of_alloc e2
  have z0 : w0.heap.size = w.heap.size + 1 := by rw [e0]; simp
  have z1 : w1.heap.size = w.heap.size + 2 := by rw [e1]; simp [z0]
  have z2 : w2.heap.size = w.heap.size + 3 := by rw [e2]; simp [z1]
  refine (rFind_spec ((ho.ext x2).rd (by decide)) hl room lost c).mono ?_
  rintro e w3 ⟨rfl, x3⟩
  have x03 := x2.tr x3
  have z3 := x3.size
  refine ⟨_, rfl, ?_⟩
  (repeat (refine And.intro ((x3).block _ (by omega)) ?_))
  rcases qfind_cases l c with ⟨hf, hall, hq⟩ | ⟨k, x, hf, hx, hc, hbef, hq⟩
  · rw [hf]
    refine Br.mk (fun _ => ?_) (fun h => by simp at h)
    intro w5 e5
    have : qdrop l c = l := by unfold qdrop; rw [List.filter_eq_self]; intro y hy; simpa using hall y hy
    rw [this, hq]
    exact ⟨⟨s, rfl, (ho.ext (x03.of_setRow e5 (by omega)))⟩, x03.of_setRow e5 (by omega)⟩
  · rw [hf]
    obtain ⟨hlt, -⟩ := List.getElem?_eq_some_iff.1 hx
    refine Br.mk (fun h => by simp at h; omega) (fun _ => ?_)
    have hw : IntKind.wrap .i64 ((k : Int) + 1) = ((k + 1 : Nat) : Int) := by rw [wrap_in (by unfold inI; omega)]; omega
    rw [hw]
    simp only [Int.toNat_natCast, Nat.sub_zero]
    have h3 := ho.ext x03
    obtain ⟨a1, a2, a3⟩ := app_first h3 (k := k) (by omega) hl s.c
    refine ⟨by omega, by omega, _, a1, a2, fun s7 w8 hres => ?_⟩
    obtain ⟨b1, b2, b3⟩ := a3 s7 w8 hres
    (repeat (refine And.intro ((b2).block _ (by omega)) ?_))
    have h8 := h3.ext b2
    obtain ⟨c1, c2, c3⟩ := app_rest (k := k + 1) h8 b1 b2.size hl (by rw [List.length_take]; omega)
    refine ⟨by omega, by omega, _, c1, c2, fun s10 w11 hres2 => ?_⟩
    obtain ⟨d1, d2, -⟩ := c3 s10 w11 hres2
    (repeat (refine And.intro ((d2).block _ (by omega)) ?_))
    intro w12 e12 w13 e13
    have hd := qdrop_at hn hx
    rw [hc] at hd
    have x11 : Ext w w11 := x03.tr (b2.trans d2)
    refine ⟨⟨s10, by rw [hq]; rfl, ?_⟩, (x11.of_setRow e12 (Nat.le_refl _)).of_setRow e13 (by omega)⟩
    rw [hd]
    exact (OwnK.boxed (OwnK.boxed d1 (by omega) e12) (by omega) e13).low (Nat.zero_le _)
end Go.Proofs.Ytbphdgiepimmkaa
namespace Go.Proofs.Ytbphdgiepimmkaa
open Go Go.Vc Go.RowKit Go.Proofs Go.Que

/-- Where an item goes, once those behind are told. -/
theorem place_at {l : List It} (hs : l.Pairwise fun a b => a.1 ≤ b.1) {t : Int} {k : Nat} (hk : k ≤ l.length) (hb : ∀ y ∈ l.drop k, t < y.1) (ha : ∀ x, k ≠ 0 → l[k - 1]? = some x → x.1 ≤ t) : (l.takeWhile fun y => decide (y.1 ≤ t)).length = k := by
  have hle : (l.takeWhile fun y => decide (y.1 ≤ t)).length ≤ k := by
    rcases Nat.lt_or_ge k (l.takeWhile fun y => decide (y.1 ≤ t)).length with h | h
    · have hkl : k < l.length := Nat.lt_of_lt_of_le h (List.takeWhile_sublist _).length_le
      have hg : l[k]? = some l[k] := List.getElem?_eq_getElem hkl
      have h1 := (takeWhile_at hs t hg).1 h
      have h2 := hb l[k] (List.mem_drop_iff_getElem.2 ⟨0, by omega, by simp⟩)
      omega
    · exact h
  rcases Nat.eq_zero_or_pos k with h0 | h0
  · omega
  · have hg : l[k - 1]? = some (l[k - 1]'(by omega)) := List.getElem?_eq_getElem (by omega)
    have := (takeWhile_at hs t hg).2 (ha _ (by omega) hg)
    omega
theorem rAdd_spec {w : World} {s : Sl} {q : QS} (ho : OwnK 0 tX 4 w s (q.l.map itv)) (hq : QOk q) (hlost : 0 ≤ q.lost ∧ q.lost ≤ 1000000) (c : Cl) (t : Int) :
    Calls Try.prog n_ref17_Add #[.agg #[.int .i64 q.room, .int .i64 q.lost, .slice s.a s.n s.c], cv c, .int .i64 t] w fun e w' => (∃ s' : Sl, e = .returned (.tuple #[.agg #[.int .i64 (qadd q c t).1.room, .int .i64 (qadd q c t).1.lost, .slice s'.a s'.n s'.c], .bool (qadd q c t).2]) ∧ OwnK 0 tX 4 w' s' ((qadd q c t).1.l.map itv)) ∧ Ext w w' := by
  apply ref17_Add.vc
  have hsn : s.n = q.l.length := by rw [(ho.rd (by decide)).n, List.length_map]
  have hlen := hq.len
  have hroom := hq.room
  intro w0 e0 w1 e1 w2 e2
  have x2 : Ext w w2 := (((Ext.rfl' w).of_alloc e0).of_alloc e1).of_alloc e2
  have z0 : w0.heap.size = w.heap.size + 1 := by rw [e0]; simp
  have z1 : w1.heap.size = w.heap.size + 2 := by rw [e1]; simp [z0]
  have z2 : w2.heap.size = w.heap.size + 3 := by rw [e2]; simp [z1]
  refine (rFind_spec ((ho.ext x2).rd (by decide)) (by omega) q.room q.lost c).mono ?_
  rintro e w3 ⟨rfl, x3⟩
  have x03 := x2.tr x3
  have z3 := x3.size
  have h3 := ho.ext x03
  have hrd3 := h3.rd (by decide)
  refine ⟨_, rfl, ?_⟩
  (repeat (refine And.intro ((x3).block _ (by omega)) ?_))
  rcases qfind_cases q.l c with ⟨hf, hall, hqt⟩ | ⟨i, x, hf, hx, hc, hbef, hqt⟩
  · rw [hf]
    refine Br.mk (fun h => by simp at h) (fun _ => Br.mk (fun _ => ?_) (fun h => by simp at h))
    refine Br.mk (fun hb => ?_) (fun hb => ?_)
    · simp only [decide_eq_true_eq] at hb
      intro w75 e75 w76 e76
      have e : qadd q c t = ({ q with lost := q.lost + 1 }, false) := by unfold qadd; rw [hqt]; simp only; rw [if_pos (by omega)]
      rw [e, wrap_in (by unfold inI; omega)]
      have x76 := (x03.of_setRow e75 (Nat.le_refl _)).of_setRow e76 (by omega)
      exact ⟨⟨s, rfl, ho.ext x76⟩, x76⟩
    · simp only [decide_eq_false_iff_not] at hb
      have e : qadd q c t = ({ q with l := qins q.l (t, c) }, true) := by unfold qadd; rw [hqt]; simp only; rw [if_neg (by omega)]
      rw [e]
      refine ⟨fun n x wr => w3 = wr ∧ ∃ k : Nat, x = k ∧ k = n ∧ k ≤ q.l.length ∧ ∀ y ∈ q.l.drop k, t < y.1, ⟨q.l.length, rfl, rfl, rfl, rfl, q.l.length, by rw [hsn], rfl, Nat.le_refl _, by simp⟩, ?_⟩
      rintro n us x wr ⟨rfl, k, rfl, rfl, hkl, hbeh⟩
      have hsort := hq.sorted
      have hown := h3
      have hlr : q.l.length ≤ 5000 := by omega
      refine Br.mk (fun hc => ?_) (fun hc => ?_)
      · simp only [decide_eq_true_eq] at hc
        have hw : IntKind.wrap .i64 ((k : Int) - 1) = ((k - 1 : Nat) : Int) := by rw [wrap_in (by unfold inI; omega)]; omega
        rw [hw]
        have hget : q.l[k - 1]? = some (q.l[k - 1]'(by omega)) := List.getElem?_eq_getElem (by omega)
        have hcons : q.l.drop (k - 1) = q.l[k - 1]'(by omega) :: q.l.drop k := by
          rw [List.drop_eq_getElem_cons (by omega)]; congr 2; omega
        generalize q.l[k - 1]'(by omega) = y at hget hcons
        have hs := hrd3.isSome (by decide) (i := k - 1) (by simp; omega)
        refine ⟨⟨hs, by omega, by omega⟩, AndL_iff.2 ⟨nnC_iff.2 (by rw [padd_isSome]; exact hs), y.1, hrd3.at (i := k - 1) (r := itv y) (by rw [List.getElem?_map, hget]; rfl) rfl, Br.mk (fun hb => ?_) (fun hb => ?_)⟩⟩
        · simp only [decide_eq_true_eq] at hb
          refine ⟨k - 1, by omega, rfl, rfl, rfl, rfl, k - 1, rfl, rfl, by omega, fun z hz => ?_⟩
          rw [hcons] at hz
          rcases List.mem_cons.1 hz with rfl | hz
          · exact hb
          · exact hbeh z hz
        · simp only [decide_eq_false_iff_not] at hb
          have hahd : ∀ x, k ≠ 0 → q.l[k - 1]? = some x → x.1 ≤ t := fun x _ hx => by rw [hget] at hx; cases hx; omega
          (
            have htw := place_at hsort hkl hbeh hahd
            have hcapr := Own_cap h3 (by decide)
            have hsrn : (s).n = (q.l).length := by rw [((h3).rd (by decide)).n, List.length_map]
            simp only [Int.toNat_natCast, Nat.sub_zero]
            obtain ⟨a1, a2, a3⟩ := app_first h3 (k := k) hkl hlr (s).c
            refine ⟨by omega, by omega, _, a1, a2, fun s7 w8 hres => ?_⟩
            obtain ⟨b1, b2, b3⟩ := a3 s7 w8 hres
            (repeat (refine And.intro ((b2).block _ (by omega)) ?_))
            intro w27 e27
            have x27 : Ext w8 w27 := (Ext.rfl' _).of_alloc e27
            have z27 : w27.heap.size = w8.heap.size + 1 := by rw [e27]; simp
            have z8 := b2.size
            have hown27 := ((h3).ext b2).ext x27
            have hlt : (((q.l).take k).map itv).length = k := by rw [List.length_map, List.length_take]; omega
            obtain ⟨c1, c2⟩ := (b1.ext x27).appN (bytes := 32) (more := [itv (t, c)]) (by omega) (by intro r hr; simp at hr; subst hr; rfl) (by intro r hr; simp at hr; subst hr; exact itv_one (t, c)) (by simp only [b3, List.length_singleton]; omega) (by simp only [b3, List.length_singleton]; omega)
            refine ⟨c1, fun s28 w29 hres2 => ?_⟩
            obtain ⟨d1, d2, d3, d4, d5⟩ := c2 s28 w29 hres2
            have hmid : OwnK (w3).heap.size tX 4 w29 s28 (((q.l).take k ++ [(t, c)]).map itv) := by rw [List.map_append]; exact d1
            have hs7 : s7.blk ≠ some w8.heap.size := fun e => by have := (b1.own.lt e).2; omega
            have hk26 : w29.heap[w8.heap.size]? = w27.heap[w8.heap.size]? := d4 _ hs7 (by omega)
            (repeat (refine And.intro ((d3).block _ (by omega)) ?_))
            refine And.intro hk26 ?_
            have z29 := d3.size
            have hown29 : OwnK 0 tX 4 w29 s ((q.l).map itv) := hown27.keep fun g hg => d3.block g (((h3).own.lt hg).2)
            obtain ⟨f1, f2, f3⟩ := app_rest (k := k) hown29 hmid (by omega) hlr (by simp; omega)
            refine ⟨by omega, by omega, _, f1, f2, fun s31 w32 hres3 => ?_⟩
            obtain ⟨g1, g2, g3⟩ := f3 s31 w32 hres3
            (repeat (refine And.intro ((g2).block _ (by omega)) ?_))
            refine And.intro (g3 _ (fun e => ?_) (by omega)) ?_
            · rcases d5 with d5 | d5
              · exact hs7 (d5 ▸ e)
              · rw [d5] at e; have : w27.heap.size = w8.heap.size := by simpa using e
                omega
            intro w33 e33 w34 e34
            have x32 : Ext w w32 := (x03).tr (((b2.tr x27).trans d3).trans g2)
            refine ⟨⟨s31, rfl, ?_⟩, (x32.of_setRow e33 (Nat.le_refl _)).of_setRow e34 (by omega)⟩
            have hins := qins_eq q.l (t, c)
            rw [show ((q.l).takeWhile fun y => decide (y.1 ≤ (t, c).1)).length = k from htw] at hins
            rw [← hins]
            have := (OwnK.boxed (OwnK.boxed g1 (by omega) e33) (by omega) e34).low (Nat.zero_le _)
            simpa using this)
      · simp only [decide_eq_false_iff_not] at hc
        have hahd : ∀ x, k ≠ 0 → q.l[k - 1]? = some x → x.1 ≤ t := fun x h _ => by omega
        (
          have htw := place_at hsort hkl hbeh hahd
          have hcapr := Own_cap h3 (by decide)
          have hsrn : (s).n = (q.l).length := by rw [((h3).rd (by decide)).n, List.length_map]
          simp only [Int.toNat_natCast, Nat.sub_zero]
          obtain ⟨a1, a2, a3⟩ := app_first h3 (k := k) hkl hlr (s).c
          refine ⟨by omega, by omega, _, a1, a2, fun s7 w8 hres => ?_⟩
          obtain ⟨b1, b2, b3⟩ := a3 s7 w8 hres
          (repeat (refine And.intro ((b2).block _ (by omega)) ?_))
          intro w27 e27
          have x27 : Ext w8 w27 := (Ext.rfl' _).of_alloc e27
          have z27 : w27.heap.size = w8.heap.size + 1 := by rw [e27]; simp
          have z8 := b2.size
          have hown27 := ((h3).ext b2).ext x27
          have hlt : (((q.l).take k).map itv).length = k := by rw [List.length_map, List.length_take]; omega
          obtain ⟨c1, c2⟩ := (b1.ext x27).appN (bytes := 32) (more := [itv (t, c)]) (by omega) (by intro r hr; simp at hr; subst hr; rfl) (by intro r hr; simp at hr; subst hr; exact itv_one (t, c)) (by simp only [b3, List.length_singleton]; omega) (by simp only [b3, List.length_singleton]; omega)
          refine ⟨c1, fun s28 w29 hres2 => ?_⟩
          obtain ⟨d1, d2, d3, d4, d5⟩ := c2 s28 w29 hres2
          have hmid : OwnK (w3).heap.size tX 4 w29 s28 (((q.l).take k ++ [(t, c)]).map itv) := by rw [List.map_append]; exact d1
          have hs7 : s7.blk ≠ some w8.heap.size := fun e => by have := (b1.own.lt e).2; omega
          have hk26 : w29.heap[w8.heap.size]? = w27.heap[w8.heap.size]? := d4 _ hs7 (by omega)
          (repeat (refine And.intro ((d3).block _ (by omega)) ?_))
          refine And.intro hk26 ?_
          have z29 := d3.size
          have hown29 : OwnK 0 tX 4 w29 s ((q.l).map itv) := hown27.keep fun g hg => d3.block g (((h3).own.lt hg).2)
          obtain ⟨f1, f2, f3⟩ := app_rest (k := k) hown29 hmid (by omega) hlr (by simp; omega)
          refine ⟨by omega, by omega, _, f1, f2, fun s31 w32 hres3 => ?_⟩
          obtain ⟨g1, g2, g3⟩ := f3 s31 w32 hres3
          (repeat (refine And.intro ((g2).block _ (by omega)) ?_))
          refine And.intro (g3 _ (fun e => ?_) (by omega)) ?_
          · rcases d5 with d5 | d5
            · exact hs7 (d5 ▸ e)
            · rw [d5] at e; have : w27.heap.size = w8.heap.size := by simpa using e
              omega
          intro w33 e33 w34 e34
          have x32 : Ext w w32 := (x03).tr (((b2.tr x27).trans d3).trans g2)
          refine ⟨⟨s31, rfl, ?_⟩, (x32.of_setRow e33 (Nat.le_refl _)).of_setRow e34 (by omega)⟩
          have hins := qins_eq q.l (t, c)
          rw [show ((q.l).takeWhile fun y => decide (y.1 ≤ (t, c).1)).length = k from htw] at hins
          rw [← hins]
          have := (OwnK.boxed (OwnK.boxed g1 (by omega) e33) (by omega) e34).low (Nat.zero_le _)
          simpa using this)
  · rw [hf]
    obtain ⟨hlt, -⟩ := List.getElem?_eq_some_iff.1 hx
    refine Br.mk (fun _ => ?_) (fun h => by simp at h)
    have hs := hrd3.isSome (by decide) (i := i) (by simp; omega)
    refine ⟨⟨hs, by omega, by omega⟩, AndL_iff.2 ⟨nnC_iff.2 (by rw [padd_isSome]; exact hs), x.1, hrd3.at (i := i) (r := itv x) (by rw [List.getElem?_map, hx]; rfl) rfl, Br.mk (fun hb => ?_) (fun hb => ?_)⟩⟩
    · simp only [decide_eq_true_eq] at hb
      intro w6 e6
      have e : qadd q c t = (q, false) := by unfold qadd; rw [hqt]; simp only; rw [if_pos hb]
      rw [e]
      have x6 := x03.of_setRow e6 (by omega)
      exact ⟨⟨s, rfl, ho.ext x6⟩, x6⟩
    · simp only [decide_eq_false_iff_not] at hb
      have e : qadd q c t = ({ q with l := qins (qdrop q.l c) (t, c) }, true) := by unfold qadd; rw [hqt]; simp only; rw [if_neg hb]
      rw [e]
      refine (rDrop_spec h3 hq.nodup (by omega) q.room q.lost c).mono ?_
      rintro e w7 ⟨⟨s10, rfl, ho7⟩, x7⟩
      have z7 := x7.size
      refine ⟨q.room, q.lost, s10, _, rfl, ?_⟩
      (repeat (refine And.intro ((x7).block _ (by omega)) ?_))
      intro w12 e12 w13 e13 w14 e14
      have hqd := hq.drop c
      have hl10 := hqd.len
      have x12 : Ext w7 w12 := (Ext.rfl' _).of_alloc e12
      have x13 : Ext w7 w13 := x12.of_setRow e13 (Nat.le_refl _)
      have z12 : w12.heap.size = w7.heap.size + 1 := by rw [e12]; simp
      have z13 : w13.heap.size = w7.heap.size + 1 := by rw [e13, setRow_size, z12]
      have z14 : w14.heap.size = w7.heap.size + 1 := by rw [e14, setRow_size, z13]
      have x14 : Ext w w14 := (x03.tr (x7.tr x13)).of_setRow e14 (Nat.le_refl _)
      have ho14 : OwnK 0 tX 4 w14 s10 ((qdrop q.l c).map itv) := by
        have hbox : Row w7 w.heap.size _ 43 := ((((by rw [e0]; exact Row.new w [_, _, _] _ : Row w0 w.heap.size [.int .i64 q.room, .int .i64 q.lost, .slice s.a s.n s.c] 43).ext ((Ext.rfl' _).of_alloc e1)).ext ((Ext.rfl' _).of_alloc e2)).ext x3).ext x7
        have h13 := ho7.ext x13
        refine h13.keep fun b hb => ?_
        rw [e14]
        refine setRow_other _ _ _ _ fun e => ?_
        obtain ⟨cs, hr⟩ := own_row ho7 (by decide) hb
        exact hr.ne hbox (by decide) e
      have hrd14 := ho14.rd (by decide)
      have hn10 : s10.n = (qdrop q.l c).length := by rw [hrd14.n, List.length_map]
      simp only at hl10
      have hlr : (qdrop q.l c).length ≤ 5000 := by omega
      have hsort := hqd.sorted
      simp only at hsort
      refine Br.mk (fun h => by simp at h; omega) (fun _ => ?_)
      refine ⟨fun n x wr => w14 = wr ∧ ∃ k : Nat, x = k ∧ k = n ∧ k ≤ (qdrop q.l c).length ∧ ∀ y ∈ (qdrop q.l c).drop k, t < y.1, ⟨(qdrop q.l c).length, rfl, rfl, rfl, rfl, rfl, (qdrop q.l c).length, by rw [hn10], rfl, Nat.le_refl _, by simp⟩, ?_⟩
      rintro n us x wr ⟨rfl, k, rfl, rfl, hkl, hbeh⟩
      refine Br.mk (fun hc => ?_) (fun hc => ?_)
      · simp only [decide_eq_true_eq] at hc
        have hw : IntKind.wrap .i64 ((k : Int) - 1) = ((k - 1 : Nat) : Int) := by rw [wrap_in (by unfold inI; omega)]; omega
        rw [hw]
        have hget : (qdrop q.l c)[k - 1]? = some ((qdrop q.l c)[k - 1]'(by omega)) := List.getElem?_eq_getElem (by omega)
        have hcons : (qdrop q.l c).drop (k - 1) = (qdrop q.l c)[k - 1]'(by omega) :: (qdrop q.l c).drop k := by
          rw [List.drop_eq_getElem_cons (by omega)]; congr 2; omega
        generalize (qdrop q.l c)[k - 1]'(by omega) = y at hget hcons
        have hs := hrd14.isSome (by decide) (i := k - 1) (by simp; omega)
        refine ⟨⟨hs, by omega, by omega⟩, AndL_iff.2 ⟨nnC_iff.2 (by rw [padd_isSome]; exact hs), y.1, hrd14.at (i := k - 1) (r := itv y) (by rw [List.getElem?_map, hget]; rfl) rfl, Br.mk (fun hb => ?_) (fun hb => ?_)⟩⟩
        · simp only [decide_eq_true_eq] at hb
          refine ⟨k - 1, by omega, rfl, rfl, rfl, rfl, rfl, k - 1, rfl, rfl, by omega, fun z hz => ?_⟩
          rw [hcons] at hz
          rcases List.mem_cons.1 hz with rfl | hz
          · exact hb
          · exact hbeh z hz
        · simp only [decide_eq_false_iff_not] at hb
          have hahd : ∀ x, k ≠ 0 → (qdrop q.l c)[k - 1]? = some x → x.1 ≤ t := fun x _ hx => by rw [hget] at hx; cases hx; omega
          (
            have htw := place_at hsort hkl hbeh hahd
            have hcapr := Own_cap ho14 (by decide)
            have hsrn : (s10).n = ((qdrop q.l c)).length := by rw [((ho14).rd (by decide)).n, List.length_map]
            simp only [Int.toNat_natCast, Nat.sub_zero]
            obtain ⟨a1, a2, a3⟩ := app_first ho14 (k := k) hkl hlr (s10).c
            refine ⟨by omega, by omega, _, a1, a2, fun s7 w8 hres => ?_⟩
            obtain ⟨b1, b2, b3⟩ := a3 s7 w8 hres
            (repeat (refine And.intro ((b2).block _ (by omega)) ?_))
            intro w27 e27
            have x27 : Ext w8 w27 := (Ext.rfl' _).of_alloc e27
            have z27 : w27.heap.size = w8.heap.size + 1 := by rw [e27]; simp
            have z8 := b2.size
            have hown27 := ((ho14).ext b2).ext x27
            have hlt : ((((qdrop q.l c)).take k).map itv).length = k := by rw [List.length_map, List.length_take]; omega
            obtain ⟨c1, c2⟩ := (b1.ext x27).appN (bytes := 32) (more := [itv (t, c)]) (by omega) (by intro r hr; simp at hr; subst hr; rfl) (by intro r hr; simp at hr; subst hr; exact itv_one (t, c)) (by simp only [b3, List.length_singleton]; omega) (by simp only [b3, List.length_singleton]; omega)
            refine ⟨c1, fun s28 w29 hres2 => ?_⟩
            obtain ⟨d1, d2, d3, d4, d5⟩ := c2 s28 w29 hres2
            have hmid : OwnK (w14).heap.size tX 4 w29 s28 ((((qdrop q.l c)).take k ++ [(t, c)]).map itv) := by rw [List.map_append]; exact d1
            have hs7 : s7.blk ≠ some w8.heap.size := fun e => by have := (b1.own.lt e).2; omega
            have hk26 : w29.heap[w8.heap.size]? = w27.heap[w8.heap.size]? := d4 _ hs7 (by omega)
            (repeat (refine And.intro ((d3).block _ (by omega)) ?_))
            refine And.intro hk26 ?_
            have z29 := d3.size
            have hown29 : OwnK 0 tX 4 w29 s10 (((qdrop q.l c)).map itv) := hown27.keep fun g hg => d3.block g (((ho14).own.lt hg).2)
            obtain ⟨f1, f2, f3⟩ := app_rest (k := k) hown29 hmid (by omega) hlr (by simp; omega)
            refine ⟨by omega, by omega, _, f1, f2, fun s31 w32 hres3 => ?_⟩
            obtain ⟨g1, g2, g3⟩ := f3 s31 w32 hres3
            (repeat (refine And.intro ((g2).block _ (by omega)) ?_))
            refine And.intro (g3 _ (fun e => ?_) (by omega)) ?_
            · rcases d5 with d5 | d5
              · exact hs7 (d5 ▸ e)
              · rw [d5] at e; have : w27.heap.size = w8.heap.size := by simpa using e
                omega
            intro w33 e33 w34 e34
            have x32 : Ext w w32 := (x14).tr (((b2.tr x27).trans d3).trans g2)
            refine ⟨⟨s31, rfl, ?_⟩, (x32.of_setRow e33 (Nat.le_refl _)).of_setRow e34 (by omega)⟩
            have hins := qins_eq (qdrop q.l c) (t, c)
            rw [show (((qdrop q.l c)).takeWhile fun y => decide (y.1 ≤ (t, c).1)).length = k from htw] at hins
            rw [← hins]
            have := (OwnK.boxed (OwnK.boxed g1 (by omega) e33) (by omega) e34).low (Nat.zero_le _)
            simpa using this)
      · simp only [decide_eq_false_iff_not] at hc
        have hahd : ∀ x, k ≠ 0 → (qdrop q.l c)[k - 1]? = some x → x.1 ≤ t := fun x h _ => by omega
        (
          have htw := place_at hsort hkl hbeh hahd
          have hcapr := Own_cap ho14 (by decide)
          have hsrn : (s10).n = ((qdrop q.l c)).length := by rw [((ho14).rd (by decide)).n, List.length_map]
          simp only [Int.toNat_natCast, Nat.sub_zero]
          obtain ⟨a1, a2, a3⟩ := app_first ho14 (k := k) hkl hlr (s10).c
          refine ⟨by omega, by omega, _, a1, a2, fun s7 w8 hres => ?_⟩
          obtain ⟨b1, b2, b3⟩ := a3 s7 w8 hres
          (repeat (refine And.intro ((b2).block _ (by omega)) ?_))
          intro w27 e27
          have x27 : Ext w8 w27 := (Ext.rfl' _).of_alloc e27
          have z27 : w27.heap.size = w8.heap.size + 1 := by rw [e27]; simp
          have z8 := b2.size
          have hown27 := ((ho14).ext b2).ext x27
          have hlt : ((((qdrop q.l c)).take k).map itv).length = k := by rw [List.length_map, List.length_take]; omega
          obtain ⟨c1, c2⟩ := (b1.ext x27).appN (bytes := 32) (more := [itv (t, c)]) (by omega) (by intro r hr; simp at hr; subst hr; rfl) (by intro r hr; simp at hr; subst hr; exact itv_one (t, c)) (by simp only [b3, List.length_singleton]; omega) (by simp only [b3, List.length_singleton]; omega)
          refine ⟨c1, fun s28 w29 hres2 => ?_⟩
          obtain ⟨d1, d2, d3, d4, d5⟩ := c2 s28 w29 hres2
          have hmid : OwnK (w14).heap.size tX 4 w29 s28 ((((qdrop q.l c)).take k ++ [(t, c)]).map itv) := by rw [List.map_append]; exact d1
          have hs7 : s7.blk ≠ some w8.heap.size := fun e => by have := (b1.own.lt e).2; omega
          have hk26 : w29.heap[w8.heap.size]? = w27.heap[w8.heap.size]? := d4 _ hs7 (by omega)
          (repeat (refine And.intro ((d3).block _ (by omega)) ?_))
          refine And.intro hk26 ?_
          have z29 := d3.size
          have hown29 : OwnK 0 tX 4 w29 s10 (((qdrop q.l c)).map itv) := hown27.keep fun g hg => d3.block g (((ho14).own.lt hg).2)
          obtain ⟨f1, f2, f3⟩ := app_rest (k := k) hown29 hmid (by omega) hlr (by simp; omega)
          refine ⟨by omega, by omega, _, f1, f2, fun s31 w32 hres3 => ?_⟩
          obtain ⟨g1, g2, g3⟩ := f3 s31 w32 hres3
          (repeat (refine And.intro ((g2).block _ (by omega)) ?_))
          refine And.intro (g3 _ (fun e => ?_) (by omega)) ?_
          · rcases d5 with d5 | d5
            · exact hs7 (d5 ▸ e)
            · rw [d5] at e; have : w27.heap.size = w8.heap.size := by simpa using e
              omega
          intro w33 e33 w34 e34
          have x32 : Ext w w32 := (x14).tr (((b2.tr x27).trans d3).trans g2)
          refine ⟨⟨s31, rfl, ?_⟩, (x32.of_setRow e33 (Nat.le_refl _)).of_setRow e34 (by omega)⟩
          have hins := qins_eq (qdrop q.l c) (t, c)
          rw [show (((qdrop q.l c)).takeWhile fun y => decide (y.1 ≤ (t, c).1)).length = k from htw] at hins
          rw [← hins]
          have := (OwnK.boxed (OwnK.boxed g1 (by omega) e33) (by omega) e34).low (Nat.zero_le _)
          simpa using this)
end Go.Proofs.Ytbphdgiepimmkaa
namespace Go.Proofs.Ytbphdgiepimmkaa
open Go Go.Vc Go.RowKit Go.Proofs Go.Que

theorem clv_one (c : Cl) : One (clv c) := by
  intro u hu; simp at hu; rcases hu with rfl | rfl | rfl <;> rfl
theorem rDue_spec {w : World} {s : Sl} {q : QS} (ho : OwnK 0 tX 4 w s (q.l.map itv)) (hq : QOk q) (now many : Int) :
    Calls Try.prog n_ref17_Due #[.agg #[.int .i64 q.room, .int .i64 q.lost, .slice s.a s.n s.c], .int .i64 now, .int .i64 many] w fun e w' => (∃ s' so : Sl, e = .returned (.tuple #[.agg #[.int .i64 (qdue q now many).1.room, .int .i64 (qdue q now many).1.lost, .slice s'.a s'.n s'.c], .slice so.a so.n so.c]) ∧ OwnK 0 tX 4 w' s' ((qdue q now many).1.l.map itv) ∧ OwnK w.heap.size tCell 3 w' so ((qdue q now many).2.map clv)) ∧ Ext w w' := by
  apply ref17_Due.vc
  have hsn : s.n = q.l.length := by rw [(ho.rd (by decide)).n, List.length_map]
  have hlen := hq.len
  have hroom := hq.room
  intro w0 e0 w1 e1
  have x1 : Ext w w1 := ((Ext.rfl' w).of_alloc e0).of_alloc e1
  have z0 : w0.heap.size = w.heap.size + 1 := by rw [e0]; simp
  have z1 : w1.heap.size = w.heap.size + 2 := by rw [e1]; simp [z0]
  have hcd : qcount q.l now many = min (q.l.takeWhile fun y => decide (y.1 ≤ now)).length many.toNat := rfl
  have hcl := qcount_le q.l now many
  unfold qdue
  simp only
  generalize hcn : qcount q.l now many = cnt at hcd hcl
  refine ⟨fun n x so sr wr => Below w1.heap.size w1 wr ∧ ∃ j : Nat, x = j ∧ j + n = q.l.length ∧ OwnK w1.heap.size tCell 3 wr so ((q.l.take (min j cnt)).map fun y => clv y.2) ∧ OwnK w1.heap.size tX 4 wr sr (((q.l.take j).drop cnt).map itv), ⟨q.l.length, trivial, trivial, Below.refl _ _, 0, rfl, by omega, by simp; exact OwnK.nil, by simp; exact OwnK.nil⟩, ?_⟩
  rintro n us x so sr wr ⟨xr, j, rfl, hj, hout, hrest⟩
  have hown := (ho.ext x1).ext xr
  have hrd := hown.rd (by decide)
  have zr := xr.size
  have hson : so.n = min j cnt := by rw [(hout.rd (by decide)).n, List.length_map, List.length_take]; omega
  have hsrn : sr.n = j - cnt := by rw [(hrest.rd (by decide)).n, List.length_map, List.length_drop, List.length_take]; omega
  refine Br.mk (fun hc => ?_) (fun hc => ?_)
  · simp only [decide_eq_true_eq] at hc
    have hget : q.l[j]? = some (q.l[j]'(by omega)) := List.getElem?_eq_getElem (by omega)
    generalize q.l[j]'(by omega) = y at hget
    have hat := takeWhile_at hq.sorted now hget
    have hs := hrd.isSome (by decide) (i := j) (by simp; omega)
    have hin : InB s.a (j : Int) s.n := ⟨hs, by omega, by omega⟩
    have hnn : ∀ p ∈ nnC (padd s.a ((j : Int).toNat * 4)), p := nnC_iff.2 (by rw [padd_isSome]; exact hs)
    have hwj : IntKind.wrap .i64 ((j : Int) + 1) = ((j + 1 : Nat) : Int) := by rw [wrap_in (by unfold inI; omega)]; omega
    have htk : q.l.take (j + 1) = q.l.take j ++ [y] := by rw [List.take_add_one, hget]; rfl
    -- the item stays
    have stay : ¬ (y.1 ≤ now ∧ ((min j cnt : Nat) : Int) < many) → InB s.a (j : Int) s.n ∧ ∃ (x24 : Int) (x25 : Int) (x26 : Int) (x27 : Int), LoadL wr (padd s.a ((j : Int).toNat * 4)) 0 [.int .i64 x24, .int .i64 x25, .int .i64 x26, .int .i64 x27] ∧
        ∀ w28 : World, w28 = wr.alloc (.cells #[.int .i64 x24, .int .i64 x25, .int .i64 x26, .int .i64 x27] 67) →
        AppPre 32 4 w28 ⟨sr.a, sr.n, sr.c⟩ 1 [.int .i64 x24, .int .i64 x25, .int .i64 x26, .int .i64 x27] ∧ ∀ (s29 : Sl) (w30 : World), AppRes 67 4 w28 ⟨sr.a, sr.n, sr.c⟩ 1 [.int .i64 x24, .int .i64 x25, .int .i64 x26, .int .i64 x27] s29 w30 → w30.heap[w.heap.size]? = w28.heap[w.heap.size]? ∧ w30.heap[w0.heap.size]? = w28.heap[w0.heap.size]? ∧ w30.heap[wr.heap.size]? = w28.heap[wr.heap.size]? ∧
          ∃ n9, n9 < n ∧ True ∧ True ∧ Below w1.heap.size w1 w30 ∧ ∃ j' : Nat, IntKind.wrap .i64 ((j : Int) + 1) = j' ∧ j' + n9 = q.l.length ∧ OwnK w1.heap.size tCell 3 w30 ⟨so.a, so.n, so.c⟩ ((q.l.take (min j' cnt)).map fun y => clv y.2) ∧ OwnK w1.heap.size tX 4 w30 ⟨s29.a, s29.n, s29.c⟩ (((q.l.take j').drop cnt).map itv) := by
      intro hno
      have hjc : cnt ≤ j := by omega
      refine ⟨hin, y.1, y.2.1, y.2.2.1, y.2.2.2, RdK.item hrd hget, fun w28 e28 => ?_⟩
      have x28 : Ext wr w28 := (Ext.rfl' _).of_alloc e28
      have z28 : w28.heap.size = wr.heap.size + 1 := by rw [e28]; simp
      obtain ⟨c1, c2⟩ := (hrest.ext x28).append (news := itv y) (bytes := 32) (by omega) rfl (itv_one y) (by omega) (by omega)
      refine ⟨c1, fun s29 w30 hres => ?_⟩
      obtain ⟨d1, d2, d3, d4, d5⟩ := c2 s29 w30 hres
      (repeat (refine And.intro ((d3).block _ (by omega)) ?_))
      refine And.intro (d4 _ (fun e => by have := (hrest.own.lt e).2; omega) (by omega)) ?_
      refine ⟨n - 1, by omega, trivial, trivial, (xr.trans (Below.mono x28 zr)).trans d3, j + 1, hwj, by omega, ?_, ?_⟩
      · rw [Nat.min_eq_right (by omega : cnt ≤ j + 1)]
        rw [Nat.min_eq_right hjc] at hout
        refine (hout.ext x28).keep fun b hb => d4 b (fun e => ?_) (by have := (hout.own.lt hb).2; omega)
        obtain ⟨cs, hr⟩ := own_row hout (by decide) hb
        obtain ⟨cs', hr'⟩ := own_row hrest (by decide) e
        exact hr.ne hr' (by decide) rfl
      · rw [htk, List.drop_append_of_le_length (by rw [List.length_take]; omega), List.map_append]
        exact d1
    refine ⟨hin, AndL_iff.2 ⟨hnn, y.1, hrd.at (i := j) (r := itv y) (by rw [List.getElem?_map, hget]; rfl) rfl, Br.mk (fun hb => ?_) (fun hb => ?_)⟩⟩
    · simp only [decide_eq_true_eq] at hb
      refine Br.mk (fun hb2 => ?_) (fun hb2 => ?_)
      · simp only [decide_eq_true_eq] at hb2
        have hjc : j < cnt := by omega
        refine ⟨hin, AndL_iff.2 ⟨hnn, y.2.1, y.2.2.1, y.2.2.2, ?_, fun w14 e14 => ?_⟩⟩
        · rw [padd_padd]
          refine LoadL_of fun i v hi => ?_
          have h1 := hrd.rd j (itv y) (by rw [List.getElem?_map, hget]; rfl)
          rw [Nat.zero_add, padd_padd, Nat.add_assoc]
          exact h1 (1 + i) v (by rw [Nat.add_comm]; exact hi)
        have x14 : Ext wr w14 := (Ext.rfl' _).of_alloc e14
        have z14 : w14.heap.size = wr.heap.size + 1 := by rw [e14]; simp
        obtain ⟨c1, c2⟩ := (hout.ext x14).append (news := clv y.2) (bytes := 24) (by omega) rfl (clv_one _) (by omega) (by omega)
        refine ⟨c1, fun s15 w16 hres => ?_⟩
        obtain ⟨d1, d2, d3, d4, d5⟩ := c2 s15 w16 hres
        (repeat (refine And.intro ((d3).block _ (by omega)) ?_))
        refine And.intro (d4 _ (fun e => by have := (hout.own.lt e).2; omega) (by omega)) ?_
        refine ⟨n - 1, by omega, trivial, trivial, (xr.trans (Below.mono x14 zr)).trans d3, j + 1, hwj, by omega, ?_, ?_⟩
        · rw [Nat.min_eq_left (by omega : j + 1 ≤ cnt), htk, List.map_append]
          rw [Nat.min_eq_left (by omega)] at d1
          exact d1
        · rw [List.drop_of_length_le (by rw [List.length_take]; omega)]
          rw [List.drop_of_length_le (by rw [List.length_take]; omega)] at hrest
          refine (hrest.ext x14).keep fun b hb => d4 b (fun e => ?_) (by have := (hrest.own.lt hb).2; omega)
          obtain ⟨cs, hr⟩ := own_row hrest (by decide) hb
          obtain ⟨cs', hr'⟩ := own_row hout (by decide) e
          exact hr.ne hr' (by decide) rfl
      · simp only [decide_eq_false_iff_not] at hb2
        exact stay fun h => hb2 (by omega)
    · simp only [decide_eq_false_iff_not] at hb
      exact stay fun h => hb h.1
  · simp only [decide_eq_false_iff_not] at hc
    have hj' : j = q.l.length := by omega
    intro w31 e31 w32 e32
    have xf : Ext w wr := x1.trans (Below.mono xr x1.size)
    have x32 := (xf.of_setRow e31 (Nat.le_refl _)).of_setRow e32 (by omega)
    rw [hj', List.take_length] at hrest
    rw [Nat.min_eq_right (by omega)] at hout
    refine ⟨⟨sr, so, rfl, (OwnK.boxed (OwnK.boxed hrest (by omega) e31) (by omega) e32).low (Nat.zero_le _), ?_⟩, x32⟩
    rw [List.map_map]
    have h31 : OwnK w1.heap.size tCell 3 w31 so ((q.l.take cnt).map fun y => clv y.2) := hout.keep fun b hb => by rw [e31]; exact setRow_other _ _ _ _ (by have := (hout.own.lt hb).1; omega)
    have h32 : OwnK w1.heap.size tCell 3 w32 so ((q.l.take cnt).map fun y => clv y.2) := h31.keep fun b hb => by rw [e32]; exact setRow_other _ _ _ _ (by have := (h31.own.lt hb).1; omega)
    exact h32.low (by omega)
end Go.Proofs.Ytbphdgiepimmkaa
namespace Go.Proofs.Ytbphdgiepimmkaa
open Go Go.Vc Go.RowKit Go.Proofs Go.Que

theorem Foot.none {g m : Nat} {w : World} (hg : w.heap.size ≤ g) (hm : w.heap.size ≤ m) : ∀ i, Foot g m ⟨none, 0, 0⟩ i → w.heap.size ≤ i := by
  rintro i (h | h | h)
  · omega
  · omega
  · cases h
theorem QOk.empty {r : Int} (h : 1 ≤ r ∧ r ≤ 4096) : QOk ⟨r, 0, []⟩ := ⟨h, by show ((0 : Nat) : Int) ≤ r; omega, List.Pairwise.nil, List.nodup_nil⟩
theorem row_rdK {w : World} {g : Nat} {cs : List Value} {E : TypeId} {rows : List (List Value)} {k c : Nat} (hr : Row w g cs E) (hw : ∀ r ∈ rows, r.length = k) (hf : rows.flatten = cs) : RdK w ⟨some ⟨g, 0, none⟩, rows.length, c⟩ k rows := by
  refine ⟨rfl, hw, fun i r hi j v hj => ?_⟩
  rw [padd_row, hr.ld, Nat.zero_add, ← hf, flatten_get hw hi]
  · exact hj
  · have := hw r (List.mem_of_getElem? hi)
    rw [← this]; exact (List.getElem?_eq_some_iff.1 hj).1
theorem lives_spec (w : World) : Calls Try.prog n_law17_lives #[] w fun e w' => e = .returned (.bool true) ∧ Ext w w' := by
  apply law17_lives.vc
  refine (New_spec 9 w).mono ?_
  rintro e w0 ⟨g, m, rfl, h0, x0, hg, hm⟩
  have k0 : QOk ⟨min (max 9 1) 4096, 0, []⟩ := QOk.empty (by omega)
  refine ⟨_, rfl, Br.mk (fun h => by cases h) (fun _ => ?_)⟩
  refine (Add_spec h0 k0 ⟨by decide, by decide⟩ (1, 0, 0) 5).mono ?_
  rintro e w2 ⟨rfl, s2, h2, t2⟩
  obtain ⟨x2, f2⟩ := t2.fresh x0 (Foot.none hg hm)
  have k2 := k0.add (1, 0, 0) 5
  refine ⟨_, rfl, (Add_spec h2 k2 ⟨by decide, by decide⟩ (1, 0, 0) 3).mono ?_⟩
  rintro e w4 ⟨rfl, s4, h4, t4⟩
  obtain ⟨x4, f4⟩ := t4.fresh x2 f2
  have k4 := k2.add (1, 0, 0) 3
  refine ⟨_, rfl, (Due_spec h4 k4 3 9).mono ?_⟩
  rintro e w6 ⟨so, rfl, s6, ho6, h6, t6⟩
  obtain ⟨x6, f6⟩ := t6.fresh x4 f4
  refine ⟨so, rfl, ?_⟩
  intro w8 e8
  have x8 : Ext w6 w8 := (Ext.rfl' _).of_alloc e8
  have hr8 : Row w8 w6.heap.size (clv (1, 0, 0)) tCell := by rw [e8]; exact Row.new _ _ _
  have hrd : RdK w8 ⟨some ⟨w6.heap.size, 0, none⟩, 1, 1⟩ 3 ([((1, 0, 0) : Cl)].map clv) := row_rdK (rows := [clv (1, 0, 0)]) hr8 (by simp) (by simp)
  refine (rSame_spec (b := ⟨some ⟨w6.heap.size, 0, none⟩, 1, 1⟩) ((ho6.ext x8).rd (by decide)) hrd (by decide)).mono ?_
  rintro e w9 ⟨rfl, x9⟩
  refine ⟨_, rfl, Br.mk (fun _ => ?_) (fun h => absurd h (by decide))⟩
  refine (Len_spec ((h6.ext x8).ext x9)).mono ?_
  rintro e w11 ⟨rfl, x11⟩
  exact ⟨_, rfl, rfl, ((x6.tr x8).tr x9).tr x11⟩
end Go.Proofs.Ytbphdgiepimmkaa
