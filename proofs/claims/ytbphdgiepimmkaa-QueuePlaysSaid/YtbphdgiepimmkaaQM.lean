import Derived.Test.YtbphdgiepimmkaaQL
set_option linter.all false
namespace Go.Proofs.Ytbphdgiepimmkaa
open Go Go.Vc Go.RowKit Go.Proofs Go.Que

set_option hygiene false in
local macro "keeps" h:term : tactic => `(tactic| repeat (refine And.intro (($h).block _ (by omega)) ?_))
/-- Where an item goes, once those behind are told. -/
theorem place_at {l : List It} (hs : l.Pairwise fun a b => a.1 ≤ b.1) {t : Int} {k : Nat} (hk : k ≤ l.length) (hb : ∀ y ∈ l.drop k, t < y.1) (ha : ∀ x, k ≠ 0 → l[k - 1]? = some x → x.1 ≤ t) : (l.takeWhile fun y => decide (y.1 ≤ t)).length = k := by
  have hle : (l.takeWhile fun y => decide (y.1 ≤ t)).length ≤ k := by
    rcases Nat.lt_or_ge k (l.takeWhile fun y => decide (y.1 ≤ t)).length with h | h
    · have hkl : k < l.length := Nat.lt_of_lt_of_le h (List.takeWhile_sublist _).length_le
      have hg : l[k]? = some l[k] := List.getElem?_eq_getElem hkl
      have h1 := (takeWhile_at hs t hg).1 h
      have h2 := hb l[k] (List.mem_drop_iff_getElem.2 ⟨0, by omega, by simp⟩)
      omega
    · exact h
  rcases Nat.eq_zero_or_pos k with h0 | h0
  · omega
  · have hg : l[k - 1]? = some (l[k - 1]'(by omega)) := List.getElem?_eq_getElem (by omega)
    have := (takeWhile_at hs t hg).2 (ha _ (by omega) hg)
    omega
set_option hygiene false in
local macro "leaf" l:term:max sr:term:max wr:term:max k:term:max own:term:max x:term:max : tactic => `(tactic| (
  have htw := place_at hsort hkl hbeh hahd
  have hcapr := Own_cap $own (by decide)
  have hsrn : ($sr).n = ($l).length := by rw [(($own).rd (by decide)).n, List.length_map]
  simp only [Int.toNat_natCast, Nat.sub_zero]
  obtain ⟨a1, a2, a3⟩ := app_first $own (k := $k) hkl hlr ($sr).c
  refine ⟨by omega, by omega, _, a1, a2, fun s7 w8 hres => ?_⟩
  obtain ⟨b1, b2, b3⟩ := a3 s7 w8 hres
  keeps b2
  intro w27 e27
  have x27 : Ext w8 w27 := (Ext.rfl' _).of_alloc e27
  have z27 : w27.heap.size = w8.heap.size + 1 := by rw [e27]; simp
  have z8 := b2.size
  have hown27 := (($own).ext b2).ext x27
  have hlt : ((($l).take $k).map itv).length = $k := by rw [List.length_map, List.length_take]; omega
  obtain ⟨c1, c2⟩ := (b1.ext x27).appN (bytes := 32) (more := [itv (t, c)]) (by omega) (by intro r hr; simp at hr; subst hr; rfl) (by intro r hr; simp at hr; subst hr; exact itv_one (t, c)) (by simp only [b3, List.length_singleton]; omega) (by simp only [b3, List.length_singleton]; omega)
  refine ⟨c1, fun s28 w29 hres2 => ?_⟩
  obtain ⟨d1, d2, d3, d4, d5⟩ := c2 s28 w29 hres2
  have hmid : OwnK ($wr).heap.size tX 4 w29 s28 ((($l).take $k ++ [(t, c)]).map itv) := by rw [List.map_append]; exact d1
  have hs7 : s7.blk ≠ some w8.heap.size := fun e => by have := (b1.own.lt e).2; omega
  have hk26 : w29.heap[w8.heap.size]? = w27.heap[w8.heap.size]? := d4 _ hs7 (by omega)
  keeps d3
  refine And.intro hk26 ?_
  have z29 := d3.size
  have hown29 : OwnK 0 tX 4 w29 $sr (($l).map itv) := hown27.keep fun g hg => d3.block g ((($own).own.lt hg).2)
  obtain ⟨f1, f2, f3⟩ := app_rest (k := $k) hown29 hmid (by omega) hlr (by simp; omega)
  refine ⟨by omega, by omega, _, f1, f2, fun s31 w32 hres3 => ?_⟩
  obtain ⟨g1, g2, g3⟩ := f3 s31 w32 hres3
  keeps g2
  refine And.intro (g3 _ (fun e => ?_) (by omega)) ?_
  · rcases d5 with d5 | d5
    · exact hs7 (d5 ▸ e)
    · rw [d5] at e; have : w27.heap.size = w8.heap.size := by simpa using e
      omega
  intro w33 e33 w34 e34
  have x32 : Ext w w32 := ($x).tr (((b2.tr x27).trans d3).trans g2)
  refine ⟨⟨s31, rfl, ?_⟩, (x32.of_setRow e33 (Nat.le_refl _)).of_setRow e34 (by omega)⟩
  have hins := qins_eq $l (t, c)
  rw [show (($l).takeWhile fun y => decide (y.1 ≤ (t, c).1)).length = $k from htw] at hins
  rw [← hins]
  have := (OwnK.boxed (OwnK.boxed g1 (by omega) e33) (by omega) e34).low (Nat.zero_le _)
  simpa using this))
theorem rAdd_spec {w : World} {s : Sl} {q : QS} (ho : OwnK 0 tX 4 w s (q.l.map itv)) (hq : QOk q) (hlost : 0 ≤ q.lost ∧ q.lost ≤ 1000000) (c : Cl) (t : Int) :
    Calls Try.prog n_ref17_Add #[.agg #[.int .i64 q.room, .int .i64 q.lost, .slice s.a s.n s.c], cv c, .int .i64 t] w fun e w' => (∃ s' : Sl, e = .returned (.tuple #[.agg #[.int .i64 (qadd q c t).1.room, .int .i64 (qadd q c t).1.lost, .slice s'.a s'.n s'.c], .bool (qadd q c t).2]) ∧ OwnK 0 tX 4 w' s' ((qadd q c t).1.l.map itv)) ∧ Ext w w' := by
  apply ref17_Add.vc
  have hsn : s.n = q.l.length := by rw [(ho.rd (by decide)).n, List.length_map]
  have hlen := hq.len
  have hroom := hq.room
  intro w0 e0 w1 e1 w2 e2
  have x2 : Ext w w2 := (((Ext.rfl' w).of_alloc e0).of_alloc e1).of_alloc e2
  have z0 : w0.heap.size = w.heap.size + 1 := by rw [e0]; simp
  have z1 : w1.heap.size = w.heap.size + 2 := by rw [e1]; simp [z0]
  have z2 : w2.heap.size = w.heap.size + 3 := by rw [e2]; simp [z1]
  refine (rFind_spec ((ho.ext x2).rd (by decide)) (by omega) q.room q.lost c).mono ?_
  rintro e w3 ⟨rfl, x3⟩
  have x03 := x2.tr x3
  have z3 := x3.size
  have h3 := ho.ext x03
  have hrd3 := h3.rd (by decide)
  refine ⟨_, rfl, ?_⟩
  keeps x3
  rcases qfind_cases q.l c with ⟨hf, hall, hqt⟩ | ⟨i, x, hf, hx, hc, hbef, hqt⟩
  · rw [hf]
    refine Br.mk (fun h => by simp at h) (fun _ => Br.mk (fun _ => ?_) (fun h => by simp at h))
    refine Br.mk (fun hb => ?_) (fun hb => ?_)
    · simp only [decide_eq_true_eq] at hb
      intro w75 e75 w76 e76
      have e : qadd q c t = ({ q with lost := q.lost + 1 }, false) := by unfold qadd; rw [hqt]; simp only; rw [if_pos (by omega)]
      rw [e, wrap_in (by unfold inI; omega)]
      have x76 := (x03.of_setRow e75 (Nat.le_refl _)).of_setRow e76 (by omega)
      exact ⟨⟨s, rfl, ho.ext x76⟩, x76⟩
    · simp only [decide_eq_false_iff_not] at hb
      have e : qadd q c t = ({ q with l := qins q.l (t, c) }, true) := by unfold qadd; rw [hqt]; simp only; rw [if_neg (by omega)]
      rw [e]
      refine ⟨fun n x wr => w3 = wr ∧ ∃ k : Nat, x = k ∧ k = n ∧ k ≤ q.l.length ∧ ∀ y ∈ q.l.drop k, t < y.1, ⟨q.l.length, rfl, rfl, rfl, rfl, q.l.length, by rw [hsn], rfl, Nat.le_refl _, by simp⟩, ?_⟩
      rintro n us x wr ⟨rfl, k, rfl, rfl, hkl, hbeh⟩
      have hsort := hq.sorted
      have hown := h3
      have hlr : q.l.length ≤ 5000 := by omega
      refine Br.mk (fun hc => ?_) (fun hc => ?_)
      · simp only [decide_eq_true_eq] at hc
        have hw : IntKind.wrap .i64 ((k : Int) - 1) = ((k - 1 : Nat) : Int) := by rw [wrap_in (by unfold inI; omega)]; omega
        rw [hw]
        have hget : q.l[k - 1]? = some (q.l[k - 1]'(by omega)) := List.getElem?_eq_getElem (by omega)
        have hcons : q.l.drop (k - 1) = q.l[k - 1]'(by omega) :: q.l.drop k := by
          rw [List.drop_eq_getElem_cons (by omega)]; congr 2; omega
        generalize q.l[k - 1]'(by omega) = y at hget hcons
        have hs := hrd3.isSome (by decide) (i := k - 1) (by simp; omega)
        refine ⟨⟨hs, by omega, by omega⟩, AndL_iff.2 ⟨nnC_iff.2 (by rw [padd_isSome]; exact hs), y.1, hrd3.at (i := k - 1) (r := itv y) (by rw [List.getElem?_map, hget]; rfl) rfl, Br.mk (fun hb => ?_) (fun hb => ?_)⟩⟩
        · simp only [decide_eq_true_eq] at hb
          refine ⟨k - 1, by omega, rfl, rfl, rfl, rfl, k - 1, rfl, rfl, by omega, fun z hz => ?_⟩
          rw [hcons] at hz
          rcases List.mem_cons.1 hz with rfl | hz
          · exact hb
          · exact hbeh z hz
        · simp only [decide_eq_false_iff_not] at hb
          have hahd : ∀ x, k ≠ 0 → q.l[k - 1]? = some x → x.1 ≤ t := fun x _ hx => by rw [hget] at hx; cases hx; omega
          leaf q.l s w3 k h3 x03
      · simp only [decide_eq_false_iff_not] at hc
        have hahd : ∀ x, k ≠ 0 → q.l[k - 1]? = some x → x.1 ≤ t := fun x h _ => by omega
        leaf q.l s w3 k h3 x03
  · rw [hf]
    obtain ⟨hlt, -⟩ := List.getElem?_eq_some_iff.1 hx
    refine Br.mk (fun _ => ?_) (fun h => by simp at h)
    have hs := hrd3.isSome (by decide) (i := i) (by simp; omega)
    refine ⟨⟨hs, by omega, by omega⟩, AndL_iff.2 ⟨nnC_iff.2 (by rw [padd_isSome]; exact hs), x.1, hrd3.at (i := i) (r := itv x) (by rw [List.getElem?_map, hx]; rfl) rfl, Br.mk (fun hb => ?_) (fun hb => ?_)⟩⟩
    · simp only [decide_eq_true_eq] at hb
      intro w6 e6
      have e : qadd q c t = (q, false) := by unfold qadd; rw [hqt]; simp only; rw [if_pos hb]
      rw [e]
      have x6 := x03.of_setRow e6 (by omega)
      exact ⟨⟨s, rfl, ho.ext x6⟩, x6⟩
    · simp only [decide_eq_false_iff_not] at hb
      have e : qadd q c t = ({ q with l := qins (qdrop q.l c) (t, c) }, true) := by unfold qadd; rw [hqt]; simp only; rw [if_neg hb]
      rw [e]
      refine (rDrop_spec h3 hq.nodup (by omega) q.room q.lost c).mono ?_
      rintro e w7 ⟨⟨s10, rfl, ho7⟩, x7⟩
      have z7 := x7.size
      refine ⟨q.room, q.lost, s10, _, rfl, ?_⟩
      keeps x7
      intro w12 e12 w13 e13 w14 e14
      have hqd := hq.drop c
      have hl10 := hqd.len
      have x12 : Ext w7 w12 := (Ext.rfl' _).of_alloc e12
      have x13 : Ext w7 w13 := x12.of_setRow e13 (Nat.le_refl _)
      have z12 : w12.heap.size = w7.heap.size + 1 := by rw [e12]; simp
      have z13 : w13.heap.size = w7.heap.size + 1 := by rw [e13, setRow_size, z12]
      have z14 : w14.heap.size = w7.heap.size + 1 := by rw [e14, setRow_size, z13]
      have x14 : Ext w w14 := (x03.tr (x7.tr x13)).of_setRow e14 (Nat.le_refl _)
      have ho14 : OwnK 0 tX 4 w14 s10 ((qdrop q.l c).map itv) := by
        have hbox : Row w7 w.heap.size _ 43 := ((((by rw [e0]; exact Row.new w [_, _, _] _ : Row w0 w.heap.size [.int .i64 q.room, .int .i64 q.lost, .slice s.a s.n s.c] 43).ext ((Ext.rfl' _).of_alloc e1)).ext ((Ext.rfl' _).of_alloc e2)).ext x3).ext x7
        have h13 := ho7.ext x13
        refine h13.keep fun b hb => ?_
        rw [e14]
        refine setRow_other _ _ _ _ fun e => ?_
        obtain ⟨cs, hr⟩ := own_row ho7 (by decide) hb
        exact hr.ne hbox (by decide) e
      have hrd14 := ho14.rd (by decide)
      have hn10 : s10.n = (qdrop q.l c).length := by rw [hrd14.n, List.length_map]
      simp only at hl10
      have hlr : (qdrop q.l c).length ≤ 5000 := by omega
      have hsort := hqd.sorted
      simp only at hsort
      refine Br.mk (fun h => by simp at h; omega) (fun _ => ?_)
      refine ⟨fun n x wr => w14 = wr ∧ ∃ k : Nat, x = k ∧ k = n ∧ k ≤ (qdrop q.l c).length ∧ ∀ y ∈ (qdrop q.l c).drop k, t < y.1, ⟨(qdrop q.l c).length, rfl, rfl, rfl, rfl, rfl, (qdrop q.l c).length, by rw [hn10], rfl, Nat.le_refl _, by simp⟩, ?_⟩
      rintro n us x wr ⟨rfl, k, rfl, rfl, hkl, hbeh⟩
      refine Br.mk (fun hc => ?_) (fun hc => ?_)
      · simp only [decide_eq_true_eq] at hc
        have hw : IntKind.wrap .i64 ((k : Int) - 1) = ((k - 1 : Nat) : Int) := by rw [wrap_in (by unfold inI; omega)]; omega
        rw [hw]
        have hget : (qdrop q.l c)[k - 1]? = some ((qdrop q.l c)[k - 1]'(by omega)) := List.getElem?_eq_getElem (by omega)
        have hcons : (qdrop q.l c).drop (k - 1) = (qdrop q.l c)[k - 1]'(by omega) :: (qdrop q.l c).drop k := by
          rw [List.drop_eq_getElem_cons (by omega)]; congr 2; omega
        generalize (qdrop q.l c)[k - 1]'(by omega) = y at hget hcons
        have hs := hrd14.isSome (by decide) (i := k - 1) (by simp; omega)
        refine ⟨⟨hs, by omega, by omega⟩, AndL_iff.2 ⟨nnC_iff.2 (by rw [padd_isSome]; exact hs), y.1, hrd14.at (i := k - 1) (r := itv y) (by rw [List.getElem?_map, hget]; rfl) rfl, Br.mk (fun hb => ?_) (fun hb => ?_)⟩⟩
        · simp only [decide_eq_true_eq] at hb
          refine ⟨k - 1, by omega, rfl, rfl, rfl, rfl, rfl, k - 1, rfl, rfl, by omega, fun z hz => ?_⟩
          rw [hcons] at hz
          rcases List.mem_cons.1 hz with rfl | hz
          · exact hb
          · exact hbeh z hz
        · simp only [decide_eq_false_iff_not] at hb
          have hahd : ∀ x, k ≠ 0 → (qdrop q.l c)[k - 1]? = some x → x.1 ≤ t := fun x _ hx => by rw [hget] at hx; cases hx; omega
          leaf (qdrop q.l c) s10 w14 k ho14 x14
      · simp only [decide_eq_false_iff_not] at hc
        have hahd : ∀ x, k ≠ 0 → (qdrop q.l c)[k - 1]? = some x → x.1 ≤ t := fun x h _ => by omega
        leaf (qdrop q.l c) s10 w14 k ho14 x14
end Go.Proofs.Ytbphdgiepimmkaa
