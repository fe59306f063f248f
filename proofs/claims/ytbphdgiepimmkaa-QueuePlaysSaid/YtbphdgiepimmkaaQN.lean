import Derived.Test.YtbphdgiepimmkaaQM
set_option linter.all false
namespace Go.Proofs.Ytbphdgiepimmkaa
open Go Go.Vc Go.RowKit Go.Proofs Go.Que

set_option hygiene false in
local macro "keeps" h:term : tactic => `(tactic| repeat (refine And.intro (($h).block _ (by omega)) ?_))
theorem clv_one (c : Cl) : One (clv c) := by
  intro u hu; simp at hu; rcases hu with rfl | rfl | rfl <;> rfl
theorem rDue_spec {w : World} {s : Sl} {q : QS} (ho : OwnK 0 tX 4 w s (q.l.map itv)) (hq : QOk q) (now many : Int) :
    Calls Try.prog n_ref17_Due #[.agg #[.int .i64 q.room, .int .i64 q.lost, .slice s.a s.n s.c], .int .i64 now, .int .i64 many] w fun e w' => (∃ s' so : Sl, e = .returned (.tuple #[.agg #[.int .i64 (qdue q now many).1.room, .int .i64 (qdue q now many).1.lost, .slice s'.a s'.n s'.c], .slice so.a so.n so.c]) ∧ OwnK 0 tX 4 w' s' ((qdue q now many).1.l.map itv) ∧ OwnK w.heap.size tCell 3 w' so ((qdue q now many).2.map clv)) ∧ Ext w w' := by
  apply ref17_Due.vc
  have hsn : s.n = q.l.length := by rw [(ho.rd (by decide)).n, List.length_map]
  have hlen := hq.len
  have hroom := hq.room
  intro w0 e0 w1 e1
  have x1 : Ext w w1 := ((Ext.rfl' w).of_alloc e0).of_alloc e1
  have z0 : w0.heap.size = w.heap.size + 1 := by rw [e0]; simp
  have z1 : w1.heap.size = w.heap.size + 2 := by rw [e1]; simp [z0]
  have hcd : qcount q.l now many = min (q.l.takeWhile fun y => decide (y.1 ≤ now)).length many.toNat := rfl
  have hcl := qcount_le q.l now many
  unfold qdue
  simp only
  generalize hcn : qcount q.l now many = cnt at hcd hcl
  refine ⟨fun n x so sr wr => Below w1.heap.size w1 wr ∧ ∃ j : Nat, x = j ∧ j + n = q.l.length ∧ OwnK w1.heap.size tCell 3 wr so ((q.l.take (min j cnt)).map fun y => clv y.2) ∧ OwnK w1.heap.size tX 4 wr sr (((q.l.take j).drop cnt).map itv), ⟨q.l.length, trivial, trivial, Below.refl _ _, 0, rfl, by omega, by simp; exact OwnK.nil, by simp; exact OwnK.nil⟩, ?_⟩
  rintro n us x so sr wr ⟨xr, j, rfl, hj, hout, hrest⟩
  have hown := (ho.ext x1).ext xr
  have hrd := hown.rd (by decide)
  have zr := xr.size
  have hson : so.n = min j cnt := by rw [(hout.rd (by decide)).n, List.length_map, List.length_take]; omega
  have hsrn : sr.n = j - cnt := by rw [(hrest.rd (by decide)).n, List.length_map, List.length_drop, List.length_take]; omega
  refine Br.mk (fun hc => ?_) (fun hc => ?_)
  · simp only [decide_eq_true_eq] at hc
    have hget : q.l[j]? = some (q.l[j]'(by omega)) := List.getElem?_eq_getElem (by omega)
    generalize q.l[j]'(by omega) = y at hget
    have hat := takeWhile_at hq.sorted now hget
    have hs := hrd.isSome (by decide) (i := j) (by simp; omega)
    have hin : InB s.a (j : Int) s.n := ⟨hs, by omega, by omega⟩
    have hnn : ∀ p ∈ nnC (padd s.a ((j : Int).toNat * 4)), p := nnC_iff.2 (by rw [padd_isSome]; exact hs)
    have hwj : IntKind.wrap .i64 ((j : Int) + 1) = ((j + 1 : Nat) : Int) := by rw [wrap_in (by unfold inI; omega)]; omega
    have htk : q.l.take (j + 1) = q.l.take j ++ [y] := by rw [List.take_add_one, hget]; rfl
    -- the item stays
    have stay : ¬ (y.1 ≤ now ∧ ((min j cnt : Nat) : Int) < many) → InB s.a (j : Int) s.n ∧ ∃ (x24 : Int) (x25 : Int) (x26 : Int) (x27 : Int), LoadL wr (padd s.a ((j : Int).toNat * 4)) 0 [.int .i64 x24, .int .i64 x25, .int .i64 x26, .int .i64 x27] ∧
        ∀ w28 : World, w28 = wr.alloc (.cells #[.int .i64 x24, .int .i64 x25, .int .i64 x26, .int .i64 x27] 67) →
        AppPre 32 4 w28 ⟨sr.a, sr.n, sr.c⟩ 1 [.int .i64 x24, .int .i64 x25, .int .i64 x26, .int .i64 x27] ∧ ∀ (s29 : Sl) (w30 : World), AppRes 67 4 w28 ⟨sr.a, sr.n, sr.c⟩ 1 [.int .i64 x24, .int .i64 x25, .int .i64 x26, .int .i64 x27] s29 w30 → w30.heap[w.heap.size]? = w28.heap[w.heap.size]? ∧ w30.heap[w0.heap.size]? = w28.heap[w0.heap.size]? ∧ w30.heap[wr.heap.size]? = w28.heap[wr.heap.size]? ∧
          ∃ n9, n9 < n ∧ True ∧ True ∧ Below w1.heap.size w1 w30 ∧ ∃ j' : Nat, IntKind.wrap .i64 ((j : Int) + 1) = j' ∧ j' + n9 = q.l.length ∧ OwnK w1.heap.size tCell 3 w30 ⟨so.a, so.n, so.c⟩ ((q.l.take (min j' cnt)).map fun y => clv y.2) ∧ OwnK w1.heap.size tX 4 w30 ⟨s29.a, s29.n, s29.c⟩ (((q.l.take j').drop cnt).map itv) := by
      intro hno
      have hjc : cnt ≤ j := by omega
      refine ⟨hin, y.1, y.2.1, y.2.2.1, y.2.2.2, RdK.item hrd hget, fun w28 e28 => ?_⟩
      have x28 : Ext wr w28 := (Ext.rfl' _).of_alloc e28
      have z28 : w28.heap.size = wr.heap.size + 1 := by rw [e28]; simp
      obtain ⟨c1, c2⟩ := (hrest.ext x28).append (news := itv y) (bytes := 32) (by omega) rfl (itv_one y) (by omega) (by omega)
      refine ⟨c1, fun s29 w30 hres => ?_⟩
      obtain ⟨d1, d2, d3, d4, d5⟩ := c2 s29 w30 hres
      keeps d3
      refine And.intro (d4 _ (fun e => by have := (hrest.own.lt e).2; omega) (by omega)) ?_
      refine ⟨n - 1, by omega, trivial, trivial, (xr.trans (Below.mono x28 zr)).trans d3, j + 1, hwj, by omega, ?_, ?_⟩
      · rw [Nat.min_eq_right (by omega : cnt ≤ j + 1)]
        rw [Nat.min_eq_right hjc] at hout
        refine (hout.ext x28).keep fun b hb => d4 b (fun e => ?_) (by have := (hout.own.lt hb).2; omega)
        obtain ⟨cs, hr⟩ := own_row hout (by decide) hb
        obtain ⟨cs', hr'⟩ := own_row hrest (by decide) e
        exact hr.ne hr' (by decide) rfl
      · rw [htk, List.drop_append_of_le_length (by rw [List.length_take]; omega), List.map_append]
        exact d1
    refine ⟨hin, AndL_iff.2 ⟨hnn, y.1, hrd.at (i := j) (r := itv y) (by rw [List.getElem?_map, hget]; rfl) rfl, Br.mk (fun hb => ?_) (fun hb => ?_)⟩⟩
    · simp only [decide_eq_true_eq] at hb
      refine Br.mk (fun hb2 => ?_) (fun hb2 => ?_)
      · simp only [decide_eq_true_eq] at hb2
        have hjc : j < cnt := by omega
        refine ⟨hin, AndL_iff.2 ⟨hnn, y.2.1, y.2.2.1, y.2.2.2, ?_, fun w14 e14 => ?_⟩⟩
        · rw [padd_padd]
          refine LoadL_of fun i v hi => ?_
          have h1 := hrd.rd j (itv y) (by rw [List.getElem?_map, hget]; rfl)
          rw [Nat.zero_add, padd_padd, Nat.add_assoc]
          exact h1 (1 + i) v (by rw [Nat.add_comm]; exact hi)
        have x14 : Ext wr w14 := (Ext.rfl' _).of_alloc e14
        have z14 : w14.heap.size = wr.heap.size + 1 := by rw [e14]; simp
        obtain ⟨c1, c2⟩ := (hout.ext x14).append (news := clv y.2) (bytes := 24) (by omega) rfl (clv_one _) (by omega) (by omega)
        refine ⟨c1, fun s15 w16 hres => ?_⟩
        obtain ⟨d1, d2, d3, d4, d5⟩ := c2 s15 w16 hres
        keeps d3
        refine And.intro (d4 _ (fun e => by have := (hout.own.lt e).2; omega) (by omega)) ?_
        refine ⟨n - 1, by omega, trivial, trivial, (xr.trans (Below.mono x14 zr)).trans d3, j + 1, hwj, by omega, ?_, ?_⟩
        · rw [Nat.min_eq_left (by omega : j + 1 ≤ cnt), htk, List.map_append]
          rw [Nat.min_eq_left (by omega)] at d1
          exact d1
        · rw [List.drop_of_length_le (by rw [List.length_take]; omega)]
          rw [List.drop_of_length_le (by rw [List.length_take]; omega)] at hrest
          refine (hrest.ext x14).keep fun b hb => d4 b (fun e => ?_) (by have := (hrest.own.lt hb).2; omega)
          obtain ⟨cs, hr⟩ := own_row hrest (by decide) hb
          obtain ⟨cs', hr'⟩ := own_row hout (by decide) e
          exact hr.ne hr' (by decide) rfl
      · simp only [decide_eq_false_iff_not] at hb2
        exact stay fun h => hb2 (by omega)
    · simp only [decide_eq_false_iff_not] at hb
      exact stay fun h => hb h.1
  · simp only [decide_eq_false_iff_not] at hc
    have hj' : j = q.l.length := by omega
    intro w31 e31 w32 e32
    have xf : Ext w wr := x1.trans (Below.mono xr x1.size)
    have x32 := (xf.of_setRow e31 (Nat.le_refl _)).of_setRow e32 (by omega)
    rw [hj', List.take_length] at hrest
    rw [Nat.min_eq_right (by omega)] at hout
    refine ⟨⟨sr, so, rfl, (OwnK.boxed (OwnK.boxed hrest (by omega) e31) (by omega) e32).low (Nat.zero_le _), ?_⟩, x32⟩
    rw [List.map_map]
    have h31 : OwnK w1.heap.size tCell 3 w31 so ((q.l.take cnt).map fun y => clv y.2) := hout.keep fun b hb => by rw [e31]; exact setRow_other _ _ _ _ (by have := (hout.own.lt hb).1; omega)
    have h32 : OwnK w1.heap.size tCell 3 w32 so ((q.l.take cnt).map fun y => clv y.2) := h31.keep fun b hb => by rw [e32]; exact setRow_other _ _ _ _ (by have := (h31.own.lt hb).1; omega)
    exact h32.low (by omega)
end Go.Proofs.Ytbphdgiepimmkaa
