import Derived.Test.YtbphdgiepimmkaaQV
set_option linter.all false
namespace Go.Proofs.Ytbphdgiepimmkaa
open Go Go.Vc Go.RowKit Go.Proofs Go.Que

set_option hygiene false in
local macro "round" : tactic => `(tactic| (
  refine (qdoes_spec hqd hrd hok ⟨hl0, by omega⟩ k n mo c hci).mono ?_
  rintro e w20 ⟨s2, r2, rfl, h20, hr20, t20⟩
  obtain ⟨x20, f20⟩ := t20.fresh xwd fr
  have z20 := t20.mod.size
  refine ⟨_, _, r2, _, rfl, ?_⟩
  refine And.intro (t20.mod.same _ (by omega) (fun hf => hbx hf)) ?_))
/-- A deed that came in. -/
abbrev Dd := Int × Int × Int × Cl
abbrev ddv (d : Dd) : List Value := [.int .i64 d.1, .int .i64 d.2.1, .int .i64 d.2.2.1, .int .i64 d.2.2.2.1, .int .i64 d.2.2.2.2.1, .int .i64 d.2.2.2.2.2]
theorem QueuePlays_law (room : Int) (s : Sl) (z : List Dd) (w : World) (hz : RdK w s 6 (z.map ddv)) (hzi : ∀ d ∈ z, inI d.2.2.2.1 ∧ inI d.2.2.2.2.1 ∧ inI d.2.2.2.2.2) :
    Calls Try.prog n_law17_QueuePlays #[.int .i64 room, .slice s.a s.n s.c] w fun e w' => e = .returned (.bool true) ∧ Ext w w' := by
  apply law17_QueuePlays.vc
  have hsn : s.n = z.length := by rw [hz.n, List.length_map]
  refine (New_spec room w).mono ?_
  rintro e w0 ⟨g, m, rfl, h0, x0, hg, hm⟩
  refine ⟨_, rfl, Br.mk (fun h => by cases h) (fun _ => ?_)⟩
  refine (rNew_spec room w0).mono ?_
  rintro e w2 ⟨rfl, x2⟩
  refine ⟨_, _, ⟨none, 0, 0⟩, rfl, ?_⟩
  intro w6 e6 w7 e7
  have x7 : Ext w2 w7 := ((Ext.rfl' _).of_alloc e6).of_setRow e7 (Nat.le_refl _)
  have z7 : w7.heap.size = w2.heap.size + 1 := by rw [e7, setRow_size, e6]; simp
  have hB7 : Row w7 w2.heap.size [.int .i64 (min (max room 1) 4096), .int .i64 0, .slice none 0 0] 43 := by
    have : Row w6 w2.heap.size [.int .i64 0, .int .i64 0, .slice none 0 0] 43 := by rw [e6]; exact Row.new w2 [_, _, _] _
    rw [e7]; exact this.set [_, _, _]
  have zB : w.heap.size ≤ w2.heap.size := (x0.tr x2).size
  refine ⟨fun n x a b r wr => ∃ k : Nat, x = k ∧ k + n = 60 ∧ ∃ (q : QS) (sq : Sl), a = q.room ∧ b = q.lost ∧ QIs wr g m sq q ∧ OwnK 0 tX 4 wr r (q.l.map itv) ∧ QOk q ∧ 0 ≤ q.lost ∧ q.lost ≤ 2 * k ∧ (∀ x ∈ q.l, x.2.1 < 9) ∧ Ext w wr ∧ (∀ i, Foot g m sq i → w.heap.size ≤ i) ∧ Row wr w2.heap.size [.int .i64 a, .int .i64 b, .slice r.a r.n r.c] 43,
    ⟨60, 0, rfl, rfl, _, _, rfl, rfl, (h0.ext x2).ext x7, OwnK.nil, QOk.empty (by omega), Int.le_refl _, by show (0 : Int) ≤ 2 * ((0 : Nat) : Int); omega, by simp, (x0.tr x2).tr x7, Foot.none hg hm, hB7⟩, ?_⟩
  rintro nn us x a b r wr ⟨kk, rfl, hk, q, sq, rfl, rfl, hq, hr, hok, hl0, hl1, hsm, xr, fr, hB⟩
  have zr := xr.size
  have hBlt := hB.lt
  refine Br.mk (fun hc => Br.mk (fun hc2 => ?_) (fun hc2 => ?_)) (fun hc => ?_)
  · simp only [decide_eq_true_eq] at hc hc2
    have hget : z[kk]? = some (z[kk]'(by omega)) := List.getElem?_eq_getElem (by omega)
    have hci := hzi (z[kk]'(by omega)) (List.getElem_mem _)
    generalize z[kk]'(by omega) = dd at hget hci
    obtain ⟨k, n, mo, c⟩ := dd
    have hzr := hz.ext xr.drew
    have hs := hzr.isSome (by decide) (i := kk) (by simp; omega)
    have hwk : IntKind.wrap .i64 ((kk : Int) + 1) = ((kk + 1 : Nat) : Int) := by rw [wrap_in (by unfold inI; omega)]; omega
    refine ⟨⟨hs, by omega, by omega⟩, k, n, mo, c.1, c.2.1, c.2.2, hzr.loadL (i := kk) (by rw [List.getElem?_map, hget]; rfl), ?_, ?_⟩
    · have hqd := hq.ext (Ext.dr wr)
      have hrd := hr.ext (Ext.dr wr)
      have xwd := xr.drew
      have hBd := hB.ext (Ext.dr wr)
      have hbx : ¬ Foot g m sq w2.heap.size := hqd.no_row hBd (by decide) (by decide)
      have hzd : wr.drew.heap.size = wr.heap.size := rfl
      round
      intro w25 e25 w26 e26 w27 e27
      have x26 : Ext w20 w26 := ((Ext.rfl' _).of_alloc e25).of_setRow e26 (Nat.le_refl _)
      have z26 : w26.heap.size = w20.heap.size + 1 := by rw [e26, setRow_size, e25]; simp
      have hm27 := setRow_mod e27
      have hB20 := t20.mod.row hBd hbx
      have hB26 := hB20.ext x26
      have hB27 : Row w27 w2.heap.size [.int .i64 (deed q k n mo (near c)).room, .int .i64 (deed q k n mo (near c)).lost, .slice r2.a r2.n r2.c] 43 := by rw [e27]; exact hB26.set [.int .i64 (deed q k n mo (near c)).room, .int .i64 (deed q k n mo (near c)).lost, .slice r2.a r2.n r2.c]
      have h27 := (h20.ext x26).keep hm27 (fun b hb hf => (h20.ext x26).no_row hB26 (by decide) (by decide) (show Foot g m s2 w2.heap.size from hf ▸ hb))
      have hr26 := hr20.ext x26
      have hr27 := hm27.ownK hr26 (fun b hb hf => by
        obtain ⟨cs, hrr⟩ := own_row hr26 (by decide) hb
        exact hrr.ne hB26 (by decide) hf)
      have hok2 := deed_ok hok k n mo (near c)
      have hsm2 := deed_small (k := k) (n := n) (m := mo) (c := near c) hsm (around_bd _ 3 (by decide)).2
      have hdl := deed_lost (q := q) k n mo (near c)
      have x27 : Ext w w27 := (x20.tr x26).of_setRow e27 zB
      refine Br.mk (fun hb => by cases hb) (fun _ => ?_)
      refine (like_spec' h27 hr27 hok2 hsm2).mono ?_
      rintro e w28 ⟨rfl, x28⟩
      have z27 : w27.heap.size = w26.heap.size := by rw [e27, setRow_size]
      refine ⟨_, rfl, x28.heap (by omega), x28.heap (by omega), Br.mk (fun hb => by cases hb) (fun _ => ?_)⟩
      exact ⟨nn - 1, by omega, kk + 1, hwk, by omega, _, s2, rfl, rfl, h27.ext x28, hr27.ext x28, hok2, by omega, by omega, hsm2, x27.tr x28, f20, hB27.ext x28⟩
    · intro w30 e30
      have x30 : Ext wr w30 := (Ext.dr wr).of_alloc e30
      have hqd := hq.ext x30
      have hrd := hr.ext x30
      have xwd := xr.tr x30
      have hBd := hB.ext x30
      have hbx : ¬ Foot g m sq w2.heap.size := hqd.no_row hBd (by decide) (by decide)
      have hzd : w30.heap.size = wr.heap.size + 1 := by rw [e30]; simp
      have hbox30 : Row w30 wr.heap.size [.int .i64 0, .int .i64 0, .slice none 0 0] 43 := by rw [e30]; exact Row.new wr.drew [_, _, _] _
      have hb30 : ¬ Foot g m sq wr.heap.size := hqd.no_row hbox30 (by decide) (by decide)
      round
      refine And.intro (t20.mod.same _ (by rw [hzd]; exact Nat.lt_succ_self _) hb30) ?_
      have hbox20 := t20.mod.row hbox30 hb30
      intro w36 e36 w37 e37
      have e36' : w36 = w20.setRow wr.heap.size _ := e36
      have hm36 := setRow_mod e36'
      have hm37 := setRow_mod e37
      have hB20 := t20.mod.row hBd hbx
      have hne : w2.heap.size ≠ wr.heap.size := by omega
      have hB36 := hm36.row hB20 hne
      have hB37 : Row w37 w2.heap.size [.int .i64 (deed q k n mo (near c)).room, .int .i64 (deed q k n mo (near c)).lost, .slice r2.a r2.n r2.c] 43 := by rw [e37]; exact hB36.set [.int .i64 (deed q k n mo (near c)).room, .int .i64 (deed q k n mo (near c)).lost, .slice r2.a r2.n r2.c]
      have h36 := h20.keep hm36 (fun b hb hf => h20.no_row hbox20 (by decide) (by decide) (show Foot g m s2 wr.heap.size from hf ▸ hb))
      have h37 := h36.keep hm37 (fun b hb hf => h36.no_row hB36 (by decide) (by decide) (show Foot g m s2 w2.heap.size from hf ▸ hb))
      have hr36 := hm36.ownK hr20 (fun b hb hf => by
        obtain ⟨cs, hrr⟩ := own_row hr20 (by decide) hb
        exact hrr.ne hbox20 (by decide) hf)
      have hr37 := hm37.ownK hr36 (fun b hb hf => by
        obtain ⟨cs, hrr⟩ := own_row hr36 (by decide) hb
        exact hrr.ne hB36 (by decide) hf)
      have hok2 := deed_ok hok k n mo (near c)
      have hsm2 := deed_small (k := k) (n := n) (m := mo) (c := near c) hsm (around_bd _ 3 (by decide)).2
      have hdl := deed_lost (q := q) k n mo (near c)
      have x37 : Ext w w37 := (x20.of_setRow e36' zr).of_setRow e37 zB
      have z37 : w37.heap.size = w20.heap.size := by rw [e37, setRow_size, e36', setRow_size]
      refine Br.mk (fun hb => by cases hb) (fun _ => ?_)
      refine (like_spec' h37 hr37 hok2 hsm2).mono ?_
      rintro e w38 ⟨rfl, x38⟩
      refine ⟨_, rfl, x38.heap (by omega), x38.heap (show wr.heap.size < w37.heap.size by omega), Br.mk (fun hb => by cases hb) (fun _ => ?_)⟩
      exact ⟨nn - 1, by omega, kk + 1, hwk, by omega, _, s2, rfl, rfl, h37.ext x38, hr37.ext x38, hok2, by omega, by omega, hsm2, x37.tr x38, f20, hB37.ext x38⟩
  · refine (lives_spec wr).mono ?_
    rintro e w40 ⟨rfl, x40⟩
    exact ⟨_, rfl, x40.heap (by omega), rfl, xr.tr x40⟩
  · refine (lives_spec wr).mono ?_
    rintro e w40 ⟨rfl, x40⟩
    exact ⟨_, rfl, x40.heap (by omega), rfl, xr.tr x40⟩
end Go.Proofs.Ytbphdgiepimmkaa
