import Derived.Test.YtfipllblcnahdaaDoorKY
import Derived.Test.YtfipllblcnahdaaDoorLP
set_option linter.all false
namespace Go.Proofs.YtfipllblcnahdaaDoor
open Go Go.Vc Go.RowKit Go.Proofs Go.Chk Go.Runs

theorem ChunkPlays_law (seed : Int) (p : Po) (s : Sl) (z : List De) (hp : inI p.1 ∧ inI p.2) (w : World) (hz : RdK w s 8 (z.map dvs)) :
    Calls Tryd.prog n_law11_ChunkPlays #[.int .i64 seed, pv p, .slice s.a s.n s.c] w fun e w' => e = .returned (.bool true) ∧ Ext w w' := by
  apply law11_ChunkPlays.vc
  have hsn : s.n = z.length := by rw [hz.n, List.length_map]
  intro w0 e0
  have z0 : w0.heap.size = w.heap.size + 1 := by rw [e0]; simp
  have x0 : Ext w w0 := (Ext.rfl' w).of_alloc e0
  have hb0 : Row w0 w.heap.size [.int .i64 p.1, .int .i64 p.2] tPo := by rw [e0]; exact Row.new w [_, _] _
  clear e0
  refine (place_spec p hp w0).mono ?_
  rintro e w1 ⟨rfl, x1⟩
  have z1 := x1.size
  refine ⟨_, _, rfl, x1.heap (by omega), ?_⟩
  have hP := place_ok p
  have hPs := place_small p
  generalize placeK p = P at *
  intro w4 e4
  have hb4 : Row w4 w.heap.size [.int .i64 P.1, .int .i64 P.2] tPo := by rw [e4]; exact (hb0.ext x1).set [_, _]
  have x4 : Ext w w4 := (x0.tr x1).of_setRow e4 (Nat.le_refl _)
  have z4 : w4.heap.size = w1.heap.size := by rw [e4, setRow_size]
  clear e4
  refine (Make_spec seed P hP w4).mono ?_
  rintro e w5 ⟨g, s0, rfl, h5, x5, hg⟩
  have z5 := x5.size
  refine ⟨_, rfl, x5.heap (by omega), Br.mk (fun h => by cases h) (fun _ => ?_)⟩
  refine (rMake_spec seed P hP w5).mono ?_
  rintro e w7 ⟨s10, rfl, o7, x7⟩
  have z7 := x7.size
  refine ⟨_, _, s10, rfl, x7.heap (by omega), ?_⟩
  intro w11 e11 w12 e12
  have x12 : Ext w7 w12 := ((Ext.rfl' _).of_alloc e11).of_setRow e12 (Nat.le_refl _)
  have hr12 : Row w12 w7.heap.size [.int .i64 P.1, .int .i64 P.2, .slice s10.a s10.n s10.c] tK := by
    have : Row w11 w7.heap.size [.int .i64 0, .int .i64 0, .slice none 0 0] tK := by rw [e11]; exact Row.new w7 [_, _, _] _
    rw [e12]; exact this.set [_, _, _]
  clear e11 e12
  have hpl0 : Pl w w12 g s0 s10 P (made seed P) w.heap.size w7.heap.size :=
    ⟨(h5.ext x7).ext x12, OwnK.ext (OwnK.low o7 (Nat.zero_le _)) x12, x4.tr (x5.tr (x7.tr x12)), by omega, hb4.ext (x5.tr (x7.tr x12)), hr12, by omega⟩
  generalize hB : w7.heap.size = b1 at *
  clear hr12 hb4 o7 h5
  generalize made seed P = M at *
  refine ⟨fun n i x y sr wr => ∃ (k : Nat) (sg : Sl), i = k ∧ k + n = z.length ∧ x = P.1 ∧ y = P.2 ∧ Pl w wr g sg sr P (deedsK P M z k) w.heap.size b1, ⟨z.length, rfl, 0, s0, rfl, by omega, rfl, rfl, hpl0⟩, ?_⟩
  rintro n us i x y sr wr ⟨k, sg, rfl, hkn, rfl, rfl, hpl⟩
  refine Br.mk (fun hc => Br.mk (fun hc2 => ?_) (fun hc2 => ?_)) (fun hc => ?_)
  · simp only [decide_eq_true_eq] at hc hc2
    obtain ⟨d, hd, hload, hinb⟩ := deeds_row hz (hpl.x.drew) (k := k) (by omega)
    have hwk : IntKind.wrap .i64 ((k : Int) + 1) = ((k + 1 : Nat) : Int) := by rw [wrap_in (by unfold inI; omega)]; omega
    refine ⟨hinb, d.1, d.2.1, d.2.2.1.1, d.2.2.1.2.1, d.2.2.1.2.2, d.2.2.2.1, d.2.2.2.2.1, d.2.2.2.2.2, hload, ?_, ?_⟩
    · have hpd := hpl.ext (Ext.dr wr)
      refine (does_spec hpd.k hpd.o hP hPs d).mono ?_
      rintro e wd ⟨⟨sr2, rfl, o2⟩, s2, h2, m2, f2⟩
      refine ⟨_, _, sr2, _, rfl, keepb hpd.k m2 hpd.r0 (by decide), keepb hpd.k m2 hpd.r1 (by decide), ?_⟩
      intro wx ex we ee wf ef
      obtain ⟨hf, mf, zf⟩ := hpl.roundA h2 o2 m2 ex ee ef
      clear ex ee ef
      have zt : wd.heap.size < wf.heap.size := by omega
      (
        refine Br.mk (fun hb => by cases hb) (fun _ => ?_)
        have hfd := Pl.ext hf (Ext.dr wf)
        have zfd : (World.drew wf).heap.size = (wf).heap.size := rfl
        refine (Runs_spec hfd.k).mono ?_
        rintro e wg hh
        obtain ⟨s39, rfl, o39, xg⟩ := hh
        have hfg := hfd.ext xg
        have zg := xg.size
        refine ⟨s39, rfl, xg.heap hfd.lt0.1, xg.heap hfd.lt0.2.1, xg.heap (by rw [zfd]; exact zt), hfg.r1.loadL (fun j hj => by simp at hj; subst hj; rfl), ?_⟩
        refine (ref05_Same_spec s39 _ _ _ wg (OwR.rdr o39) (OwR.rdr hfg.o) (cells_pos hfg.k.len).2.2).mono ?_
        rintro e wh hh
        obtain ⟨rfl, xh⟩ := hh
        refine ⟨_, rfl, xh.heap hfg.lt0.1, xh.heap hfg.lt0.2.1, xh.heap (by have := zt; omega), Br.mk (fun hb => by simp at hb) (fun _ => ?_)⟩
        exact ⟨n - 1, by omega, rfl, k + 1, s2, hwk, by omega, rfl, rfl, by rw [deedsK_succ hd]; exact hfg.ext xh⟩)
    · intro wq eq
      have hxq : Ext wr wq := (Ext.dr wr).of_alloc eq
      have hq : Row wq wr.drew.heap.size [.int .i64 0, .int .i64 0, .slice none 0 0] tK := by rw [eq]; exact Row.new wr.drew [_, _, _] _
      have hpd := hpl.ext hxq
      refine (does_spec hpd.k hpd.o hP hPs d).mono ?_
      rintro e wd ⟨⟨sr2, rfl, o2⟩, s2, h2, m2, f2⟩
      refine ⟨_, _, sr2, _, rfl, keepb hpd.k m2 hpd.r0 (by decide), keepb hpd.k m2 hpd.r1 (by decide), keepb hpd.k m2 hq (by decide), ?_⟩
      intro we ee wf ef
      obtain ⟨hf, mf, zf⟩ := hpl.roundB eq h2 o2 m2 ee ef
      clear ee ef
      have zt : wr.drew.heap.size < wf.heap.size := by have := hq.lt; have := m2.size; omega
      (
        refine Br.mk (fun hb => by cases hb) (fun _ => ?_)
        have hfd := Pl.ext hf (Ext.dr wf)
        have zfd : (World.drew wf).heap.size = (wf).heap.size := rfl
        refine (Runs_spec hfd.k).mono ?_
        rintro e wg hh
        obtain ⟨s39, rfl, o39, xg⟩ := hh
        have hfg := hfd.ext xg
        have zg := xg.size
        refine ⟨s39, rfl, xg.heap hfd.lt0.1, xg.heap hfd.lt0.2.1, xg.heap (by rw [zfd]; exact zt), hfg.r1.loadL (fun j hj => by simp at hj; subst hj; rfl), ?_⟩
        refine (ref05_Same_spec s39 _ _ _ wg (OwR.rdr o39) (OwR.rdr hfg.o) (cells_pos hfg.k.len).2.2).mono ?_
        rintro e wh hh
        obtain ⟨rfl, xh⟩ := hh
        refine ⟨_, rfl, xh.heap hfg.lt0.1, xh.heap hfg.lt0.2.1, xh.heap (by have := zt; omega), Br.mk (fun hb => by simp at hb) (fun _ => ?_)⟩
        exact ⟨n - 1, by omega, rfl, k + 1, s2, hwk, by omega, rfl, rfl, by rw [deedsK_succ hd]; exact hfg.ext xh⟩)
  · (
      have hd := hpl.ext (Ext.dr wr)
      refine nnS (nnS ⟨P.1, P.2, hd.k.pos, ?_⟩)
      refine (Place_spec P wr.drew).mono ?_
      rintro e wg hh
      obtain ⟨rfl, xg⟩ := hh
      have hg2 := hd.ext xg
      refine ⟨_, _, rfl, xg.heap hd.lt0.1, xg.heap hd.lt0.2.1, hg2.r0.loadL (fun j hj => by rw [Nat.zero_add]), yes (by simp) ?_⟩
      refine (lives11_spec wg).mono ?_
      rintro e wh hh
      obtain ⟨rfl, xh⟩ := hh
      exact ⟨_, rfl, xh.heap hg2.lt0.1, xh.heap hg2.lt0.2.1, (hg2.ext xh).r0.loadL (fun j hj => by rw [Nat.zero_add]), rfl, (hg2.ext xh).x⟩)
  · (
      have hd := hpl.ext (Ext.dr wr)
      refine nnS (nnS ⟨P.1, P.2, hd.k.pos, ?_⟩)
      refine (Place_spec P wr.drew).mono ?_
      rintro e wg hh
      obtain ⟨rfl, xg⟩ := hh
      have hg2 := hd.ext xg
      refine ⟨_, _, rfl, xg.heap hd.lt0.1, xg.heap hd.lt0.2.1, hg2.r0.loadL (fun j hj => by rw [Nat.zero_add]), yes (by simp) ?_⟩
      refine (lives11_spec wg).mono ?_
      rintro e wh hh
      obtain ⟨rfl, xh⟩ := hh
      exact ⟨_, rfl, xh.heap hg2.lt0.1, xh.heap hg2.lt0.2.1, (hg2.ext xh).r0.loadL (fun j hj => by rw [Nat.zero_add]), rfl, (hg2.ext xh).x⟩)
end Go.Proofs.YtfipllblcnahdaaDoor
