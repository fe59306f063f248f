import Derived.Test.YtfipllblcnahdaaDoorKY
import Derived.Test.YtfipllblcnahdaaDoorLT
set_option linter.all false
namespace Go.Proofs.YtfipllblcnahdaaDoor
open Go Go.Vc Go.RowKit Go.Proofs Go.Chk Go.Runs

/-- A further chunk, and the document's first one. -/
structure Cl (wr : World) (g2 : Nat) (s2 s12 : Sl) (P : Po) (M : List Int) (b2 : Nat) : Prop where
  k : KIs wr g2 s2 P M
  o : OwR 0 wr s12 (ofC M)
  r : Row wr b2 [.int .i64 P.1, .int .i64 P.2, .slice s12.a s12.n s12.c] tK
theorem Cl.ext {wr w2 : World} {g2 : Nat} {s2 s12 : Sl} {P : Po} {M : List Int} {b2 : Nat} (h : Cl wr g2 s2 s12 P M b2) (x : Ext wr w2) : Cl w2 g2 s2 s12 P M b2 := ⟨h.k.ext x, OwnK.ext h.o x, h.r.ext x⟩
theorem Cl.keep {w wr wf : World} {g2 : Nat} {s2 s12 : Sl} {P : Po} {M : List Int} {b2 : Nat} (h : Cl wr g2 s2 s12 P M b2) {g b0 b1 : Nat} {sg sr : Sl} {C : List Int} (hp : Pl w wr g sg sr P C b0 b1) (hm : Mod (fun i => i = g ∨ i = b1) wr wf) (n1 : g2 ≠ g) (n2 : b2 ≠ b1) : Cl wf g2 s2 s12 P M b2 := by
  have hn : ∀ {i : Nat} {cs : List Value} {t : TypeId}, Row wr i cs t → t ≠ tChunk → t ≠ tK → ¬ (i = g ∨ i = b1) := fun hr h1 h2 e => by
    rcases e with e | e
    · exact hr.ne hp.k.row h1 e
    · exact hr.ne hp.r1 h2 e
  refine ⟨h.k.keep hm (fun e => ?_) (fun b hb => ?_), hm.ownK h.o (fun b hb => ?_), hm.row h.r (fun e => ?_)⟩
  · rcases e with e | e
    · exact n1 e
    · exact h.k.row.ne hp.r1 (by decide) e
  · obtain ⟨cs, hr⟩ := own_row h.k.own (by decide) hb
    exact hn hr (by decide) (by decide)
  · obtain ⟨cs, hr⟩ := own_row h.o (by decide) hb
    exact hn hr (by decide) (by decide)
  · rcases e with e | e
    · exact h.r.ne hp.k.row (by decide) e
    · exact n2 e
theorem ChunkTops_law (seed : Int) (p : Po) (s : Sl) (z : List De) (x z' : Int) (hp : inI p.1 ∧ inI p.2) (w : World) (hz : RdK w s 8 (z.map dvs)) :
    Calls Tryd.prog n_law11_ChunkTops #[.int .i64 seed, pv p, .slice s.a s.n s.c, .int .i64 x, .int .i64 z'] w fun e w' => e = .returned (.bool true) ∧ Ext w w' := by
  apply law11_ChunkTops.vc
  have hsn : s.n = z.length := by rw [hz.n, List.length_map]
  intro w0 e0
  have z0 : w0.heap.size = w.heap.size + 1 := by rw [e0]; simp
  have x0 : Ext w w0 := (Ext.rfl' w).of_alloc e0
  have hb0 : Row w0 w.heap.size [.int .i64 p.1, .int .i64 p.2] tPo := by rw [e0]; exact Row.new w [_, _] _
  clear e0
  refine (place_spec p hp w0).mono ?_
  rintro e w1 ⟨rfl, x1⟩
  have z1 := x1.size
  refine ⟨_, _, rfl, x1.heap (by omega), ?_⟩
  have hP := place_ok p
  have hPs := place_small p
  generalize placeK p = P at *
  intro w4 e4
  have hb4 : Row w4 w.heap.size [.int .i64 P.1, .int .i64 P.2] tPo := by rw [e4]; exact (hb0.ext x1).set [_, _]
  have x4 : Ext w w4 := (x0.tr x1).of_setRow e4 (Nat.le_refl _)
  have z4 : w4.heap.size = w1.heap.size := by rw [e4, setRow_size]
  clear e4
  refine (Make_spec seed P hP w4).mono ?_
  rintro e w5 ⟨g, s0, rfl, h5, x5, hg⟩
  have z5 := x5.size
  refine ⟨_, rfl, x5.heap (by omega), Br.mk (fun h => by cases h) (fun _ => ?_)⟩
  refine (Clone_spec h5).mono ?_
  rintro e w7 ⟨g2, s2, rfl, h7, x7, hg2⟩
  have z7 := x7.size
  refine ⟨_, rfl, x7.heap (by omega), Br.mk (fun h => by cases h) (fun _ => ?_)⟩
  refine (rMake_spec seed P hP w7).mono ?_
  rintro e w9 ⟨s12, rfl, o9, x9⟩
  have z9 := x9.size
  refine ⟨_, _, s12, rfl, x9.heap (by omega), ?_⟩
  intro w13 e13 w14 e14 w15 e15 w16 e16
  have x14 : Ext w9 w14 := ((Ext.rfl' _).of_alloc e13).of_setRow e14 (Nat.le_refl _)
  have z14 : w14.heap.size = w9.heap.size + 1 := by rw [e14, setRow_size, e13]; simp
  have x16 : Ext w14 w16 := ((Ext.rfl' _).of_alloc e15).of_setRow e16 (Nat.le_refl _)
  have hr14 : Row w14 w9.heap.size [.int .i64 P.1, .int .i64 P.2, .slice s12.a s12.n s12.c] tK := by
    have : Row w13 w9.heap.size [.int .i64 0, .int .i64 0, .slice none 0 0] tK := by rw [e13]; exact Row.new w9 [_, _, _] _
    rw [e14]; exact this.set [_, _, _]
  have hr16 : Row w16 w14.heap.size [.int .i64 P.1, .int .i64 P.2, .slice s12.a s12.n s12.c] tK := by
    have : Row w15 w14.heap.size [.int .i64 0, .int .i64 0, .slice none 0 0] tK := by rw [e15]; exact Row.new w14 [_, _, _] _
    rw [e16]; exact this.set [_, _, _]
  clear e13 e14 e15 e16
  have x1416 := x14.tr x16
  have o16 := OwnK.ext (OwnK.low o9 (Nat.zero_le _)) x1416
  have hpl0 : Pl w w16 g s0 s12 P (made seed P) w.heap.size w9.heap.size :=
    ⟨((h5.ext x7).ext x9).ext x1416, o16, x4.tr (x5.tr (x7.tr (x9.tr x1416))), by omega, hb4.ext (x5.tr (x7.tr (x9.tr x1416))), hr14.ext x16, by omega⟩
  have hcl0 : Cl w16 g2 s2 s12 P (made seed P) w14.heap.size := ⟨(h7.ext x9).ext x1416, o16, hr16⟩
  have hgne : g2 ≠ g := by have := h5.row.lt; omega
  have hbne : w14.heap.size ≠ w9.heap.size := by omega
  generalize hB : w9.heap.size = b1 at *
  generalize hB2 : w14.heap.size = b2 at *
  clear hr14 hr16 hb4 o9 o16 h5 h7
  generalize made seed P = M at *
  refine ⟨fun n i x y sr wr => ∃ (k : Nat) (sg : Sl), i = k ∧ k + n = z.length ∧ x = P.1 ∧ y = P.2 ∧ Pl w wr g sg sr P (deedsK P M z k) w.heap.size b1 ∧ Cl wr g2 s2 s12 P M b2, ⟨z.length, rfl, rfl, 0, s0, rfl, by omega, rfl, rfl, hpl0, hcl0⟩, ?_⟩
  rintro n us i a b sr wr ⟨k, sg, rfl, hkn, rfl, rfl, hpl, hcl⟩
  refine Br.mk (fun hc => Br.mk (fun hc2 => ?_) (fun hc2 => ?_)) (fun hc => ?_)
  · simp only [decide_eq_true_eq] at hc hc2
    obtain ⟨d, hd, hload, hinb⟩ := deeds_row hz (hpl.x.drew) (k := k) (by omega)
    have hwk : IntKind.wrap .i64 ((k : Int) + 1) = ((k + 1 : Nat) : Int) := by rw [wrap_in (by unfold inI; omega)]; omega
    refine ⟨hinb, d.1, d.2.1, d.2.2.1.1, d.2.2.1.2.1, d.2.2.1.2.2, d.2.2.2.1, d.2.2.2.2.1, d.2.2.2.2.2, hload, ?_, ?_⟩
    · have hpd := hpl.ext (Ext.dr wr)
      have hcd := hcl.ext (Ext.dr wr)
      refine (does_spec hpd.k hpd.o hP hPs d).mono ?_
      rintro e wd ⟨⟨sr2, rfl, o2⟩, s3, h2, m2, f2⟩
      refine ⟨_, _, sr2, _, rfl, keepb hpd.k m2 hpd.r0 (by decide), keepb hpd.k m2 hpd.r1 (by decide), keepb hpd.k m2 hcd.r (by decide), ?_⟩
      intro wx ex we ee wf ef
      obtain ⟨hf, mf, zf⟩ := hpl.roundA h2 o2 m2 ex ee ef
      refine Br.mk (fun hb => by cases hb) (fun _ => ?_)
      exact ⟨n - 1, by omega, rfl, rfl, k + 1, s3, hwk, by omega, rfl, rfl, by rw [deedsK_succ hd]; exact hf, hcl.keep hpl mf hgne hbne⟩
    · intro wq eq
      have hxq : Ext wr wq := (Ext.dr wr).of_alloc eq
      have hq : Row wq wr.drew.heap.size [.int .i64 0, .int .i64 0, .slice none 0 0] tK := by rw [eq]; exact Row.new wr.drew [_, _, _] _
      have hpd := hpl.ext hxq
      have hcd := hcl.ext hxq
      refine (does_spec hpd.k hpd.o hP hPs d).mono ?_
      rintro e wd ⟨⟨sr2, rfl, o2⟩, s3, h2, m2, f2⟩
      refine ⟨_, _, sr2, _, rfl, keepb hpd.k m2 hpd.r0 (by decide), keepb hpd.k m2 hpd.r1 (by decide), keepb hpd.k m2 hcd.r (by decide), keepb hpd.k m2 hq (by decide), ?_⟩
      intro we ee wf ef
      obtain ⟨hf, mf, zf⟩ := hpl.roundB eq h2 o2 m2 ee ef
      refine Br.mk (fun hb => by cases hb) (fun _ => ?_)
      exact ⟨n - 1, by omega, rfl, rfl, k + 1, s3, hwk, by omega, rfl, rfl, by rw [deedsK_succ hd]; exact hf, hcl.keep hpl mf hgne hbne⟩
  · (
      have hd := hpl.ext (Ext.dr wr)
      have cd := hcl.ext (Ext.dr wr)
      refine (Top_spec hd.k x z').mono ?_
      rintro e wa hh
      obtain ⟨rfl, xa⟩ := hh
      have ha := hd.ext xa
      have ca := cd.ext xa
      refine ⟨_, rfl, xa.heap hd.lt0.1, xa.heap hd.lt0.2.1, xa.heap cd.r.lt, ha.r1.loadL (fun j hj => by rw [Nat.zero_add]), ?_⟩
      refine (rTop_spec (OwR.rdr ha.o) ha.k.len x z').mono ?_
      rintro e wb hh
      obtain ⟨rfl, xb⟩ := hh
      have hb := ha.ext xb
      have cb := ca.ext xb
      refine ⟨_, rfl, xb.heap ha.lt0.1, xb.heap ha.lt0.2.1, xb.heap ca.r.lt, yes (by simp) ?_⟩
      refine (Top_spec cb.k x z').mono ?_
      rintro e wc hh
      obtain ⟨rfl, xc⟩ := hh
      have hc' := hb.ext xc
      have cc := cb.ext xc
      refine ⟨_, rfl, xc.heap hb.lt0.1, xc.heap hb.lt0.2.1, xc.heap cb.r.lt, cc.r.loadL (fun j hj => by rw [Nat.zero_add]), ?_⟩
      refine (rTop_spec (OwR.rdr cc.o) cc.k.len x z').mono ?_
      rintro e wd hh
      obtain ⟨rfl, xd⟩ := hh
      have hdd := hc'.ext xd
      have cdd := cc.ext xd
      refine ⟨_, rfl, xd.heap hc'.lt0.1, xd.heap hc'.lt0.2.1, xd.heap cc.r.lt, yes (by simp) ?_⟩
      refine (Runs_spec cdd.k).mono ?_
      rintro e we hh
      obtain ⟨s59, rfl, o59, xe⟩ := hh
      have he := hdd.ext xe
      have ce := cdd.ext xe
      refine ⟨s59, rfl, xe.heap hdd.lt0.1, xe.heap hdd.lt0.2.1, xe.heap cdd.r.lt, ce.r.loadL (fun j hj => by simp at hj; subst hj; rfl), ?_⟩
      refine (ref05_Same_spec s59 _ _ _ we (OwR.rdr o59) (OwR.rdr ce.o) (cells_pos ce.k.len).2.2).mono ?_
      rintro e wf hh
      obtain ⟨rfl, xf⟩ := hh
      have hf := he.ext xf
      have cf := ce.ext xf
      refine ⟨_, rfl, xf.heap he.lt0.1, xf.heap he.lt0.2.1, xf.heap ce.r.lt, yes (by simp) ?_⟩
      refine (Same_spec hf.k cf.k).mono ?_
      rintro e wg hh
      obtain ⟨rfl, xg⟩ := hh
      have hg' := hf.ext xg
      have cg := cf.ext xg
      refine ⟨_, rfl, xg.heap hf.lt0.1, xg.heap hf.lt0.2.1, xg.heap cf.r.lt, cg.r.loadL (fun j hj => by simp at hj; subst hj; rfl), hg'.r1.loadL (fun j hj => by simp at hj; subst hj; rfl), ?_⟩
      refine (ref05_Same_spec _ _ _ _ wg (OwR.rdr hg'.o) (OwR.rdr cg.o) (cells_pos hg'.k.len).2.2).mono ?_
      rintro e wh hh
      obtain ⟨rfl, xh⟩ := hh
      have hh' := hg'.ext xh
      have ch := cg.ext xh
      refine ⟨_, rfl, xh.heap hg'.lt0.1, xh.heap hg'.lt0.2.1, xh.heap cg.r.lt, yes ?_ ?_⟩
      · have : (P = P ∧ deedsK P M z k = M) ↔ (ofC (deedsK P M z k) = ofC M) := ⟨fun h => by rw [h.2], fun h => ⟨rfl, by rw [← cells_ofC (deedsK P M z k), h, cells_ofC]⟩⟩
        rw [decide_eq_decide.2 this]
        exact beq_self_eq_true _
      refine (lives11_spec wh).mono ?_
      rintro e wi hh
      obtain ⟨rfl, xi⟩ := hh
      exact ⟨_, rfl, xi.heap hh'.lt0.1, xi.heap hh'.lt0.2.1, xi.heap ch.r.lt, rfl, (hh'.ext xi).x⟩)
  · (
      have hd := hpl.ext (Ext.dr wr)
      have cd := hcl.ext (Ext.dr wr)
      refine (Top_spec hd.k x z').mono ?_
      rintro e wa hh
      obtain ⟨rfl, xa⟩ := hh
      have ha := hd.ext xa
      have ca := cd.ext xa
      refine ⟨_, rfl, xa.heap hd.lt0.1, xa.heap hd.lt0.2.1, xa.heap cd.r.lt, ha.r1.loadL (fun j hj => by rw [Nat.zero_add]), ?_⟩
      refine (rTop_spec (OwR.rdr ha.o) ha.k.len x z').mono ?_
      rintro e wb hh
      obtain ⟨rfl, xb⟩ := hh
      have hb := ha.ext xb
      have cb := ca.ext xb
      refine ⟨_, rfl, xb.heap ha.lt0.1, xb.heap ha.lt0.2.1, xb.heap ca.r.lt, yes (by simp) ?_⟩
      refine (Top_spec cb.k x z').mono ?_
      rintro e wc hh
      obtain ⟨rfl, xc⟩ := hh
      have hc' := hb.ext xc
      have cc := cb.ext xc
      refine ⟨_, rfl, xc.heap hb.lt0.1, xc.heap hb.lt0.2.1, xc.heap cb.r.lt, cc.r.loadL (fun j hj => by rw [Nat.zero_add]), ?_⟩
      refine (rTop_spec (OwR.rdr cc.o) cc.k.len x z').mono ?_
      rintro e wd hh
      obtain ⟨rfl, xd⟩ := hh
      have hdd := hc'.ext xd
      have cdd := cc.ext xd
      refine ⟨_, rfl, xd.heap hc'.lt0.1, xd.heap hc'.lt0.2.1, xd.heap cc.r.lt, yes (by simp) ?_⟩
      refine (Runs_spec cdd.k).mono ?_
      rintro e we hh
      obtain ⟨s59, rfl, o59, xe⟩ := hh
      have he := hdd.ext xe
      have ce := cdd.ext xe
      refine ⟨s59, rfl, xe.heap hdd.lt0.1, xe.heap hdd.lt0.2.1, xe.heap cdd.r.lt, ce.r.loadL (fun j hj => by simp at hj; subst hj; rfl), ?_⟩
      refine (ref05_Same_spec s59 _ _ _ we (OwR.rdr o59) (OwR.rdr ce.o) (cells_pos ce.k.len).2.2).mono ?_
      rintro e wf hh
      obtain ⟨rfl, xf⟩ := hh
      have hf := he.ext xf
      have cf := ce.ext xf
      refine ⟨_, rfl, xf.heap he.lt0.1, xf.heap he.lt0.2.1, xf.heap ce.r.lt, yes (by simp) ?_⟩
      refine (Same_spec hf.k cf.k).mono ?_
      rintro e wg hh
      obtain ⟨rfl, xg⟩ := hh
      have hg' := hf.ext xg
      have cg := cf.ext xg
      refine ⟨_, rfl, xg.heap hf.lt0.1, xg.heap hf.lt0.2.1, xg.heap cf.r.lt, cg.r.loadL (fun j hj => by simp at hj; subst hj; rfl), hg'.r1.loadL (fun j hj => by simp at hj; subst hj; rfl), ?_⟩
      refine (ref05_Same_spec _ _ _ _ wg (OwR.rdr hg'.o) (OwR.rdr cg.o) (cells_pos hg'.k.len).2.2).mono ?_
      rintro e wh hh
      obtain ⟨rfl, xh⟩ := hh
      have hh' := hg'.ext xh
      have ch := cg.ext xh
      refine ⟨_, rfl, xh.heap hg'.lt0.1, xh.heap hg'.lt0.2.1, xh.heap cg.r.lt, yes ?_ ?_⟩
      · have : (P = P ∧ deedsK P M z k = M) ↔ (ofC (deedsK P M z k) = ofC M) := ⟨fun h => by rw [h.2], fun h => ⟨rfl, by rw [← cells_ofC (deedsK P M z k), h, cells_ofC]⟩⟩
        rw [decide_eq_decide.2 this]
        exact beq_self_eq_true _
      refine (lives11_spec wh).mono ?_
      rintro e wi hh
      obtain ⟨rfl, xi⟩ := hh
      exact ⟨_, rfl, xi.heap hh'.lt0.1, xi.heap hh'.lt0.2.1, xi.heap ch.r.lt, rfl, (hh'.ext xi).x⟩)
end Go.Proofs.YtfipllblcnahdaaDoor
