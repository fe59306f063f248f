import Derived.Test.YtfipllblcnahdaaDoorKB
import Derived.Test.YtfipllblcnahdaaDoorLN
set_option linter.all false
namespace Go.Proofs.YtfipllblcnahdaaDoor
open Go Go.Vc Go.RowKit Go.Proofs Go.Chk Go.Runs

theorem ChunkNew_law (s : Sl) (l : List Rn) (seed : Int) (w : World) (hs : RdR w s l) (hc : s.n ≤ s.c) : Calls Tryd.prog n_law11_ChunkNew #[.slice s.a s.n s.c, .int .i64 seed] w fun e w' => e = .returned (.bool true) ∧ Ext w w' := by
  apply law11_ChunkNew.vc
  have hn := RdR.len hs
  refine Br.mk (fun h12 => ?_) (fun h12 => ?_)
  · simp only [decide_eq_true_eq] at h12
    refine ⟨by decide, by omega, ?_⟩
    have ht : RdR w ⟨slBase s.a 0 s.c 2, (12 : Int).toNat - 0, s.c - 0⟩ (l.take 12) := by
      have := RdK.cut hs (m := 12) (c' := s.c) (c'' := s.c - 0) (by rw [List.length_map]; omega)
      rw [← List.map_take] at this
      exact this
    have hL : Bd (l.take 12).length := by
      show _ ≤ _
      rw [List.length_take]; omega
    refine (rMake_spec seed (0, 0) okP0 w).mono ?_
    rintro e w0 ⟨s3, rfl, o3, x0⟩
    refine ⟨_, _, s3, rfl, ?_⟩
    (
      intro w4 e4
      have x4 : Ext w0 w4 := (Ext.rfl' _).of_alloc e4
      have hr4 : Row w4 (w0).heap.size [.slice ((Sl.mk (slBase s.a 0 s.c 2) ((12 : Int).toNat - 0) (s.c - 0))).a ((Sl.mk (slBase s.a 0 s.c 2) ((12 : Int).toNat - 0) (s.c - 0))).n ((Sl.mk (slBase s.a 0 s.c 2) ((12 : Int).toNat - 0) (s.c - 0))).c, .slice s3.a s3.n s3.c] 36 := by rw [e4]; exact Row.new w0 [_, _] _
      have hz4 := hr4.lt
      clear e4
      have xw4 := x0.tr x4
      have pick : ∀ k : Nat, k < 2 → ∃ (sl : Sl) (L : List Rn), Bd L.length ∧ ∀ wr, Ext w4 wr → ld wr (padd (some ⟨(w0).heap.size, 0, none⟩) (k * 1)) = some (.slice sl.a sl.n sl.c) ∧ RdR wr sl L := fun k hk => by
        rcases k with _ | _ | k
        · exact ⟨(Sl.mk (slBase s.a 0 s.c 2) ((12 : Int).toNat - 0) (s.c - 0)), _, hL, fun wr x => ⟨by rw [padd_row, (hr4.ext x).ld]; rfl, RdK.ext ht (xw4.tr x)⟩⟩
        · exact ⟨s3, _, (cells_pos (made_len seed (0, 0))).2.2, fun wr x => ⟨by rw [padd_row, (hr4.ext x).ld]; rfl, OwR.rdr (OwnK.ext o3 (x4.tr x))⟩⟩
        · omega
      refine ⟨fun n i wr => ∃ k : Nat, i = k ∧ k + n = 2 ∧ Ext w4 wr, ⟨2, rfl, 0, rfl, by omega, Ext.rfl' _⟩, ?_⟩
      rintro n us i wr hI
      obtain ⟨k, rfl, hkn, xr⟩ := hI
      have hxs := xr.size
      refine Br.mk (fun hc => ?_) (fun hc => ?_)
      · simp only [decide_eq_true_eq] at hc
        have hk2 : k < 2 := by omega
        have hwk : IntKind.wrap .i64 ((k : Int) + 1) = ((k + 1 : Nat) : Int) := by rw [wrap_in (by unfold inI; omega)]; omega
        obtain ⟨sl, L, hLb, hp⟩ := pick k hk2
        have hin : InB (some ⟨(w0).heap.size, 0, none⟩) (k : Int) 2 := ⟨rfl, by omega, by omega⟩
        have a1 := hp wr xr
        refine ⟨hin, sl, a1.1, (New_spec (1, 2) sl L wr a1.2 hLb).mono ?_⟩
        rintro e wa hh
        obtain ⟨hres, xa⟩ := hh
        have za := xa.size
        have a2 := hp wa (xr.tr xa)
        rcases hres with ⟨hm, g, sg, rfl, hk, hg⟩ | ⟨hm, rfl⟩
        · refine ⟨_, _, rfl, xa.heap (by omega), hin, sl, a2.1, (ref05_May_spec sl L 8192 wa a2.2 hLb (by unfold inI; omega)).mono ?_⟩
          rintro e wb hh
          obtain ⟨rfl, xb⟩ := hh
          have zb := xb.size
          have a3 := hp wb.drew ((xr.tr xa).tr xb).drew
          refine ⟨_, rfl, xb.heap (by omega), nope (by rw [hm]; rfl) (nope (by rw [hm]; rfl) (nope (by rw [hm]; rfl) (yes rfl ?_)))⟩
          refine ⟨hin, sl, a3.1, (Runs_spec (hk.ext xb.drew)).mono ?_⟩
          rintro e wc hh
          obtain ⟨s20, rfl, o20, xc⟩ := hh
          have zd : wb.drew.heap.size = wb.heap.size := rfl
          have zc := xc.size
          have a4 := hp wc (((xr.tr xa).tr xb).drew.tr xc)
          refine ⟨s20, rfl, xc.heap (by omega), by show ld wc (padd _ 0) = _; rw [padd_zero]; exact a4.1, (ref05_Same_spec s20 sl _ L wc (OwR.rdr o20) a4.2 (cells_pos hk.len).2.2).mono ?_⟩
          rintro e wd hh
          obtain ⟨rfl, xd⟩ := hh
          have zd' := xd.size
          have hkd := (hk.ext xb.drew).ext (xc.tr xd)
          refine ⟨_, rfl, xd.heap (by omega), nope (by rw [decide_eq_true (mayR_inv hm).1]; rfl) (nnS (nnS ⟨1, 2, hkd.pos, (Place_spec (1, 2) wd).mono ?_⟩))⟩
          rintro e we hh
          obtain ⟨rfl, xe⟩ := hh
          have ze := xe.size
          have hke := hkd.ext xe
          refine ⟨_, _, rfl, xe.heap (by omega), nope rfl (nnS (nnS ⟨1, 2, hke.pos, (Place_spec (1, 2) we).mono ?_⟩))⟩
          rintro e wf hh
          obtain ⟨rfl, xf⟩ := hh
          exact ⟨_, _, rfl, xf.heap (by omega), nope rfl ⟨n - 1, by omega, rfl, k + 1, hwk, by omega, (((xr.tr xa).tr xb).drew.tr xc).tr (xd.tr (xe.tr xf))⟩⟩
        · refine ⟨_, _, rfl, xa.heap (by omega), hin, sl, a2.1, (ref05_May_spec sl L 8192 wa a2.2 hLb (by unfold inI; omega)).mono ?_⟩
          rintro e wb hh
          obtain ⟨rfl, xb⟩ := hh
          exact ⟨_, rfl, xb.heap (by omega), nope (by rw [hm]; rfl) (nope (by rw [hm]; rfl) (yes (by rw [hm]; rfl) (nope rfl (nope rfl ⟨n - 1, by omega, rfl, k + 1, hwk, by omega, ((xr.tr xa).tr xb).drew⟩))))⟩
      · refine (lives11_spec wr).mono ?_
        rintro e wa hh
        obtain ⟨rfl, xa⟩ := hh
        exact ⟨_, rfl, xa.heap (by omega), rfl, xw4.tr (xr.tr xa)⟩)
  · simp only [decide_eq_false_iff_not] at h12
    have hL : Bd l.length := by show _ ≤ _; omega
    refine (rMake_spec seed (0, 0) okP0 w).mono ?_
    rintro e w0 ⟨s3, rfl, o3, x0⟩
    refine ⟨_, _, s3, rfl, ?_⟩
    (
      intro w4 e4
      have x4 : Ext w0 w4 := (Ext.rfl' _).of_alloc e4
      have hr4 : Row w4 (w0).heap.size [.slice (s).a (s).n (s).c, .slice s3.a s3.n s3.c] 36 := by rw [e4]; exact Row.new w0 [_, _] _
      have hz4 := hr4.lt
      clear e4
      have xw4 := x0.tr x4
      have pick : ∀ k : Nat, k < 2 → ∃ (sl : Sl) (L : List Rn), Bd L.length ∧ ∀ wr, Ext w4 wr → ld wr (padd (some ⟨(w0).heap.size, 0, none⟩) (k * 1)) = some (.slice sl.a sl.n sl.c) ∧ RdR wr sl L := fun k hk => by
        rcases k with _ | _ | k
        · exact ⟨s, _, hL, fun wr x => ⟨by rw [padd_row, (hr4.ext x).ld]; rfl, RdK.ext hs (xw4.tr x)⟩⟩
        · exact ⟨s3, _, (cells_pos (made_len seed (0, 0))).2.2, fun wr x => ⟨by rw [padd_row, (hr4.ext x).ld]; rfl, OwR.rdr (OwnK.ext o3 (x4.tr x))⟩⟩
        · omega
      refine ⟨fun n i wr => ∃ k : Nat, i = k ∧ k + n = 2 ∧ Ext w4 wr, ⟨2, rfl, 0, rfl, by omega, Ext.rfl' _⟩, ?_⟩
      rintro n us i wr hI
      obtain ⟨k, rfl, hkn, xr⟩ := hI
      have hxs := xr.size
      refine Br.mk (fun hc => ?_) (fun hc => ?_)
      · simp only [decide_eq_true_eq] at hc
        have hk2 : k < 2 := by omega
        have hwk : IntKind.wrap .i64 ((k : Int) + 1) = ((k + 1 : Nat) : Int) := by rw [wrap_in (by unfold inI; omega)]; omega
        obtain ⟨sl, L, hLb, hp⟩ := pick k hk2
        have hin : InB (some ⟨(w0).heap.size, 0, none⟩) (k : Int) 2 := ⟨rfl, by omega, by omega⟩
        have a1 := hp wr xr
        refine ⟨hin, sl, a1.1, (New_spec (1, 2) sl L wr a1.2 hLb).mono ?_⟩
        rintro e wa hh
        obtain ⟨hres, xa⟩ := hh
        have za := xa.size
        have a2 := hp wa (xr.tr xa)
        rcases hres with ⟨hm, g, sg, rfl, hk, hg⟩ | ⟨hm, rfl⟩
        · refine ⟨_, _, rfl, xa.heap (by omega), hin, sl, a2.1, (ref05_May_spec sl L 8192 wa a2.2 hLb (by unfold inI; omega)).mono ?_⟩
          rintro e wb hh
          obtain ⟨rfl, xb⟩ := hh
          have zb := xb.size
          have a3 := hp wb.drew ((xr.tr xa).tr xb).drew
          refine ⟨_, rfl, xb.heap (by omega), nope (by rw [hm]; rfl) (nope (by rw [hm]; rfl) (nope (by rw [hm]; rfl) (yes rfl ?_)))⟩
          refine ⟨hin, sl, a3.1, (Runs_spec (hk.ext xb.drew)).mono ?_⟩
          rintro e wc hh
          obtain ⟨s20, rfl, o20, xc⟩ := hh
          have zd : wb.drew.heap.size = wb.heap.size := rfl
          have zc := xc.size
          have a4 := hp wc (((xr.tr xa).tr xb).drew.tr xc)
          refine ⟨s20, rfl, xc.heap (by omega), by show ld wc (padd _ 0) = _; rw [padd_zero]; exact a4.1, (ref05_Same_spec s20 sl _ L wc (OwR.rdr o20) a4.2 (cells_pos hk.len).2.2).mono ?_⟩
          rintro e wd hh
          obtain ⟨rfl, xd⟩ := hh
          have zd' := xd.size
          have hkd := (hk.ext xb.drew).ext (xc.tr xd)
          refine ⟨_, rfl, xd.heap (by omega), nope (by rw [decide_eq_true (mayR_inv hm).1]; rfl) (nnS (nnS ⟨1, 2, hkd.pos, (Place_spec (1, 2) wd).mono ?_⟩))⟩
          rintro e we hh
          obtain ⟨rfl, xe⟩ := hh
          have ze := xe.size
          have hke := hkd.ext xe
          refine ⟨_, _, rfl, xe.heap (by omega), nope rfl (nnS (nnS ⟨1, 2, hke.pos, (Place_spec (1, 2) we).mono ?_⟩))⟩
          rintro e wf hh
          obtain ⟨rfl, xf⟩ := hh
          exact ⟨_, _, rfl, xf.heap (by omega), nope rfl ⟨n - 1, by omega, rfl, k + 1, hwk, by omega, (((xr.tr xa).tr xb).drew.tr xc).tr (xd.tr (xe.tr xf))⟩⟩
        · refine ⟨_, _, rfl, xa.heap (by omega), hin, sl, a2.1, (ref05_May_spec sl L 8192 wa a2.2 hLb (by unfold inI; omega)).mono ?_⟩
          rintro e wb hh
          obtain ⟨rfl, xb⟩ := hh
          exact ⟨_, rfl, xb.heap (by omega), nope (by rw [hm]; rfl) (nope (by rw [hm]; rfl) (yes (by rw [hm]; rfl) (nope rfl (nope rfl ⟨n - 1, by omega, rfl, k + 1, hwk, by omega, ((xr.tr xa).tr xb).drew⟩))))⟩
      · refine (lives11_spec wr).mono ?_
        rintro e wa hh
        obtain ⟨rfl, xa⟩ := hh
        exact ⟨_, rfl, xa.heap (by omega), rfl, xw4.tr (xr.tr xa)⟩)
end Go.Proofs.YtfipllblcnahdaaDoor
