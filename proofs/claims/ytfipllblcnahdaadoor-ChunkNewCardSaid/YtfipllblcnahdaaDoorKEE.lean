import Derived.Test.YtfipllblcnahdaaDoorKB
import Derived.Test.YtfipllblcnahdaaDoorLB
set_option linter.all false
namespace Go.Proofs.YtfipllblcnahdaaDoor
open Go Go.Vc Go.RowKit Go.Proofs Go.Chk Go.Runs Go.Code

theorem wrB_pos {l : List Rn} (h : l ≠ []) : 1 ≤ (wrB l).length := by
  cases l with
  | nil => exact absurd rfl h
  | cons r t => unfold wrB; simp
set_option maxHeartbeats 1000000 in
theorem ChunkBytes_law (seed : Int) (p : Po) (s : Sl) (z : List De) (sb : Sl) (b : List Int) (at' xb' : Int) (hp : inI p.1 ∧ inI p.2) (w : World) (hz : RdK w s 8 (z.map dvs)) (hsb : RdY w sb b) (hb8 : InY b) (hsc : sb.n ≤ sb.c) (hat : inI at') (hxb : 0 ≤ xb' ∧ xb' < 256) :
    Calls Tryd.prog n_law11_ChunkBytes #[.int .i64 seed, pv p, .slice s.a s.n s.c, .slice sb.a sb.n sb.c, .int .i64 at', .int .u8 xb'] w fun e w' => e = .returned (.bool true) ∧ Ext w w' := by
  apply law11_ChunkBytes.vc
  have hsn : s.n = z.length := by rw [hz.n, List.length_map]
  intro w0 e0
  have z0 : w0.heap.size = w.heap.size + 1 := by rw [e0]; simp
  have x0 : Ext w w0 := (Ext.rfl' w).of_alloc e0
  have hb0 : Row w0 w.heap.size [.int .i64 p.1, .int .i64 p.2] tPo := by rw [e0]; exact Row.new w [_, _] _
  clear e0
  refine (place_spec p hp w0).mono ?_
  rintro e w1 ⟨rfl, x1⟩
  have z1 := x1.size
  refine ⟨_, _, rfl, x1.heap (by omega), ?_⟩
  have hP := place_ok p
  have hPs := place_small p
  generalize placeK p = P at *
  intro w4 e4
  have hb4 : Row w4 w.heap.size [.int .i64 P.1, .int .i64 P.2] tPo := by rw [e4]; exact (hb0.ext x1).set [_, _]
  have x4 : Ext w w4 := (x0.tr x1).of_setRow e4 (Nat.le_refl _)
  have z4 : w4.heap.size = w1.heap.size := by rw [e4, setRow_size]
  clear e4
  refine (Make_spec seed P hP w4).mono ?_
  rintro e w5 ⟨g, s0, rfl, h5, x5, hg⟩
  have z5 := x5.size
  refine ⟨_, rfl, x5.heap (by omega), Br.mk (fun h => by cases h) (fun _ => ?_)⟩
  refine (rMake_spec seed P hP w5).mono ?_
  rintro e w7 ⟨s10, rfl, o7, x7⟩
  have z7 := x7.size
  refine ⟨_, _, s10, rfl, x7.heap (by omega), ?_⟩
  intro w11 e11 w12 e12
  have x12 : Ext w7 w12 := ((Ext.rfl' _).of_alloc e11).of_setRow e12 (Nat.le_refl _)
  have hr12 : Row w12 w7.heap.size [.int .i64 P.1, .int .i64 P.2, .slice s10.a s10.n s10.c] tK := by
    have : Row w11 w7.heap.size [.int .i64 0, .int .i64 0, .slice none 0 0] tK := by rw [e11]; exact Row.new w7 [_, _, _] _
    rw [e12]; exact this.set [_, _, _]
  clear e11 e12
  have hpl0 : Pl w w12 g s0 s10 P (made seed P) w.heap.size w7.heap.size :=
    ⟨(h5.ext x7).ext x12, OwnK.ext (OwnK.low o7 (Nat.zero_le _)) x12, x4.tr (x5.tr (x7.tr x12)), by omega, hb4.ext (x5.tr (x7.tr x12)), hr12, by omega⟩
  generalize hB : w7.heap.size = b1 at *
  clear hr12 hb4 o7 h5
  generalize made seed P = M at *
  refine ⟨fun n i x y sr wr => ∃ (k : Nat) (sg : Sl), i = k ∧ k + n = z.length ∧ x = P.1 ∧ y = P.2 ∧ Pl w wr g sg sr P (deedsK P M z k) w.heap.size b1, ⟨z.length, rfl, 0, s0, rfl, by omega, rfl, rfl, hpl0⟩, ?_⟩
  rintro n us i x y sr wr ⟨k, sg, rfl, hkn, rfl, rfl, hpl⟩
  refine Br.mk (fun hc => Br.mk (fun hc2 => ?_) (fun hc2 => ?_)) (fun hc => ?_)

  · simp only [decide_eq_true_eq] at hc hc2
    obtain ⟨d, hd, hload, hinb⟩ := deeds_row hz (hpl.x.drew) (k := k) (by omega)
    have hwk : IntKind.wrap .i64 ((k : Int) + 1) = ((k + 1 : Nat) : Int) := by rw [wrap_in (by unfold inI; omega)]; omega
    refine ⟨hinb, d.1, d.2.1, d.2.2.1.1, d.2.2.1.2.1, d.2.2.1.2.2, d.2.2.2.1, d.2.2.2.2.1, d.2.2.2.2.2, hload, ?_, ?_⟩
    · have hpd := hpl.ext (Ext.dr wr)
      refine (does_spec hpd.k hpd.o hP hPs d).mono ?_
      rintro e wd ⟨⟨sr2, rfl, o2⟩, s3, h2, m2, f2⟩
      refine ⟨_, _, sr2, _, rfl, keepb hpd.k m2 hpd.r0 (by decide), keepb hpd.k m2 hpd.r1 (by decide), ?_⟩
      intro wx ex we ee wf ef
      obtain ⟨hf, mf, zf⟩ := hpl.roundA h2 o2 m2 ex ee ef
      refine Br.mk (fun hb => by cases hb) (fun _ => ?_)
      exact ⟨n - 1, by omega, rfl, k + 1, s3, hwk, by omega, rfl, rfl, by rw [deedsK_succ hd]; exact hf⟩
    · intro wq eq
      have hxq : Ext wr wq := (Ext.dr wr).of_alloc eq
      have hq : Row wq wr.drew.heap.size [.int .i64 0, .int .i64 0, .slice none 0 0] tK := by rw [eq]; exact Row.new wr.drew [_, _, _] _
      have hpd := hpl.ext hxq
      refine (does_spec hpd.k hpd.o hP hPs d).mono ?_
      rintro e wd ⟨⟨sr2, rfl, o2⟩, s3, h2, m2, f2⟩
      refine ⟨_, _, sr2, _, rfl, keepb hpd.k m2 hpd.r0 (by decide), keepb hpd.k m2 hpd.r1 (by decide), keepb hpd.k m2 hq (by decide), ?_⟩
      intro we ee wf ef
      obtain ⟨hf, mf, zf⟩ := hpl.roundB eq h2 o2 m2 ee ef
      refine Br.mk (fun hb => by cases hb) (fun _ => ?_)
      exact ⟨n - 1, by omega, rfl, k + 1, s3, hwk, by omega, rfl, rfl, by rw [deedsK_succ hd]; exact hf⟩
  all_goals clear hc
  all_goals (
    obtain ⟨ok1, ok2, ok3, ok4⟩ := chunk_okW hpl.k.len hpl.k.may
    have hlen := ofC_len (deedsK P M z k)
    have hcl := hpl.k.len
    have hrg := read_good ok3 ok2
    rw [ok4] at hrg
    refine (Bytes_spec hpl.k).mono ?_
    rintro e wa hh
    obtain ⟨s44, rfl, o44, xa⟩ := hh
    have ha := hpl.ext xa
    refine ⟨s44, rfl, xa.heap hpl.lt0.1, xa.heap hpl.lt0.2.1, ?_⟩
    refine (ref06_Write_spec _ _ wa (OwR.rdr ha.o) (by omega) (chunk_inI hpl.k.len hpl.k.may)).mono ?_
    rintro e wb hh
    obtain ⟨⟨s46, rfl, o46⟩, xb⟩ := hh
    rw [if_pos ok1] at o46
    have hb := ha.ext xb
    have hwl := wrB_pos ok2
    have hwl2 := wrB_len (ofC (deedsK P M z k))
    have hwi := wrB_in (ofC (deedsK P M z k))
    have ob44 := OwnK.ext o44 xb
    have hn44 := RdY.len (OwY.rdy o44)
    have hcap : s44.n ≤ s44.c := OwnK.le ob44
    refine ⟨s46, _, rfl, xb.heap ha.lt0.1, xb.heap ha.lt0.2.1, ?_⟩
    refine (ref06_Same_spec s44 s46 _ _ wb (OwY.rdy ob44) (OwY.rdy o46) hwi hwi).mono ?_
    rintro e wc hh
    obtain ⟨rfl, rfl⟩ := hh
    refine ⟨_, rfl, rfl, rfl, nope (by simp) (nope (by rw [beq_eq_false_iff_ne]; omega) ?_)⟩
    refine (Read_spec P s44 _ wc (OwY.rdy ob44) hwi hcap (by omega)).mono ?_
    rintro e wd hh
    obtain ⟨hres, xd⟩ := hh
    have hd := hb.ext xd
    rw [ReadRes, hrg] at hres
    rcases hres with ⟨-, g5, sg5, rfl, hk5, hg5, -⟩ | ⟨h0, -⟩
    · simp only [cells_ofC] at hk5
      refine ⟨_, _, rfl, xd.heap hb.lt0.1, xd.heap hb.lt0.2.1, nope rfl (nope rfl ?_)⟩
      have h5d := hk5.ext (Ext.dr wd)
      have hdd := hd.ext (Ext.dr wd)
      refine (Same_spec h5d hdd.k).mono ?_
      rintro e we hh
      obtain ⟨rfl, xe⟩ := hh
      have h5e := h5d.ext xe
      have he := hdd.ext xe
      refine ⟨_, rfl, xe.heap hdd.lt0.1, xe.heap hdd.lt0.2.1, nope (by simp) ?_⟩
      refine (Same_spec he.k h5e).mono ?_
      rintro e wf hh
      obtain ⟨rfl, xf⟩ := hh
      have h5f := h5e.ext xf
      have hf := he.ext xf
      refine ⟨_, rfl, xf.heap he.lt0.1, xf.heap he.lt0.2.1, nope (by simp) (nnS (nnS ⟨P.1, P.2, h5f.pos, ?_⟩))⟩
      refine (Place_spec P wf).mono ?_
      rintro e wg hh
      obtain ⟨rfl, xg⟩ := hh
      have hg := hf.ext xg
      refine ⟨_, _, rfl, xg.heap hf.lt0.1, xg.heap hf.lt0.2.1, hg.r0.loadL (fun j hj => by rw [Nat.zero_add]), nope (by simp) ?_⟩
      refine (around_spec at' ((s44.n : Nat) : Int) wg hat (by omega) (by unfold inI; omega)).mono ?_
      rintro e wh hh
      obtain ⟨rfl, rfl⟩ := hh
      have hab := around_bd at' ((s44.n : Nat) : Int) (by omega)
      have o44g := OwnK.ext (OwnK.ext ob44 (xd.tr (Ext.dr wd))) (xe.tr (xf.tr xg))
      have hxg : Ext wr wh := xa.tr (xb.tr ((xd.tr (Ext.dr wd)).tr (xe.tr (xf.tr xg))))
      generalize around at' ((s44.n : Nat) : Int) = ai at *
      generalize wrB (ofC (deedsK P M z k)) = B at *
      obtain ⟨q, hq⟩ := get_lt (l := B) (i := ai.toNat) (by omega)
      obtain ⟨r1, r2, r3, r4, r5⟩ := OwnK.set o44g (i := ai.toNat) (j := 0) (r := yv q) (v := .int .u8 xb') (by rw [List.getElem?_map, hq]; rfl) (by omega) rfl hxg.size
      have e0 : padd (padd s44.a (ai.toNat * 1)) 0 = padd s44.a (ai.toNat * 1) := by rw [padd_padd]; rfl
      rw [e0] at r1 r2 r3 r4 r5
      have hin := RdY.inB (OwY.rdy o44g) (i := ai.toNat) (by omega)
      rw [show ((ai.toNat : Nat) : Int) = ai from by omega] at hin
      have hpb : ∀ j : Nat, j < wr.heap.size → pblk (padd s44.a (ai.toNat * 1)) ≠ some j := fun j hj e => by
        rw [pblk_padd] at e
        have := (o44g.own.lt e).1
        omega
      refine ⟨_, rfl, rfl, rfl, hin, ⟨r1, r2⟩, hpb _ hpl.lt0.1, hpb _ hpl.lt0.2.1, ?_⟩
      intro wi ei
      rw [← ei] at r3 r4 r5
      have xi : Ext wr wi := hxg.trans r4
      have hi := hpl.ext xi
      have e1 : (B.map yv).set ai.toNat ((yv q).set 0 (.int .u8 xb')) = (B.set ai.toNat xb').map yv := by rw [List.map_set]; rfl
      rw [e1] at r3
      have r3' : OwY wr.heap.size wi s44 (B.set ai.toNat xb') := r3
      have hsi : InY (B.set ai.toNat xb') := fun c hc => by
        rcases List.mem_or_eq_of_mem_set hc with h | h
        · exact hwi c h
        · rw [h]; exact hxb
      have hx0 : Ext w wi := hpl.x.tr xi
      refine (ref06_Few_spec sb b 60 wi (RdK.ext hsb hx0) hsc).mono ?_
      rintro e wj hh
      obtain ⟨t, rfl, ht, htc, rfl⟩ := hh
      refine ⟨t, rfl, rfl, rfl, ?_⟩
      intro w70 e70
      have x70 : Ext wj w70 := (Ext.rfl' _).of_alloc e70
      have hr70 : Row w70 wj.heap.size [.slice t.a t.n t.c, .slice s44.a s44.n s44.c] 68 := by rw [e70]; exact Row.new wj [_, _] _
      have hz70 := hr70.lt
      clear e70
      have h70 := hi.ext x70
      have hBl : (B.set ai.toNat xb').length ≤ 1099511627776 := by rw [List.length_set]; omega
      have hbl : (b.take 60).length ≤ 1099511627776 := by rw [List.length_take]; omega
      have hbi : InY (b.take 60) := fun c hc => hb8 c (List.mem_of_mem_take hc)
      have pick : ∀ k : Nat, k < 2 → ∃ (sl : Sl) (L : List Int), InY L ∧ sl.n ≤ sl.c ∧ L.length ≤ 1099511627776 ∧ ∀ wr, Ext w70 wr → ld wr (padd (some ⟨wj.heap.size, 0, none⟩) (k * 1)) = some (.slice sl.a sl.n sl.c) ∧ RdY wr sl L := fun k hk => by
        rcases k with _ | _ | k
        · exact ⟨t, _, hbi, htc, hbl, fun wr x => ⟨by rw [padd_row, (hr70.ext x).ld]; rfl, RdK.ext ht (x70.tr x)⟩⟩
        · exact ⟨s44, _, hsi, hcap, hBl, fun wr x => ⟨by rw [padd_row, (hr70.ext x).ld]; rfl, OwY.rdy (OwnK.ext r3' (x70.tr x))⟩⟩
        · omega
      have hl0 := h70.lt0.1
      have hl1 := h70.lt0.2.1
      have hx70 := h70.x
      refine ⟨fun n i wq => ∃ k : Nat, i = k ∧ k + n = 2 ∧ Ext w70 wq, ⟨2, rfl, rfl, rfl, 0, rfl, by omega, Ext.rfl' _⟩, ?_⟩
      rintro n us i wq hI
      obtain ⟨k, rfl, hkn, xq⟩ := hI
      have hxs := xq.size
      refine Br.mk (fun hc => ?_) (fun hc => ?_)
      · simp only [decide_eq_true_eq] at hc
        have hwk : IntKind.wrap .i64 ((k : Int) + 1) = ((k + 1 : Nat) : Int) := by rw [wrap_in (by unfold inI; omega)]; omega
        obtain ⟨sl, L, hLi, hLc, hLl, hp⟩ := pick k (by omega)
        have hin2 : InB (some ⟨wj.heap.size, 0, none⟩) (k : Int) 2 := ⟨rfl, by omega, by omega⟩
        have a1 := hp wq.drew xq.drew
        have zqd : wq.drew.heap.size = wq.heap.size := rfl
        refine ⟨hin2, sl, a1.1, (Read_spec P sl L wq.drew a1.2 hLi hLc hLl).mono ?_⟩
        rintro e wa hh
        obtain ⟨hres, xa⟩ := hh
        have za := xa.size
        have a2 := hp wa.drew (xq.drew.tr xa).drew
        have zad : wa.drew.heap.size = wa.heap.size := rfl
        rcases hres with ⟨h0, gk, sk, rfl, hkk, hgk, hfix⟩ | ⟨h0, rfl⟩
        · refine ⟨_, _, rfl, xa.heap (by omega), xa.heap (by omega), xa.heap (by omega), hin2, sl, a2.1, ?_, ?_⟩
          · (
              refine (rRead_spec P sl L wa.drew a2.2 hLi hLc hLl).mono ?_
              rintro e2 wc hh
              obtain ⟨⟨x1, y1, sr1, rfl, hor⟩, xc⟩ := hh
              have zc := xc.size
              refine ⟨_, _, sr1, _, rfl, xc.heap (by omega), xc.heap (by omega), xc.heap (by omega), ?_⟩
              intro wd' ed we' ee
              have xde : Ext wc we' := ((Ext.rfl' _).of_alloc ed).of_setRow ee (Nat.le_refl _)
              have hrow : Row we' wc.heap.size [.int .i64 x1, .int .i64 y1, .slice sr1.a sr1.n sr1.c] tK := by
                have : Row wd' wc.heap.size [.int .i64 0, .int .i64 0, .slice none 0 0] tK := by rw [ed]; exact Row.new wc [_, _, _] _
                rw [ee]; exact this.set [_, _, _]
              have xe2 : Ext wa we' := (Ext.dr wa).tr (xc.tr xde)
              have hor2 := fun h => OwnK.ext (hor h) xde
              clear ed ee)
            (
              have ze2 := xe2.size
              refine nope (by simp [h0]) (nope (by simp [h0]) (yes rfl ?_))
              have hkd := (hkk.ext xe2).ext (Ext.dr we')
              have zd1 : (World.drew we').heap.size = we'.heap.size := rfl
              have hrl := hrow.lt
              refine (Runs_spec hkd).mono ?_
              rintro e wg' hh
              obtain ⟨s90, rfl, o90, xg'⟩ := hh
              have zg' := xg'.size
              refine ⟨s90, rfl, xg'.heap (by omega), xg'.heap (by omega), xg'.heap (by omega), xg'.heap hrl, ((rdrew hrow).ext xg').loadL (fun j hj => by simp at hj; subst hj; rfl), ?_⟩
              refine (ref05_Same_spec s90 _ _ _ wg' (OwR.rdr o90) (OwR.rdr (OwnK.ext (hor2 h0) ((Ext.dr we').tr xg'))) (cells_pos hkk.len).2.2).mono ?_
              rintro e wh' hh
              obtain ⟨rfl, xh'⟩ := hh
              have zh' := xh'.size
              refine ⟨_, rfl, xh'.heap (by omega), xh'.heap (by omega), xh'.heap (by omega), xh'.heap (by omega), nope (by rw [hfix]; simp) ?_⟩
              exact ⟨n - 1, by omega, rfl, rfl, rfl, k + 1, hwk, by omega, ((xq.drew.tr xa).tr xe2).drew.tr (xg'.tr xh')⟩)
          · (
              intro wt et
              have xt : Ext wa.drew wt := (Ext.rfl' _).of_alloc et
              have hrt : Row wt wa.drew.heap.size [.int .i64 0, .int .i64 0, .slice none 0 0] tK := by rw [et]; exact Row.new wa.drew [_, _, _] _
              have zt := xt.size
              clear et
              refine (rRead_spec P sl L wt (RdK.ext a2.2 xt) hLi hLc hLl).mono ?_
              rintro e2 wc hh
              obtain ⟨⟨x1, y1, sr1, rfl, hor⟩, xc⟩ := hh
              have zc := xc.size
              refine ⟨_, _, sr1, _, rfl, xc.heap (by omega), xc.heap (by omega), xc.heap (by omega), xc.heap hrt.lt, ?_⟩
              intro we' ee
              have hrc := hrt.ext xc
              have xe2 : Ext wa we' := ((Ext.dr wa).tr (xt.tr xc)).of_setRow ee (Nat.le_refl _)
              have hrow : Row we' wa.drew.heap.size [.int .i64 x1, .int .i64 y1, .slice sr1.a sr1.n sr1.c] tK := by rw [ee]; exact hrc.set [_, _, _]
              have hor2 := fun h => own_set (hor h) hrc (by decide) ee
              clear ee)
            (
              have ze2 := xe2.size
              refine nope (by simp [h0]) (nope (by simp [h0]) (yes rfl ?_))
              have hkd := (hkk.ext xe2).ext (Ext.dr we')
              have zd1 : (World.drew we').heap.size = we'.heap.size := rfl
              have hrl := hrow.lt
              refine (Runs_spec hkd).mono ?_
              rintro e wg' hh
              obtain ⟨s90, rfl, o90, xg'⟩ := hh
              have zg' := xg'.size
              refine ⟨s90, rfl, xg'.heap (by omega), xg'.heap (by omega), xg'.heap (by omega), xg'.heap hrl, ((rdrew hrow).ext xg').loadL (fun j hj => by simp at hj; subst hj; rfl), ?_⟩
              refine (ref05_Same_spec s90 _ _ _ wg' (OwR.rdr o90) (OwR.rdr (OwnK.ext (hor2 h0) ((Ext.dr we').tr xg'))) (cells_pos hkk.len).2.2).mono ?_
              rintro e wh' hh
              obtain ⟨rfl, xh'⟩ := hh
              have zh' := xh'.size
              refine ⟨_, rfl, xh'.heap (by omega), xh'.heap (by omega), xh'.heap (by omega), xh'.heap (by omega), nope (by rw [hfix]; simp) ?_⟩
              exact ⟨n - 1, by omega, rfl, rfl, rfl, k + 1, hwk, by omega, ((xq.drew.tr xa).tr xe2).drew.tr (xg'.tr xh')⟩)
        · refine ⟨_, _, rfl, xa.heap (by omega), xa.heap (by omega), xa.heap (by omega), hin2, sl, a2.1, ?_, ?_⟩
          · (
              refine (rRead_spec P sl L wa.drew a2.2 hLi hLc hLl).mono ?_
              rintro e2 wc hh
              obtain ⟨⟨x1, y1, sr1, rfl, hor⟩, xc⟩ := hh
              have zc := xc.size
              refine ⟨_, _, sr1, _, rfl, xc.heap (by omega), xc.heap (by omega), xc.heap (by omega), ?_⟩
              intro wd' ed we' ee
              have xde : Ext wc we' := ((Ext.rfl' _).of_alloc ed).of_setRow ee (Nat.le_refl _)
              have hrow : Row we' wc.heap.size [.int .i64 x1, .int .i64 y1, .slice sr1.a sr1.n sr1.c] tK := by
                have : Row wd' wc.heap.size [.int .i64 0, .int .i64 0, .slice none 0 0] tK := by rw [ed]; exact Row.new wc [_, _, _] _
                rw [ee]; exact this.set [_, _, _]
              have xe2 : Ext wa we' := (Ext.dr wa).tr (xc.tr xde)
              have hor2 := fun h => OwnK.ext (hor h) xde
              clear ed ee)
            (
              refine nope (by simp) (nope (by simp [h0]) (nope rfl ?_))
              exact ⟨n - 1, by omega, rfl, rfl, rfl, k + 1, hwk, by omega, ((xq.drew.tr xa).tr xe2).drew⟩)
          · (
              intro wt et
              have xt : Ext wa.drew wt := (Ext.rfl' _).of_alloc et
              have hrt : Row wt wa.drew.heap.size [.int .i64 0, .int .i64 0, .slice none 0 0] tK := by rw [et]; exact Row.new wa.drew [_, _, _] _
              have zt := xt.size
              clear et
              refine (rRead_spec P sl L wt (RdK.ext a2.2 xt) hLi hLc hLl).mono ?_
              rintro e2 wc hh
              obtain ⟨⟨x1, y1, sr1, rfl, hor⟩, xc⟩ := hh
              have zc := xc.size
              refine ⟨_, _, sr1, _, rfl, xc.heap (by omega), xc.heap (by omega), xc.heap (by omega), xc.heap hrt.lt, ?_⟩
              intro we' ee
              have hrc := hrt.ext xc
              have xe2 : Ext wa we' := ((Ext.dr wa).tr (xt.tr xc)).of_setRow ee (Nat.le_refl _)
              have hrow : Row we' wa.drew.heap.size [.int .i64 x1, .int .i64 y1, .slice sr1.a sr1.n sr1.c] tK := by rw [ee]; exact hrc.set [_, _, _]
              have hor2 := fun h => own_set (hor h) hrc (by decide) ee
              clear ee)
            (
              refine nope (by simp) (nope (by simp [h0]) (nope rfl ?_))
              exact ⟨n - 1, by omega, rfl, rfl, rfl, k + 1, hwk, by omega, ((xq.drew.tr xa).tr xe2).drew⟩)
      · refine (lives11_spec wq).mono ?_
        rintro e wa hh
        obtain ⟨rfl, xa⟩ := hh
        exact ⟨_, rfl, xa.heap (by omega), xa.heap (by omega), xa.heap (by omega), rfl, hx70.tr (xq.tr xa)⟩
    · exact absurd rfl h0)
end Go.Proofs.YtfipllblcnahdaaDoor
