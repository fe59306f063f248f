import Derived.Test.YtbphdgiepimmkaaDoorQDD
set_option linter.all false
namespace Go.Proofs.YtbphdgiepimmkaaDoor
open Go Go.Vc Go.RowKit Go.Proofs Go.Runs Go.Code

theorem CodeReads_good (s t : Sl) (b : List Int) (l : List Rn) (at_ x n : Int) (w : World) (hs : RdY w s b) (hb : InY b) (hsc : s.n ≤ s.c) (ht : RdR w t l) (hl : ∀ r ∈ l, inI r.1 ∧ inI r.2) (hat : inI at_) (hx : 0 ≤ x ∧ x < 256) (hn : inI n) :
    Calls Tryd.prog n_law06_CodeReads #[.slice s.a s.n s.c, .slice t.a t.n t.c, .int .i64 at_, .int .u8 x, .int .i64 n] w (Good6 w) := by
  have hgl := goodC_len l
  have hgr := ofC_len (goodC l)
  have hF := good_follow l
  have hsum := sumR_ofC (goodC l)
  have hcl := cells_ofC (goodC l)
  apply law06_CodeReads.vc
  refine (ref05_Good_spec t l w ht hl).mono ?_
  rintro e w0 ⟨g, rfl, og, x0⟩
  have good2 : ∀ w, Ext w w → True := fun _ _ => trivial
  generalize hgc : ofC (goodC l) = gl at *
  have hne : gl ≠ [] := by
    intro e; rw [e] at hsum
    have : sumR ([] : List Rn) = 0 := rfl
    omega
  refine ⟨g, rfl, (ref06_Write_spec g gl w0 og.rdr (by omega) (follow_in hF)).mono ?_⟩
  rintro e w2 ⟨⟨o, rfl, ob⟩, x2⟩
  rw [hF.okW (by omega) (by omega)] at ob ⊢
  simp only [if_true] at ob
  have hbn := RdY.len (OwY.rdy ob)
  have hwl := wrB_len gl
  have hw2 : 2 ≤ (wrB gl).length := by
    cases gl with
    | nil => exact absurd rfl hne
    | cons r t =>
      have := hF.mem r (.head _)
      rw [wrB_cons r t ⟨by omega, by omega⟩]
      have := numB_pos this.1 this.2.1
      simp; omega
  refine ⟨o, _, rfl, Br.mk (fun h => by simp at h; omega) (fun _ => ?_)⟩
  have b1 := around_bd at_ ((o.n : Nat) : Int) (by omega)
  refine (around_spec at_ ((o.n : Nat) : Int) w2 hat (by omega) (by unfold inI; omega)).mono ?_
  rintro e w3 ⟨rfl, rfl⟩
  generalize around at_ ((o.n : Nat) : Int) = k at *
  have x02 := x0.tr x2
  have hin : InB o.a k o.n := by
    have := RdY.inB (OwY.rdy ob) (i := k.toNat) (by omega)
    rwa [show ((k.toNat : Nat) : Int) = k from by omega] at this
  obtain ⟨hko, _⟩ : ∃ y, (wrB gl)[k.toNat]? = some y := get_lt (by omega)
  obtain ⟨c1, c2, c3, c4, c5⟩ := OwnK.set ob (i := k.toNat) (j := 0) (r := yv hko) (v := .int .u8 x) (by rw [List.getElem?_map, ‹(wrB gl)[k.toNat]? = _›]; rfl) (by omega) rfl x2.size
  rw [padd_zero] at c1 c2 c3 c4 c5
  refine ⟨_, rfl, hin, ⟨c1, c2⟩, ?_⟩
  rintro w7 hw7
  rw [← hw7] at c3 c4 c5
  have c3' : OwY w0.heap.size w7 o ((wrB gl).set k.toNat x) := by
    have e : ((wrB gl).map yv).set k.toNat ((yv hko).set 0 (.int .u8 x)) = ((wrB gl).set k.toNat x).map yv := by
      rw [List.map_set]; rfl
    rw [e] at c3; exact c3
  clear c3 hw7
  have x7 : Ext w w7 := x02.trans (Below.mono c4 x0.size)
  have hoi : InY ((wrB gl).set k.toNat x) := by
    intro c hc
    rcases List.mem_or_eq_of_mem_set hc with hc | rfl
    · exact wrB_in gl c hc
    · exact hx
  have hol : ((wrB gl).set k.toNat x).length = (wrB gl).length := List.length_set
  generalize (wrB gl).set k.toNat x = ow at *
  have b2 := around_bd n 1048576 (by omega)
  refine (around_spec n 1048576 w7 hn (by omega) (by unfold inI; omega)).mono ?_
  rintro e w8 ⟨rfl, rfl⟩
  generalize around n 1048576 = m at *
  have hwm := wrap_in (n := 1 + m) (by unfold inI; omega)
  refine ⟨_, rfl, (ref06_Few_spec s b 60 w8 (hs.ext x7) hsc).mono ?_⟩
  rintro e w10 ⟨f, rfl, hf, hfc, rfl⟩
  have hfb : InY (b.take 60) := fun c hc => hb c (List.mem_of_mem_take hc)
  have hfl : (b.take 60).length ≤ 60 := by rw [List.length_take]; omega
  generalize b.take 60 = fb at *
  refine ⟨f, rfl, ?_⟩
  rw [hwm]
  rintro w12 hw12
  have x12 : Ext w10 w12 := by rw [hw12]; exact Ext.al _ _
  have hrow1 := Row.new w10 [.slice f.a f.n f.c, .slice o.a o.n o.c] 25
  rw [← hw12] at hrow1
  clear hw12
  refine (ref05_Good_spec t l w12 (ht.ext (x7.tr x12)) hl).mono ?_
  rintro e w13 ⟨g2, rfl, og2, x13⟩
  rw [hgc] at og2
  refine ⟨g2, rfl, x13.heap hrow1.lt, (ref05_Cells_spec g2 gl w13 og2.rdr (by unfold Bd; omega) (fun r hr => by have := hF.pos r hr; omega) (by omega)).mono ?_⟩
  rintro e w15 ⟨c, rfl, oc, x15⟩
  have hcn := RdC.len oc.rdc
  rw [hcl] at hcn
  refine ⟨c, rfl, x15.heap (by have := hrow1.lt; have := x13.size; omega), ?_⟩
  rintro w17 hw17
  have x17 : Ext w15 w17 := by rw [hw17]; exact Ext.al _ _
  have hrow2 := Row.new w15 [.int .i64 (1 + m), .int .i64 ((c.n : Nat) : Int)] tInt
  rw [← hw17] at hrow2
  clear hw17
  have y15 := x13.tr x15
  have x1217 := y15.tr x17
  have hrow1 := hrow1.ext x1217
  have hf := (hf.ext x12).ext x1217
  have ob17 : RdY w17 o ow := OwY.rdy ((OwnK.ext c3' x12).ext x1217)
  have hoc : o.n ≤ o.c := OwnK.le c3'
  have xw17 : Ext w w17 := (x7.tr x12).tr x1217
  have hon := RdY.len ob17
  refine ⟨fun q y wr => ∃ j : Nat, y = j ∧ j + q = 2 ∧ Ext w17 wr, ⟨2, rfl, rfl, 0, rfl, rfl, Ext.rfl' _⟩, ?_⟩
  rintro q us y wr ⟨j, rfl, hj, xr⟩
  have hwj := wrap_in (n := (j : Int) + 1) (by unfold inI; omega)
  refine Br.mk (fun h => ?_) (fun h => ?_) <;> simp only [decide_eq_true_eq, decide_eq_false_iff_not] at h
  · rw [hwj]
    refine ⟨fun q' y wr' => ∃ i : Nat, y = i ∧ i + q' = 2 ∧ Ext wr wr', ⟨2, rfl, rfl, 0, rfl, rfl, Ext.rfl' _⟩, ?_⟩
    rintro q' us' y wr' ⟨i, rfl, hi, xr'⟩
    have hwi := wrap_in (n := (i : Int) + 1) (by unfold inI; omega)
    refine Br.mk (fun h' => ?_) (fun h' => ?_) <;> simp only [decide_eq_true_eq, decide_eq_false_iff_not] at h'
    · rw [hwi]
      have xx : Ext w17 wr'.drew := (xr.tr xr').drew
      obtain ⟨p, pb, hp, hpr, hpi, hpl, hpc⟩ : ∃ (p : Sl) (pb : List Int), [Value.slice f.a f.n f.c, Value.slice o.a o.n o.c][j]? = some (.slice p.a p.n p.c) ∧ RdY w17 p pb ∧ InY pb ∧ pb.length ≤ 100000 ∧ p.n ≤ p.c := by
        have : j = 0 ∨ j = 1 := by omega
        rcases this with rfl | rfl
        · exact ⟨f, fb, rfl, hf, hfb, by omega, hfc⟩
        · exact ⟨o, ow, rfl, ob17, hoi, by omega, hoc⟩
      obtain ⟨z, hz, hz1, hz2⟩ : ∃ z : Int, [Value.int .i64 (1 + m), Value.int .i64 ((c.n : Nat) : Int)][i]? = some (.int .i64 z) ∧ 1 ≤ z ∧ z ≤ 1048576 := by
        have : i = 0 ∨ i = 1 := by omega
        rcases this with rfl | rfl
        · exact ⟨1 + m, rfl, by omega, by omega⟩
        · exact ⟨_, rfl, by omega, by omega⟩
      have hin1 : InB (some ⟨w10.heap.size, 0, none⟩) (j : Int) 2 := ⟨rfl, by omega, by omega⟩
      have hin2 : InB (some ⟨w15.heap.size, 0, none⟩) (i : Int) 2 := ⟨rfl, by omega, by omega⟩
      have ld1 : ∀ {w'}, Ext w17 w' → ld w' (padd (some ⟨w10.heap.size, 0, none⟩) ((j : Int).toNat * 1)) = some (.slice p.a p.n p.c) := by
        intro w' hh
        rw [padd_row, (hrow1.ext hh).ld]
        simpa using hp
      have ld2 : ∀ {w'}, Ext w17 w' → ld w' (padd (some ⟨w15.heap.size, 0, none⟩) ((i : Int).toNat * 1)) = some (.int .i64 z) := by
        intro w' hh
        rw [padd_row, (hrow2.ext hh).ld]
        simpa using hz
      have l1 := hrow1.lt
      have l2 := hrow2.lt
      refine ⟨hin1, p, ld1 xx, hin2, z, ld2 xx, ?_⟩
      refine (code_Read_spec p pb z wr'.drew (hpr.ext xx) hpi hpc (by omega) hz1 (by unfold inI; omega)).mono ?_
      rintro e w32 ⟨⟨s33, rfl, o33⟩, x32⟩
      have xx2 := xx.tr x32
      have s0 := xx.size
      have s1 := xx2.size
      refine ⟨s33, _, rfl, x32.heap (by omega), x32.heap (by omega), hin1, p, ld1 xx2.drew, hin2, z, ld2 xx2.drew, ?_⟩
      refine (ref06_Read_spec p pb z w32.drew (hpr.ext xx2.drew) hpi (by omega) hpc hz1 (by unfold inI; omega)).mono ?_
      rintro e w37 ⟨⟨s38, rfl, o38⟩, x37⟩
      have xx3 := xx2.drew.tr x37
      have s2 := xx3.size
      have hrl := readB_len (may := bMay) pb z
      have sd : w32.drew.heap.size = w32.heap.size := rfl
      refine ⟨s38, _, rfl, x37.heap (by omega), x37.heap (by omega), Br.mk (fun h => by simp at h) (fun _ => ?_)⟩
      refine (ref05_Same_spec s33 s38 _ _ w37 (RdK.ext o33.rdr (Ext.tr (Ext.dr _) x37)) o38.rdr (by unfold Bd; omega)).mono ?_
      rintro e w40 ⟨rfl, x40⟩
      rw [decide_eq_true rfl]
      have s3 := x40.size
      refine ⟨_, rfl, x40.heap (by omega), x40.heap (by omega), Br.mk (fun h => by cases h) (fun _ => ⟨q' - 1, by omega, rfl, rfl, i + 1, by omega, by omega, ?_⟩)⟩
      exact ((((xr'.drew).tr x32).drew).tr x37).tr x40
    · exact ⟨q - 1, by omega, rfl, rfl, j + 1, by omega, by omega, xr.tr xr'⟩
  · refine (law06_lives_spec wr).mono ?_
    rintro e w3 ⟨rfl, x3⟩
    have := xr.size
    exact ⟨_, rfl, x3.heap (by have := hrow1.lt; omega), x3.heap (by have := hrow2.lt; omega), rfl, (xw17.tr xr).tr x3⟩
end Go.Proofs.YtbphdgiepimmkaaDoor
