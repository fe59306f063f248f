import Derived.Test.YtbphdgiepimmkaaDoorY
import Derived.Deep.SlicePairs
set_option linter.all false
namespace Go.Proofs.YtbphdgiepimmkaaDoor
open Go Go.Vc Go.RowKit Go.Proofs Go.Runs

theorem RunsMay_part (s t : Sl) (l m : List Rn) (n at0 : Int) (r : Rn) (w w0 : World) (x0 : Ext w w0) (hrow : Row w0 w.heap.size [.int .i64 r.1, .int .i64 r.2] tRun) (hs : RdR w0 s l) (hl : ∀ r ∈ l, inI r.1 ∧ inI r.2) (hn : inI n) (hat : inI at0) (hb : Bd l.length) :
    Calls Tryd.prog n_ref05_Good #[.slice s.a s.n s.c] w0 (fun e w22 => ∃ (s23 : Sl), e = .returned (.slice s23.a s23.n s23.c) ∧ w22.heap[w.heap.size]? = w0.heap[w.heap.size]? ∧ 
 Calls Tryd.prog n_ref05_Cells #[.slice s23.a s23.n s23.c] w22 (fun e w24 => ∃ (s25 : Sl), e = .returned (.slice s25.a s25.n s25.c) ∧ w24.heap[w.heap.size]? = w22.heap[w.heap.size]? ∧ 
 Calls Tryd.prog n_runs_May #[.slice s.a s.n s.c, .int .i64 n] w24 (fun e w26 => ∃ (b27 : Bool), e = .returned (.bool b27) ∧ w26.heap[w.heap.size]? = w24.heap[w.heap.size]? ∧ 
 Calls Tryd.prog n_ref05_May #[.slice s.a s.n s.c, .int .i64 n] w26 (fun e w28 => ∃ (b29 : Bool), e = .returned (.bool b29) ∧ w28.heap[w.heap.size]? = w26.heap[w.heap.size]? ∧ 
 Br (!(b27 == b29))
 (Good w (.returned (.bool false)) w28)
 (Calls Tryd.prog n_runs_May #[.slice s23.a s23.n s23.c, .int .i64 ((s25.n : Nat) : Int)] w28 (fun e w30 => ∃ (b31 : Bool), e = .returned (.bool b31) ∧ w30.heap[w.heap.size]? = w28.heap[w.heap.size]? ∧ 
 Br (!b31)
 (Good w (.returned (.bool false)) w30)
 (Calls Tryd.prog n_runs_May #[.slice s23.a s23.n s23.c, .int .i64 (IntKind.wrap .i64 (((s25.n : Nat) : Int) + 1))] w30 (fun e w32 => ∃ (b33 : Bool), e = .returned (.bool b33) ∧ w32.heap[w.heap.size]? = w30.heap[w.heap.size]? ∧ 
 Br b33
 (Good w (.returned (.bool false)) w32)
 (Calls Tryd.prog n_ref01_Around #[.int .i64 at0, .int .i64 ((s23.n : Nat) : Int)] w32.drew (fun e w34 => ∃ (x35 : Int), e = .returned (.int .i64 x35) ∧ w34.heap[w.heap.size]? = w32.drew.heap[w.heap.size]? ∧ 
 LoadL w34 (some ⟨w.heap.size, 0, none⟩) 0 [.int .i64 r.1, .int .i64 r.2] ∧ InB s23.a x35 s23.n ∧ (((padd s23.a ((x35 : Int).toNat * 2))).isSome = true ∧ Wr w34 (padd s23.a ((x35 : Int).toNat * 2)) 2) ∧ pblk (padd s23.a ((x35 : Int).toNat * 2)) ≠ some w.heap.size ∧ (∀ w36 : World, w36 = setP w34 (padd s23.a ((x35 : Int).toNat * 2)) [.int .i64 r.1, .int .i64 r.2] →
 Calls Tryd.prog n_runs_May #[.slice s23.a s23.n s23.c, .int .i64 ((s25.n : Nat) : Int)] w36 (fun e w37 => ∃ (b38 : Bool), e = .returned (.bool b38) ∧ w37.heap[w.heap.size]? = w36.heap[w.heap.size]? ∧ 
 Calls Tryd.prog n_ref05_May #[.slice s23.a s23.n s23.c, .int .i64 ((s25.n : Nat) : Int)] w37 (fun e w39 => ∃ (b40 : Bool), e = .returned (.bool b40) ∧ w39.heap[w.heap.size]? = w37.heap[w.heap.size]? ∧ 
 Br (b38 == b40)
 (Calls Tryd.prog n_law05_lives #[] w39 (fun e w41 => ∃ (b42 : Bool), e = .returned (.bool b42) ∧ w41.heap[w.heap.size]? = w39.heap[w.heap.size]? ∧ 
 Good w (.returned (.bool b42)) w41))
 (Good w (.returned (.bool false)) w39)))))))))))))) := by
  have hc := goodC_len l
  have hm := goodC_may l
  have hne := goodC_ne l
  have hlt := hrow.lt
  refine (ref05_Good_spec s l w0 hs hl).mono ?_
  rintro e w1 ⟨g, rfl, o1, x1⟩
  generalize goodC l = c at *
  have hbd := bdC hc.2
  have hbr := bdR hc.2
  have hpos : ∀ d, ∀ r ∈ ofC d, 0 ≤ r.1 := fun d r hr => by have := mem_ofC hr; omega
  have hsum : sumR (ofC c) ≤ 1099511627776 := by rw [sumR_ofC]; omega
  refine ⟨g, rfl, x1.heap hlt, (ref05_Cells_spec g _ w1 o1.rdr hbr (hpos c) hsum).mono ?_⟩
  rintro e w2 ⟨cs, rfl, o2, x2⟩
  rw [cells_ofC] at o2
  have hcs := RdC.len o2.rdc
  have x12 := x1.tr x2
  have l1 := (hrow.ext x1).lt
  refine ⟨cs, rfl, x2.heap l1, ?_⟩
  rw [hcs]
  refine (runs_May_spec s l n w2 (hs.ext x12) hb hn).mono ?_
  rintro e w3 ⟨rfl, x3⟩
  have l2 := (hrow.ext x12).lt
  refine ⟨_, rfl, x3.heap l2, (ref05_May_spec s l n w3 ((hs.ext x12).ext x3) hb hn).mono ?_⟩
  rintro e w4 ⟨rfl, x4⟩
  have x14 := (x12.tr x3).tr x4
  have l3 := (hrow.ext (x12.tr x3)).lt
  refine ⟨_, rfl, x4.heap l3, Br.mk (fun h => by simp at h) (fun _ => ?_)⟩
  have r4 := ((o1.rdr.ext x2).ext x3).ext x4
  have l4 := (hrow.ext x14).lt
  refine (may_good g c _ w4 r4 hc.2 hne hm rfl).mono ?_
  rintro e w5 ⟨rfl, x5⟩
  refine ⟨_, rfl, x5.heap l4, Br.mk (fun h => by cases h) (fun _ => ?_)⟩
  have hw := wrap_in (n := ((c.length : Nat) : Int) + 1) (by unfold inI; omega)
  rw [hw]
  have l5 := (hrow.ext (x14.tr x5)).lt
  refine (runs_May_spec g _ _ w5 (r4.ext x5) hbr (by unfold inI; omega)).mono ?_
  rintro e w6 ⟨rfl, x6⟩
  rw [mayR_more (by omega)]
  refine ⟨_, rfl, x6.heap l5, Br.mk (fun h => by cases h) (fun _ => ?_)⟩
  have hgn := RdR.len o1.rdr
  have hgp : 1 ≤ (ofC c).length := by
    rcases Nat.eq_zero_or_pos (ofC c).length with h | h
    · have := List.eq_nil_of_length_eq_zero h
      have e := cells_ofC c
      rw [this] at e; exact absurd e.symm hne
    · exact h
  have hgl := ofC_len c
  have bi := around_bd at0 g.n (by omega)
  refine (around_spec at0 g.n w6.drew hat (by omega) (by unfold inI; omega)).mono ?_
  rintro e w7 ⟨rfl, rfl⟩
  have x16 := (x14.tr x5).tr x6
  have xd := x16.drew
  have hrow7 := hrow.ext xd
  obtain ⟨k, hk⟩ : ∃ k : Nat, around at0 g.n = k := ⟨(around at0 g.n).toNat, by omega⟩
  rw [hk]
  have x27 : Ext w1 w6.drew := ((((x2.tr x3).tr x4).tr x5).tr x6).drew
  have o7 := OwnK.ext o1 x27
  obtain ⟨p1, p2, p3, p4, p5⟩ := o7.put (i := k) (r := rv r) (by simp; omega) (by omega) rfl (one_ii _ _ _ _)
  have hin := RdR.inB o1.rdr (i := k) (by omega)
  have hblk : g.blk ≠ some w.heap.size := by
    intro hb
    have h1 := (o1.own.lt hb).1
    omega
  refine ⟨_, rfl, rfl, ?_, hin, ⟨p1, p2⟩, ?_, ?_⟩
  · exact hrow7.loadL (o := 0) fun j hj => by
      rcases j with _ | _ | j
      · rfl
      · rfl
      · simp at hj; omega
  · rw [pblk_padd]; exact hblk
  · rintro w8 rfl
    have e1 : ((ofC c).map rv).set k (rv r) = ((ofC c).set k r).map rv := by rw [List.map_set]
    rw [e1] at p3
    have p3' : OwR w0.heap.size _ g ((ofC c).set k r) := p3
    have hd : Bd ((ofC c).set k r).length := by simpa using hbr
    have x8 : Ext w0 (setP w6.drew (padd g.a (k * 2)) (rv r)) := xd.trans p4
    refine (runs_May_spec g _ (c.length : Nat) _ p3'.rdr hd (by unfold inI; omega)).mono ?_
    rintro e w9 ⟨rfl, x9⟩
    have l8 := (hrow.ext x8).lt
    refine ⟨_, rfl, x9.heap l8, (ref05_May_spec g _ (c.length : Nat) _ (p3'.rdr.ext x9) hd (by unfold inI; omega)).mono ?_⟩
    rintro e w10 ⟨rfl, x10⟩
    have l9 := (hrow.ext (x8.tr x9)).lt
    have l10 := (hrow.ext ((x8.tr x9).tr x10)).lt
    refine ⟨_, rfl, x10.heap l9, Br.mk (fun _ => ?_) (fun h => by simp at h)⟩
    refine (law05_lives_spec w10).mono ?_
    rintro e w11 ⟨rfl, x11⟩
    exact ⟨_, rfl, x11.heap l10, rfl, x0.tr (((x8.tr x9).tr x10).tr x11)⟩
theorem RunsMay_good (s : Sl) (l : List Rn) (n at0 : Int) (r : Rn) (w : World) (hs : RdR w s l) (hsc : s.n ≤ s.c) (hl : ∀ r ∈ l, inI r.1 ∧ inI r.2) (hn : inI n) (hat : inI at0) :
    Calls Tryd.prog n_law05_RunsMay #[.slice s.a s.n s.c, .int .i64 n, .int .i64 at0, .agg #[.int .i64 r.1, .int .i64 r.2]] w (Good w) := by
  have hsn := RdR.len hs
  apply law05_RunsMay.vc
  rintro w0 rfl
  have xa := Ext.al w (.cells #[.int .i64 r.1, .int .i64 r.2] tRun)
  have hrow := Row.new w [.int .i64 r.1, .int .i64 r.2] tRun
  refine Br.mk (fun h => ?_) (fun h => ?_) <;> simp at h
  · refine ⟨by omega, by omega, ?_⟩
    have hcut := RdK.cut (hs.ext xa) (m := 20) (c' := s.c) (c'' := s.c - 0) (by simp; omega)
    rw [← List.map_take] at hcut
    exact RunsMay_part ⟨slBase s.a 0 s.c 2, 20, s.c - 0⟩ ⟨none, 0, 0⟩ (l.take 20) [] n at0 r w _ xa hrow hcut (fun r hr => hl r (List.mem_of_mem_take hr)) hn hat (by rw [List.length_take]; unfold Bd; omega)
  · exact RunsMay_part s ⟨none, 0, 0⟩ l [] n at0 r w _ xa hrow (hs.ext xa) hl hn hat (by unfold Bd; omega)
end Go.Proofs.YtbphdgiepimmkaaDoor
