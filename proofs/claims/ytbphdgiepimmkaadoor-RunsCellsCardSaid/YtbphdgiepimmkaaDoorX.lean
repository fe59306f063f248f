import Derived.Test.YtbphdgiepimmkaaDoorR
set_option linter.all false
namespace Go.Proofs.YtbphdgiepimmkaaDoor
open Go Go.Vc Go.RowKit Go.Proofs Go.Runs

/-- A law's answer. -/
abbrev Good (w : World) : Ending → World → Prop := fun e w' => e = .returned (.bool true) ∧ Ext w w'
theorem lives5 {w w0 : World} (x : Ext w w0) : Calls Tryd.prog n_law05_lives #[] w0 (fun e w17 => ∃ b18 : Bool, e = .returned (.bool b18) ∧ Good w (.returned (.bool b18)) w17) := by
  refine (law05_lives_spec w0).mono ?_
  rintro e w' ⟨rfl, x'⟩
  exact ⟨_, rfl, rfl, x.tr x'⟩
theorem setC_hit {c : List Int} {i x : Int} (h0 : 0 ≤ i) (h1 : i < (c.length : Int)) (hx : bMay x = true) : setC c i x = c.set i.toNat x := by
  unfold setC; rw [if_pos ⟨hx, h0, h1⟩]
/-- What the start of a law makes: good runs, and how many cells they are of. -/
theorem law_start {s : Sl} {l : List Rn} {w : World} (hs : RdR w s l) (hl : ∀ r ∈ l, inI r.1 ∧ inI r.2) {K : Sl → Sl → World → Prop}
    (h : ∀ g cs w2, OwR w.heap.size w2 g (ofC (goodC l)) → cs.n = (goodC l).length → Ext w w2 → K g cs w2) :
    Calls Tryd.prog n_ref05_Good #[.slice s.a s.n s.c] w fun e w0 => ∃ s1 : Sl, e = .returned (.slice s1.a s1.n s1.c) ∧
      Calls Tryd.prog n_ref05_Cells #[.slice s1.a s1.n s1.c] w0 fun e w2 => ∃ s3 : Sl, e = .returned (.slice s3.a s3.n s3.c) ∧ K s1 s3 w2 := by
  have hg := goodC_len l
  refine (ref05_Good_spec s l w hs hl).mono ?_
  rintro e w1 ⟨s1, rfl, o1, x1⟩
  have hl1 := ofC_len (goodC l)
  refine ⟨s1, rfl, (ref05_Cells_spec s1 _ w1 o1.rdr (by unfold Bd; omega) (fun r hr => by have := mem_ofC hr; omega) (by rw [sumR_ofC]; omega)).mono ?_⟩
  rintro e w2 ⟨s2, rfl, o2, x2⟩
  rw [cells_ofC] at o2
  exact ⟨s2, rfl, h s1 s2 w2 (OwnK.ext o1 x2) (RdC.len o2.rdc) (x1.tr x2)⟩
theorem bdC {c : List Int} (h : c.length ≤ 480) : Bd c.length := by unfold Bd; omega
theorem bdR {c : List Int} (h : c.length ≤ 480) : Bd (ofC c).length := by have := ofC_len c; unfold Bd; omega
theorem same_good (s t : Sl) (c d : List Int) (w : World) (hs : RdR w s (ofC c)) (ht : RdR w t (ofC d)) (hc : c.length ≤ 480) (e : c = d) :
    Calls Tryd.prog n_ref05_Same #[.slice s.a s.n s.c, .slice t.a t.n t.c] w fun e w' => e = .returned (.bool true) ∧ Ext w w' := by
  subst e
  refine (ref05_Same_spec s t _ _ w hs ht (bdR hc)).mono ?_
  rintro e w' ⟨rfl, x⟩
  exact ⟨by rw [decide_eq_true rfl], x⟩
theorem RunsTwo_good (s : Sl) (l : List Rn) (i k a b : Int) (w : World) (hs : RdR w s l) (hl : ∀ r ∈ l, inI r.1 ∧ inI r.2) (hi : inI i) (hk : inI k) (ha : inI a) (hb : inI b) :
    Calls Tryd.prog n_law05_RunsTwo #[.slice s.a s.n s.c, .int .i64 i, .int .i64 k, .int .i64 a, .int .i64 b] w (Good w) := by
  apply law05_RunsTwo.vc
  have hc := goodC_len l
  refine law_start hs hl fun g cs w2 o x hcs => ?_
  generalize goodC l = c at *
  rw [x]
  have bi := around_bd i c.length (by omega)
  have bk := around_bd k c.length (by omega)
  have ga := (bGood_bd a).2.2
  have gb := (bGood_bd b).2.2
  refine (around_spec i c.length w2 hi (by omega) (by unfold inI; omega)).mono ?_
  rintro e w3 ⟨rfl, rfl⟩
  refine ⟨_, rfl, (around_spec k c.length w3 hk (by omega) (by unfold inI; omega)).mono ?_⟩
  rintro e w4 ⟨rfl, rfl⟩
  refine ⟨_, rfl, (ref04_Good_spec a w4 ha).mono ?_⟩
  rintro e w5 ⟨rfl, rfl⟩
  refine ⟨_, rfl, (ref04_Good_spec b w5 hb).mono ?_⟩
  rintro e w6 ⟨rfl, rfl⟩
  generalize around i c.length = p at *
  generalize around k c.length = q at *
  generalize bGood a = u at *
  generalize bGood b = v at *
  refine ⟨_, rfl, (runs_Set_spec g c p u w6 o.rdr (bdC hc.2) (by unfold inI; omega)).mono ?_⟩
  rintro e w7 ⟨s1, rfl, o1, x1⟩
  refine ⟨s1, rfl, (runs_Set_spec s1 _ q v w7 o1.rdr (by rw [setC_len]; exact bdC hc.2) (by unfold inI; omega)).mono ?_⟩
  rintro e w8 ⟨s2, rfl, o2, x2⟩
  refine ⟨s2, rfl, (runs_Set_spec g c q v w8 ((o.rdr.ext x1).ext x2) (bdC hc.2) (by unfold inI; omega)).mono ?_⟩
  rintro e w9 ⟨s3, rfl, o3, x3⟩
  refine ⟨s3, rfl, (runs_Set_spec s3 _ p u w9 o3.rdr (by rw [setC_len]; exact bdC hc.2) (by unfold inI; omega)).mono ?_⟩
  rintro e w10 ⟨s4, rfl, o4, x4⟩
  have xx := (((hcs.tr x1).tr x2).tr x3).tr x4
  have r2 := (o2.rdr.ext x3).ext x4
  have r4 := o4.rdr
  have rg := (((o.rdr.ext x1).ext x2).ext x3).ext x4
  refine ⟨s4, rfl, Br.mk (fun h => ?_) (fun h => ?_)⟩ <;> simp at h
  · refine (same_good s2 s4 _ _ w10 r2 r4 (by rw [setC_len, setC_len]; omega) ?_).mono ?_
    · rw [setC_hit (c := c) bi.1 bi.2 ga, setC_hit (c := c) bk.1 bk.2 gb, setC_hit bk.1 (by simpa using bk.2) gb, setC_hit bi.1 (by simpa using bi.2) ga]
      exact List.set_comm _ _ (by omega)
    · rintro e w11 ⟨rfl, x11⟩
      exact ⟨_, rfl, Br.mk (fun _ => lives5 (xx.tr x11)) (fun h => by cases h)⟩
  · subst h
    refine (runs_Set_spec g c p v w10 rg (bdC hc.2) (by unfold inI; omega)).mono ?_
    rintro e w11 ⟨s5, rfl, o5, x5⟩
    refine ⟨s5, rfl, (same_good s2 s5 _ _ w11 (r2.ext x5) o5.rdr (by rw [setC_len, setC_len]; omega) ?_).mono ?_⟩
    · rw [setC_hit (c := c) bi.1 bi.2 ga, setC_hit (c := c) bi.1 bi.2 gb, setC_hit bi.1 (by simpa using bi.2) gb, List.set_set]
    · rintro e w12 ⟨rfl, x12⟩
      refine ⟨_, rfl, Br.mk (fun _ => ?_) (fun h => by cases h)⟩
      refine (runs_Set_spec g c p u w12 ((rg.ext x5).ext x12) (bdC hc.2) (by unfold inI; omega)).mono ?_
      rintro e w13 ⟨s6, rfl, o6, x6⟩
      refine ⟨s6, rfl, (same_good s4 s6 _ _ w13 (((r4.ext x5).ext x12).ext x6) o6.rdr (by rw [setC_len, setC_len]; omega) ?_).mono ?_⟩
      · rw [setC_hit (c := c) bi.1 bi.2 ga, setC_hit (c := c) bi.1 bi.2 gb, setC_hit bi.1 (by simpa using bi.2) ga, List.set_set]
      · rintro e w14 ⟨rfl, x14⟩
        exact ⟨_, rfl, Br.mk (fun _ => lives5 ((((xx.tr x5).tr x12).tr x6).tr x14)) (fun h => by cases h)⟩
theorem fill_may {c : List Int} {a b x : Int} (h : ∀ y ∈ c, bMay y = true) : ∀ y ∈ (if bMay x then fillC c a b x else c), bMay y = true := by
  intro y hy
  split at hy
  · rename_i hm
    unfold fillC at hy
    obtain ⟨i, hi, rfl⟩ := List.mem_mapIdx.1 hy
    split
    · exact hm
    · exact h _ (List.getElem_mem hi)
  · exact h y hy
theorem set_may {c : List Int} {i x : Int} (h : ∀ y ∈ c, bMay y = true) : ∀ y ∈ setC c i x, bMay y = true := by
  intro y hy
  unfold setC at hy
  split at hy
  · rename_i hm
    rcases List.mem_or_eq_of_mem_set hy with hy | rfl
    · exact h y hy
    · exact hm.1
  · exact h y hy
theorem may_good (s : Sl) (c : List Int) (n : Int) (w : World) (hs : RdR w s (ofC c)) (hc : c.length ≤ 480) (h0 : c ≠ []) (hm : ∀ y ∈ c, bMay y = true) (e : n = c.length) :
    Calls Tryd.prog n_runs_May #[.slice s.a s.n s.c, .int .i64 n] w fun e w' => e = .returned (.bool true) ∧ Ext w w' := by
  subst e
  refine (runs_May_spec s _ _ w hs (bdR hc) (by unfold inI; omega)).mono ?_
  rintro e w' ⟨rfl, x⟩
  exact ⟨by rw [mayR_ofC hm h0], x⟩
theorem len_good (s : Sl) (c : List Int) (w : World) (hs : RdR w s (ofC c)) (hc : c.length ≤ 480) :
    Calls Tryd.prog n_runs_Len #[.slice s.a s.n s.c] w fun e w' => e = .returned (.int .i64 (c.length : Nat)) ∧ Ext w w' := by
  refine (runs_Len_spec s _ w hs (bdR hc) (fun r hr => by have := mem_ofC hr; omega) (by rw [sumR_ofC]; omega)).mono ?_
  rintro e w' ⟨rfl, x⟩
  exact ⟨by rw [sumR_ofC], x⟩
theorem RunsFill_good (s : Sl) (l : List Rn) (a b x : Int) (w : World) (hs : RdR w s l) (hl : ∀ r ∈ l, inI r.1 ∧ inI r.2) (ha : inI a) (hb : inI b) (hx : inI x) :
    Calls Tryd.prog n_law05_RunsFill #[.slice s.a s.n s.c, .int .i64 a, .int .i64 b, .int .i64 x] w (Good w) := by
  apply law05_RunsFill.vc
  have hc := goodC_len l
  have hm := goodC_may l
  have hne := goodC_ne l
  refine law_start hs hl fun g cs w2 o hcs x2 => ?_
  generalize goodC l = c at *
  rw [hcs]
  refine (runs_Fill_spec g c a b x w2 o.rdr (bdC hc.2) ha hb).mono ?_
  rintro e w3 ⟨s1, rfl, o1, x3⟩
  refine ⟨s1, rfl, (ref04_Good_spec x w3 hx).mono ?_⟩
  rintro e w4 ⟨rfl, rfl⟩
  have gx := (bGood_bd x).2.2
  refine ⟨_, rfl, (runs_Fill_spec g c 0 (c.length : Nat) (bGood x) w4 (o.rdr.ext x3) (bdC hc.2) (by unfold inI; omega) (by unfold inI; omega)).mono ?_⟩
  rintro e w5 ⟨s2, rfl, o2, x5⟩
  rw [if_pos gx, fillC_all c _ _ (Int.le_refl _)] at o2
  refine ⟨s2, rfl, (ref05_Fill_spec g c a b x w5 ((o.rdr.ext x3).ext x5) (bdC hc.2)).mono ?_⟩
  rintro e w6 ⟨s3, rfl, o3, x6⟩
  have hlen : (if bMay x then fillC c a b x else c).length = c.length := by split <;> simp [fillC_len]
  have hmf := fill_may (a := a) (b := b) (x := x) hm
  generalize (if bMay x then fillC c a b x else c) = f at *
  refine ⟨s3, rfl, (same_good s1 s3 _ _ w6 ((o1.rdr.ext x5).ext x6) o3.rdr (by omega) rfl).mono ?_⟩
  rintro e w7 ⟨rfl, x7⟩
  refine ⟨_, rfl, Br.mk (fun _ => ?_) (fun h => by cases h)⟩
  refine (may_good s1 f (c.length : Nat) w7 (((o1.rdr.ext x5).ext x6).ext x7) (by omega) (by intro h; rw [h] at hlen; simp at hlen; omega) hmf (by rw [hlen])).mono ?_
  rintro e w8 ⟨rfl, x8⟩
  have r2 := ((o2.rdr.ext x6).ext x7).ext x8
  have hn2 := RdR.len r2
  rw [ofC_rep _ _ hc.1] at hn2
  refine ⟨_, rfl, Br.mk (fun _ => Br.mk (fun _ => ?_) (fun h => by simp at h hn2; omega)) (fun h => by cases h)⟩
  refine (len_good s2 _ w8 r2 (by simpa using hc.2)).mono ?_
  rintro e w9 ⟨rfl, x9⟩
  refine ⟨_, rfl, Br.mk (fun _ => lives5 ((((((x2.tr x3).tr x5).tr x6).tr x7).tr x8).tr x9)) (fun h => by simp at h)⟩
theorem RunsSet_good (s : Sl) (l : List Rn) (i b : Int) (w : World) (hs : RdR w s l) (hl : ∀ r ∈ l, inI r.1 ∧ inI r.2) (hi : inI i) (hb : inI b) :
    Calls Tryd.prog n_law05_RunsSet #[.slice s.a s.n s.c, .int .i64 i, .int .i64 b] w (Good w) := by
  apply law05_RunsSet.vc
  have hc := goodC_len l
  have hm := goodC_may l
  have hne := goodC_ne l
  have again := fun w0 (x : Ext w w0) => ref05_Good_spec s l w0 (hs.ext x) hl
  refine law_start hs hl fun g cs w2 o hcs x2 => ?_
  generalize goodC l = c at *
  rw [hcs]
  have bi := around_bd i c.length (by omega)
  have gb := (bGood_bd b).2.2
  have hbd := bdC hc.2
  have hbr := bdR hc.2
  have hpos : ∀ r ∈ ofC c, 0 ≤ r.1 := fun r hr => by have := mem_ofC hr; omega
  have hsum : sumR (ofC c) ≤ 1099511627776 := by rw [sumR_ofC]; omega
  refine (around_spec i c.length w2 hi (by omega) (by unfold inI; omega)).mono ?_
  rintro e w3 ⟨rfl, rfl⟩
  refine ⟨_, rfl, (ref04_Good_spec b w3 hb).mono ?_⟩
  rintro e w4 ⟨rfl, rfl⟩
  generalize around i c.length = p at *
  generalize bGood b = u at *
  have hp : inI p := by unfold inI; omega
  refine ⟨_, rfl, (runs_Set_spec g c i b w4 o.rdr hbd hi).mono ?_⟩
  rintro e w5 ⟨s1, rfl, o1, x5⟩
  refine ⟨s1, rfl, (runs_Set_spec g c p u w5 (o.rdr.ext x5) hbd hp).mono ?_⟩
  rintro e w6 ⟨s2, rfl, o2, x6⟩
  have rg6 := (o.rdr.ext x5).ext x6
  refine ⟨s2, rfl, (ref05_Set_spec g c i b w6 rg6 hbd).mono ?_⟩
  rintro e w7 ⟨s3, rfl, o3, x7⟩
  refine ⟨s3, rfl, (same_good s1 s3 _ _ w7 ((o1.rdr.ext x6).ext x7) o3.rdr (by rw [setC_len]; omega) rfl).mono ?_⟩
  rintro e w8 ⟨rfl, x8⟩
  have rg8 := (rg6.ext x7).ext x8
  have r2 := (o2.rdr.ext x7).ext x8
  refine ⟨_, rfl, Br.mk (fun h => by cases h) (fun _ => (ref05_Set_spec g c p u w8 rg8 hbd).mono ?_)⟩
  rintro e w9 ⟨s4, rfl, o4, x9⟩
  refine ⟨s4, rfl, (same_good s2 s4 _ _ w9 (r2.ext x9) o4.rdr (by rw [setC_len]; omega) rfl).mono ?_⟩
  rintro e w10 ⟨rfl, x10⟩
  have xx := (((((x2.tr x5).tr x6).tr x7).tr x8).tr x9).tr x10
  have rg10 := (rg8.ext x9).ext x10
  have r2' := (r2.ext x9).ext x10
  refine ⟨_, rfl, Br.mk (fun h => by cases h) (fun _ => (runs_At_spec g _ i w10 rg10 hbr hpos hsum hi).mono ?_)⟩
  rintro e w11 ⟨rfl, x11⟩
  refine ⟨_, rfl, (ref05_At_spec g c i w11 (rg10.ext x11) hbd).mono ?_⟩
  rintro e w12 ⟨rfl, x12⟩
  rw [cells_ofC]
  refine ⟨_, rfl, Br.mk (fun _ => ?_) (fun h => by simp at h)⟩
  have hpos2 : ∀ r ∈ ofC (setC c p u), 0 ≤ r.1 := fun r hr => by have := mem_ofC hr; omega
  refine (runs_At_spec s2 _ p w12 ((r2'.ext x11).ext x12) (bdR (by rw [setC_len]; omega)) hpos2 (by rw [sumR_ofC, setC_len]; omega) hp).mono ?_
  rintro e w13 ⟨rfl, x13⟩
  have hat : atC (cellsR (ofC (setC c p u))) p = u := by
    rw [cells_ofC, setC_hit bi.1 bi.2 gb]
    have := atC_get (c := c.set p.toNat u) (i := p) bi.1 (by simpa using bi.2)
    rw [List.getElem?_set, if_pos rfl, if_pos (by omega)] at this
    exact (Option.some.inj this).symm
  rw [hat]
  refine ⟨_, rfl, Br.mk (fun _ => ?_) (fun h => by simp at h)⟩
  have r2'' := ((r2'.ext x11).ext x12).ext x13
  refine (may_good s2 _ (c.length : Nat) w13 r2'' (by rw [setC_len]; omega) (by intro h; have e := setC_len c p u; rw [h] at e; simp at e; omega) (set_may hm) (by rw [setC_len])).mono ?_
  rintro e w14 ⟨rfl, x14⟩
  have rg14 := (((rg10.ext x11).ext x12).ext x13).ext x14
  refine ⟨_, rfl, Br.mk (fun _ => ?_) (fun h => by cases h)⟩
  refine (runs_At_spec g _ (-1) w14 rg14 hbr hpos hsum (by unfold inI; omega)).mono ?_
  rintro e w15 ⟨rfl, x15⟩
  rw [cells_ofC, atC_out _ _ (.inl (by omega))]
  refine ⟨_, rfl, Br.mk (fun _ => ?_) (fun h => by simp at h)⟩
  refine (runs_At_spec g _ (c.length : Nat) w15 (rg14.ext x15) hbr hpos hsum (by unfold inI; omega)).mono ?_
  rintro e w16 ⟨rfl, x16⟩
  rw [cells_ofC, atC_out _ _ (.inr (by omega))]
  refine ⟨_, rfl, Br.mk (fun _ => ?_) (fun h => by simp at h)⟩
  have xy := (((((xx.tr x11).tr x12).tr x13).tr x14).tr x15).tr x16
  refine (again w16 xy).mono ?_
  rintro e w17 ⟨s5, rfl, o5, x17⟩
  refine ⟨s5, rfl, (same_good g s5 _ _ w17 (((rg14.ext x15).ext x16).ext x17) o5.rdr hc.2 rfl).mono ?_⟩
  rintro e w18 ⟨rfl, x18⟩
  exact ⟨_, rfl, Br.mk (fun _ => lives5 ((xy.tr x17).tr x18)) (fun h => by cases h)⟩
end Go.Proofs.YtbphdgiepimmkaaDoor
namespace Go.Proofs.YtbphdgiepimmkaaDoor
open Go Go.Vc Go.RowKit Go.Proofs Go.Runs
set_option maxRecDepth 20000

theorem ref05_Blocks_spec (s : Sl) (c : List Int) (w : World) (hs : RdC w s c) (hc : ∀ b ∈ c, inI b) :
    Calls Tryd.prog n_ref05_Blocks #[.slice s.a s.n s.c, .int .i64 300] w fun e w' => ∃ s' : Sl, e = .returned (.slice s'.a s'.n s'.c) ∧ OwC w.heap.size w' s' ((c.take 300).map bGood) ∧ Ext w w' := by
  have hsn := RdC.len hs
  apply ref05_Blocks.vc
  refine ⟨fun n x o wr => ∃ k : Nat, x = k ∧ k + n = min c.length 300 ∧ Ext w wr ∧ OwC w.heap.size wr o ((c.take k).map bGood), ⟨min c.length 300, 0, rfl, by omega, Ext.rfl' w, OwnK.nil⟩, ?_⟩
  rintro n us x o wr ⟨k, rfl, hk, xr, ho⟩
  have hon := RdC.len ho.rdc
  rw [List.length_map, List.length_take] at hon
  have hw := wrap_in (n := (k : Int) + 1) (by unfold inI; omega)
  refine Br.mk (fun h1 => Br.mk (fun h2 => ?_) (fun h2 => ?_)) (fun h1 => ?_)
  · simp only [decide_eq_true_eq] at h1 h2
    obtain ⟨b, hb⟩ := get_lt (l := c) (i := k) (by omega)
    refine ⟨RdC.inB hs (by omega), b, RdC.c0 (hs.ext xr) hb, (ref04_Good_spec b wr (hc b (List.mem_of_getElem? hb))).mono ?_⟩
    rintro e w8 ⟨rfl, rfl⟩
    refine ⟨_, rfl, ?_⟩
    rintro w10 rfl
    obtain ⟨hp, hres⟩ := OwnK.app1 ho (bytes := 8) (news := iv (bGood b)) (.cells #[.int .i64 (bGood b)] tInt) xr.size rfl (one_i _ _) (by omega) (by omega)
    refine ⟨hp, fun s11 w12 hr => ?_⟩
    obtain ⟨k1, ho', _, xb, _, _⟩ := hres s11 w12 hr
    refine ⟨k1, n - 1, by omega, k + 1, by omega, by omega, xr.trans xb, ?_⟩
    have e : (c.take (k + 1)).map bGood = (c.take k).map bGood ++ [bGood b] := by rw [List.take_add_one, hb, List.map_append]; rfl
    rw [e]
    show OwnK _ _ 1 _ _ (((c.take k).map bGood ++ [bGood b]).map iv)
    rw [List.map_append]; exact ho'
  · simp only [decide_eq_true_eq, decide_eq_false_iff_not] at h1 h2
    have : c.take k = c.take 300 := by rw [show k = 300 from by omega]
    rw [this] at ho
    exact ⟨o, rfl, ho, xr⟩
  · simp only [decide_eq_false_iff_not] at h1
    have : c.take k = c.take 300 := by rw [List.take_of_length_le (by omega), List.take_of_length_le (by omega)]
    rw [this] at ho
    exact ⟨o, rfl, ho, xr⟩
theorem ref05_SameCells_spec (s t : Sl) (c : List Int) (w : World) (hs : RdC w s c) (ht : RdC w t c) (hb : Bd c.length) :
    Calls Tryd.prog n_ref05_SameCells #[.slice s.a s.n s.c, .slice t.a t.n t.c] w fun e w' => e = .returned (.bool true) ∧ Ext w w' := by
  have hsn := RdC.len hs
  have htn := RdC.len ht
  unfold Bd at hb
  apply ref05_SameCells.vc
  refine Br.mk (fun h => by simp at h; omega) (fun _ => ?_)
  refine ⟨fun n x wr => ∃ k : Nat, x = k ∧ k + n = c.length ∧ Ext w wr, ⟨c.length, 0, rfl, by omega, Ext.rfl' w⟩, ?_⟩
  rintro n us x wr ⟨k, rfl, hk, xr⟩
  have hw := wrap_in (n := (k : Int) + 1) (by unfold inI; omega)
  refine Br.mk (fun h1 => ?_) (fun h1 => ⟨rfl, xr⟩)
  simp only [decide_eq_true_eq] at h1
  obtain ⟨b, hbk⟩ := get_lt (l := c) (i := k) (by omega)
  refine ⟨RdC.inB hs (by omega), b, RdC.c0 (hs.ext xr.drew) hbk, RdC.inB ht (by omega), b, RdC.c0 (ht.ext xr.drew) hbk, Br.mk (fun h => by simp at h) (fun _ => ⟨n - 1, by omega, k + 1, by omega, by omega, xr.drew⟩)⟩
theorem RunsCells_good (s t : Sl) (c : List Int) (l : List Rn) (w : World) (hs : RdC w s c) (ht : RdR w t l) (hc : ∀ b ∈ c, inI b) (hl : ∀ r ∈ l, inI r.1 ∧ inI r.2) :
    Calls Tryd.prog n_law05_RunsCells #[.slice s.a s.n s.c, .slice t.a t.n t.c] w (Good w) := by
  have hgl := goodC_len l
  have hgr := ofC_len (goodC l)
  apply law05_RunsCells.vc
  rintro w0 rfl
  have x0 := Ext.al w (.cells #[.bool false] 4)
  have hlt0 : w.heap.size < (w.alloc (.cells #[.bool false] 4)).heap.size := by simp
  refine (ref05_Blocks_spec s c _ (hs.ext x0) hc).mono ?_
  rintro e w1 ⟨o, rfl, oo, x1⟩
  have hol : ((c.take 300).map bGood).length ≤ 300 := by rw [List.length_map, List.length_take]; omega
  generalize (c.take 300).map bGood = own at *
  have hor := ofC_len own
  have z1 := x1.size
  refine ⟨o, rfl, x1.heap hlt0, (runs_Of_spec o own w1 oo.rdc (by unfold Bd; omega)).mono ?_⟩
  rintro e w3 ⟨q, rfl, oq, x3⟩
  have z3 := x3.size
  have oo3 := OwnK.ext oo x3
  refine ⟨q, rfl, x3.heap (by omega), (ref05_Of_spec o own w3 (OwC.rdc oo3) (by unfold Bd; omega)).mono ?_⟩
  rintro e w5 ⟨q', rfl, oq', x5⟩
  have z5 := x5.size
  refine ⟨q', rfl, x5.heap (by omega), (ref05_Same_spec q q' _ _ w5 (RdK.ext oq.rdr x5) oq'.rdr (by unfold Bd; omega)).mono ?_⟩
  rintro e w7 ⟨rfl, x7⟩
  have z7 := x7.size
  rw [decide_eq_true rfl]
  have oq7 : RdR w7 q (ofC own) := RdK.ext oq.rdr (x5.tr x7)
  refine ⟨_, rfl, x7.heap (by omega), Br.mk (fun h => by cases h) (fun _ => ?_)⟩
  have hsum := sumR_ofC own
  have hpos : ∀ c : List Int, ∀ r ∈ ofC c, 0 ≤ r.1 := fun c r hr => by have := (Nm_ofC c).pos r hr; omega
  refine (runs_Cells_spec q (ofC own) w7 oq7 (by unfold Bd; omega) (hpos own) (by omega)).mono ?_
  rintro e w10 ⟨d, rfl, od, x10⟩
  have z10 := x10.size
  rw [cells_ofC] at od
  refine ⟨d, rfl, x10.heap (by omega), (ref05_SameCells_spec d o own w10 od.rdc (RdK.ext (OwC.rdc oo3) ((x5.tr x7).tr x10)) (by unfold Bd; omega)).mono ?_⟩
  rintro e w12 ⟨rfl, x12⟩
  have z12 := x12.size
  refine ⟨_, rfl, x12.heap (by omega), Br.mk (fun h => by cases h) (fun _ => ?_)⟩
  refine (runs_Len_spec q (ofC own) w12 (oq7.ext (x10.tr x12)) (by unfold Bd; omega) (hpos own) (by omega)).mono ?_
  rintro e w15 ⟨rfl, x15⟩
  have z15 := x15.size
  have hon := RdC.len oo.rdc
  refine ⟨_, rfl, x15.heap (by omega), Br.mk (fun h => by simp [hsum, hon] at h) (fun _ => ?_)⟩
  have xw12 : Ext w w15 := ((((((x0.tr x1).tr x3).tr x5).tr x7).tr x10).tr x12).tr x15
  refine (ref05_Good_spec t l w15 (ht.ext xw12) hl).mono ?_
  rintro e w18 ⟨g, rfl, og, x18⟩
  have z18 := x18.size
  have hgs := sumR_ofC (goodC l)
  have hgc := cells_ofC (goodC l)
  refine ⟨g, rfl, x18.heap (by omega), (runs_All_spec g w18).mono ?_⟩
  rintro e w20 ⟨rfl, hb20, x20⟩
  have z20 := x20.size
  have hb18 := hb20.lt
  refine ⟨_, rfl, x20.heap (by omega), ?_⟩
  rw [fnC_func, isNilF_func, AndL_nil]
  have og20 := OwnK.ext og x20
  refine Br.mk (fun h => by cases h) (fun _ => (ref05_Cells_spec g _ w20 (OwR.rdr og20) (by unfold Bd; omega) (hpos _) (by omega)).mono ?_)
  rintro e w23 ⟨v, rfl, ov, x23⟩
  rw [hgc] at ov
  have z23 := x23.size
  have hvn := RdC.len ov.rdc
  refine ⟨v, rfl, x23.heap (by omega), ?_⟩
  rintro w25 rfl w26 hw26 w27 rfl w28 hw28
  have x26 : Ext w23 w26 := by rw [hw26]; exact (Ext.al w23 (.cells #[.slice none 0 0] 32)).setRow (Nat.le_refl _) _
  have z26 : w26.heap.size = w23.heap.size + 1 := by rw [hw26, setRow_size]; simp
  clear hw26
  have x28 : Ext w26 w28 := by rw [hw28]; exact (Ext.al w26 (.cells #[.int .i64 0] 3)).setRow (Nat.le_refl _) _
  have z28 : w28.heap.size = w26.heap.size + 1 := by rw [hw28, setRow_size]; simp
  clear hw28
  have x2328 := x26.tr x28
  have xw28 : Ext w w28 := (((xw12.tr x18).tr x20).tr x23).tr x2328
  have ov28 := OwnK.ext ov x2328
  have og28 := OwnK.ext (OwnK.ext og20 x23) x2328
  have hb28 := hb20.ext (x23.tr x2328)
  have hgne : ofC (goodC l) ≠ [] := by
    intro e; rw [e] at hgs
    have : sumR ([] : List Rn) = 0 := rfl
    omega
  have hgblk : ∀ i, allRd w18.heap.size g (ofC (goodC l)) i → w.heap.size < i ∧ i < w20.heap.size := fun i hi => by
    rcases hi with h | ⟨_, h⟩
    · omega
    · have := og.own.lt h
      omega
  have hvblk : ∀ i, v.blk = some i → w20.heap.size ≤ i ∧ i < w23.heap.size := fun i hi => ov.own.lt hi
  refine ⟨allX (ofC (goodC l)), allRd w18.heap.size g (ofC (goodC l)), fun _ => False,
    fun n F b x w' => (∀ i, ¬ F i) ∧ x = (n : Nat) ∧ Mod (fun i => i = w.heap.size ∨ i = w26.heap.size ∨ w28.heap.size ≤ i) w28 w', fun _ _ _ _ _ => False,
    allX_shape _, ?_, fun _ _ _ _ _ _ h => h.elim, fun n F b x w' h i hi => (h.1 i hi).elim, fun _ _ _ _ _ h => h.elim, fun i hi => ?_, fun w58 hbeg => ?_, ?_, ?_, fun _ _ _ _ _ h => h.elim⟩
  · rintro n F b x w3 w4 ⟨h1, h2, h3⟩ hbl _
    refine ⟨h1, h2, h3.tr ⟨hbl.os, hbl.tape, hbl.output, hbl.size, fun i hi hn => hbl.block i (Nat.lt_of_not_le hn)⟩ fun i hi => .inl (.inr (.inr hi))⟩
  · have := hgblk i hi
    exact ⟨by omega, id, by omega, by omega, by omega, trivial⟩
  · refine ⟨runs_All_iter g _ w18.heap.size w58 (RdK.below' (OwR.rdr og28) hbeg.ext) (hb28.same (hbeg.ext.block _ (by omega))) (by unfold Bd; omega) (hpos _) (by omega), rfl, fun i h => h, rfl, Mod.of_ext hbeg.ext⟩
  · rintro n F us b x y z w66 hx hI
    obtain ⟨rfl, hz⟩ := allX_inv hx
    rw [hgc] at hz
    have hnl : n < (goodC l).length := (List.getElem?_eq_some_iff.1 hz).1
    refine ⟨Below.refl _ _, fun w67 hrec hI7 => ?_⟩
    obtain ⟨hF, rfl, hM⟩ := hI7
    have hw := wrap_in (n := (n : Int) + 1) (by unfold inI; omega)
    refine Br.mk (fun h => by simp at h; omega) (fun _ => Br.mk (fun h => by simp at h) (fun _ => ?_))
    have hrd : RdC w67 v (goodC l) := RdK.same (OwC.rdc ov28) fun i hi => by
      have := hvblk i hi
      exact hM.same i (by omega) (by omega)
    refine ⟨RdC.inB hrd (by omega), z, RdC.c0 hrd hz, Br.mk (fun h => by simp at h) (fun _ => ?_)⟩
    rintro w75 hw75
    have e75 : ∀ i, i ≠ w26.heap.size → w75.heap[i]? = w67.heap[i]? := fun i hi => by rw [hw75]; exact setRow_other _ _ _ _ hi
    have z75 : w75.heap.size = w67.heap.size := by rw [hw75, setRow_size]
    have m75 : Mod (fun i => i = w26.heap.size) w67 w75 := ⟨by rw [hw75]; rfl, by rw [hw75]; rfl, by rw [hw75]; rfl, by omega, fun i _ hn => e75 i hn⟩
    refine ⟨F, ⟨rfl, hF, hw, hM.tr m75 fun i hi => .inl (.inr (.inl hi))⟩, ⟨fun i hi => .inl hi, by omega, fun i _ hn => e75 i fun e => hn (.inr (by simp [e]))⟩⟩
  · rintro F us b x w81 ⟨hF, hx, hM⟩ hD
    rw [allX_len, hgc] at hx
    have mx : Ext w w81 := hM.ext xw28 fun i hi => by omega
    have z81 := hM.size
    have hD' := (Array.getElem?_eq_some_iff.1 hD).1
    refine Br.mk (fun _ => ?_) (fun h => by simp [hx, hvn] at h)
    have hrg : RdR w81 g (ofC (goodC l)) := RdK.same' (OwR.rdr og28) fun hne i hi => by
      have := hgblk i (.inr ⟨fun e => hne (by rw [e]; rfl), hi⟩)
      exact hM.same i (by omega) (by omega)
    refine (runs_Cells_spec g _ w81 hrg (by unfold Bd; omega) (hpos _) (by omega)).mono ?_
    rintro e w82 ⟨d2, rfl, od2, x82⟩
    have z82 := x82.size
    rw [hgc] at od2
    refine ⟨d2, rfl, x82.heap (by omega), x82.heap (by omega), x82.heap (by omega), (runs_Of_spec d2 _ w82 od2.rdc (by unfold Bd; omega)).mono ?_⟩
    rintro e w84 ⟨q2, rfl, oq2, x84⟩
    have z84 := x84.size
    refine ⟨q2, rfl, x84.heap (by omega), x84.heap (by omega), x84.heap (by omega), (ref05_Same_spec q2 g _ _ w84 oq2.rdr (hrg.ext (x82.tr x84)) (by unfold Bd; omega)).mono ?_⟩
    rintro e w86 ⟨rfl, x86⟩
    have z86 := x86.size
    rw [decide_eq_true rfl]
    refine ⟨_, rfl, x86.heap (by omega), x86.heap (by omega), x86.heap (by omega), Br.mk (fun _ => (law05_lives_spec w86).mono ?_) (fun h => by cases h)⟩
    rintro e w88 ⟨rfl, x88⟩
    have z88 := x88.size
    refine ⟨_, rfl, x88.heap (by omega), x88.heap (by omega), x88.heap (by omega), ?_⟩
    rintro w90 hw90
    have x88' := (((mx.tr x82).tr x84).tr x86).tr x88
    have xd := ((x82.tr x84).tr x86).tr x88
    have x90 : Ext w w90 := by rw [hw90]; exact x88'.setRow (Nat.le_refl _) _
    refine ⟨?_, fun w91 hr => ⟨rfl, x90.trans (hr.below (by have := xw28.size; omega))⟩⟩
    rw [hw90, setRow_other _ _ _ _ (by have := xw28.size; omega), xd.heap (i := w28.heap.size) (by omega)]
    exact hD
end Go.Proofs.YtbphdgiepimmkaaDoor
