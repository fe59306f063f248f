import Derived.Test.YtbphdgiepimmkaaDoorW
set_option linter.all false
namespace Go.Proofs.YtbphdgiepimmkaaDoor
open Go Go.Vc Go.RowKit Go.Proofs Go.Runs

/-- A law's answer. -/
abbrev Good (w : World) : Ending → World → Prop := fun e w' => e = .returned (.bool true) ∧ Ext w w'
theorem lives5 {w w0 : World} (x : Ext w w0) : Calls Tryd.prog n_law05_lives #[] w0 (fun e w17 => ∃ b18 : Bool, e = .returned (.bool b18) ∧ Good w (.returned (.bool b18)) w17) := by
  refine (law05_lives_spec w0).mono ?_
  rintro e w' ⟨rfl, x'⟩
  exact ⟨_, rfl, rfl, x.tr x'⟩
theorem setC_hit {c : List Int} {i x : Int} (h0 : 0 ≤ i) (h1 : i < (c.length : Int)) (hx : bMay x = true) : setC c i x = c.set i.toNat x := by
  unfold setC; rw [if_pos ⟨hx, h0, h1⟩]
/-- What the start of a law makes: good runs, and how many cells they are of. -/
theorem law_start {s : Sl} {l : List Rn} {w : World} (hs : RdR w s l) (hl : ∀ r ∈ l, inI r.1 ∧ inI r.2) {K : Sl → Sl → World → Prop}
    (h : ∀ g cs w2, OwR w.heap.size w2 g (ofC (goodC l)) → cs.n = (goodC l).length → Ext w w2 → K g cs w2) :
    Calls Tryd.prog n_ref05_Good #[.slice s.a s.n s.c] w fun e w0 => ∃ s1 : Sl, e = .returned (.slice s1.a s1.n s1.c) ∧
      Calls Tryd.prog n_ref05_Cells #[.slice s1.a s1.n s1.c] w0 fun e w2 => ∃ s3 : Sl, e = .returned (.slice s3.a s3.n s3.c) ∧ K s1 s3 w2 := by
  have hg := goodC_len l
  refine (ref05_Good_spec s l w hs hl).mono ?_
  rintro e w1 ⟨s1, rfl, o1, x1⟩
  have hl1 := ofC_len (goodC l)
  refine ⟨s1, rfl, (ref05_Cells_spec s1 _ w1 o1.rdr (by unfold Bd; omega) (fun r hr => by have := mem_ofC hr; omega) (by rw [sumR_ofC]; omega)).mono ?_⟩
  rintro e w2 ⟨s2, rfl, o2, x2⟩
  rw [cells_ofC] at o2
  exact ⟨s2, rfl, h s1 s2 w2 (OwnK.ext o1 x2) (RdC.len o2.rdc) (x1.tr x2)⟩
theorem bdC {c : List Int} (h : c.length ≤ 480) : Bd c.length := by unfold Bd; omega
theorem bdR {c : List Int} (h : c.length ≤ 480) : Bd (ofC c).length := by have := ofC_len c; unfold Bd; omega
theorem same_good (s t : Sl) (c d : List Int) (w : World) (hs : RdR w s (ofC c)) (ht : RdR w t (ofC d)) (hc : c.length ≤ 480) (e : c = d) :
    Calls Tryd.prog n_ref05_Same #[.slice s.a s.n s.c, .slice t.a t.n t.c] w fun e w' => e = .returned (.bool true) ∧ Ext w w' := by
  subst e
  refine (ref05_Same_spec s t _ _ w hs ht (bdR hc)).mono ?_
  rintro e w' ⟨rfl, x⟩
  exact ⟨by rw [decide_eq_true rfl], x⟩
theorem RunsTwo_good (s : Sl) (l : List Rn) (i k a b : Int) (w : World) (hs : RdR w s l) (hl : ∀ r ∈ l, inI r.1 ∧ inI r.2) (hi : inI i) (hk : inI k) (ha : inI a) (hb : inI b) :
    Calls Tryd.prog n_law05_RunsTwo #[.slice s.a s.n s.c, .int .i64 i, .int .i64 k, .int .i64 a, .int .i64 b] w (Good w) := by
  apply law05_RunsTwo.vc
  have hc := goodC_len l
  refine law_start hs hl fun g cs w2 o x hcs => ?_
  generalize goodC l = c at *
  rw [x]
  have bi := around_bd i c.length (by omega)
  have bk := around_bd k c.length (by omega)
  have ga := (bGood_bd a).2.2
  have gb := (bGood_bd b).2.2
  refine (around_spec i c.length w2 hi (by omega) (by unfold inI; omega)).mono ?_
  rintro e w3 ⟨rfl, rfl⟩
  refine ⟨_, rfl, (around_spec k c.length w3 hk (by omega) (by unfold inI; omega)).mono ?_⟩
  rintro e w4 ⟨rfl, rfl⟩
  refine ⟨_, rfl, (ref04_Good_spec a w4 ha).mono ?_⟩
  rintro e w5 ⟨rfl, rfl⟩
  refine ⟨_, rfl, (ref04_Good_spec b w5 hb).mono ?_⟩
  rintro e w6 ⟨rfl, rfl⟩
  generalize around i c.length = p at *
  generalize around k c.length = q at *
  generalize bGood a = u at *
  generalize bGood b = v at *
  refine ⟨_, rfl, (runs_Set_spec g c p u w6 o.rdr (bdC hc.2) (by unfold inI; omega)).mono ?_⟩
  rintro e w7 ⟨s1, rfl, o1, x1⟩
  refine ⟨s1, rfl, (runs_Set_spec s1 _ q v w7 o1.rdr (by rw [setC_len]; exact bdC hc.2) (by unfold inI; omega)).mono ?_⟩
  rintro e w8 ⟨s2, rfl, o2, x2⟩
  refine ⟨s2, rfl, (runs_Set_spec g c q v w8 ((o.rdr.ext x1).ext x2) (bdC hc.2) (by unfold inI; omega)).mono ?_⟩
  rintro e w9 ⟨s3, rfl, o3, x3⟩
  refine ⟨s3, rfl, (runs_Set_spec s3 _ p u w9 o3.rdr (by rw [setC_len]; exact bdC hc.2) (by unfold inI; omega)).mono ?_⟩
  rintro e w10 ⟨s4, rfl, o4, x4⟩
  have xx := (((hcs.tr x1).tr x2).tr x3).tr x4
  have r2 := (o2.rdr.ext x3).ext x4
  have r4 := o4.rdr
  have rg := (((o.rdr.ext x1).ext x2).ext x3).ext x4
  refine ⟨s4, rfl, Br.mk (fun h => ?_) (fun h => ?_)⟩ <;> simp at h
  · refine (same_good s2 s4 _ _ w10 r2 r4 (by rw [setC_len, setC_len]; omega) ?_).mono ?_
    · rw [setC_hit (c := c) bi.1 bi.2 ga, setC_hit (c := c) bk.1 bk.2 gb, setC_hit bk.1 (by simpa using bk.2) gb, setC_hit bi.1 (by simpa using bi.2) ga]
      exact List.set_comm _ _ (by omega)
    · rintro e w11 ⟨rfl, x11⟩
      exact ⟨_, rfl, Br.mk (fun _ => lives5 (xx.tr x11)) (fun h => by cases h)⟩
  · subst h
    refine (runs_Set_spec g c p v w10 rg (bdC hc.2) (by unfold inI; omega)).mono ?_
    rintro e w11 ⟨s5, rfl, o5, x5⟩
    refine ⟨s5, rfl, (same_good s2 s5 _ _ w11 (r2.ext x5) o5.rdr (by rw [setC_len, setC_len]; omega) ?_).mono ?_⟩
    · rw [setC_hit (c := c) bi.1 bi.2 ga, setC_hit (c := c) bi.1 bi.2 gb, setC_hit bi.1 (by simpa using bi.2) gb, List.set_set]
    · rintro e w12 ⟨rfl, x12⟩
      refine ⟨_, rfl, Br.mk (fun _ => ?_) (fun h => by cases h)⟩
      refine (runs_Set_spec g c p u w12 ((rg.ext x5).ext x12) (bdC hc.2) (by unfold inI; omega)).mono ?_
      rintro e w13 ⟨s6, rfl, o6, x6⟩
      refine ⟨s6, rfl, (same_good s4 s6 _ _ w13 (((r4.ext x5).ext x12).ext x6) o6.rdr (by rw [setC_len, setC_len]; omega) ?_).mono ?_⟩
      · rw [setC_hit (c := c) bi.1 bi.2 ga, setC_hit (c := c) bi.1 bi.2 gb, setC_hit bi.1 (by simpa using bi.2) ga, List.set_set]
      · rintro e w14 ⟨rfl, x14⟩
        exact ⟨_, rfl, Br.mk (fun _ => lives5 ((((xx.tr x5).tr x12).tr x6).tr x14)) (fun h => by cases h)⟩
theorem fill_may {c : List Int} {a b x : Int} (h : ∀ y ∈ c, bMay y = true) : ∀ y ∈ (if bMay x then fillC c a b x else c), bMay y = true := by
  intro y hy
  split at hy
  · rename_i hm
    unfold fillC at hy
    obtain ⟨i, hi, rfl⟩ := List.mem_mapIdx.1 hy
    split
    · exact hm
    · exact h _ (List.getElem_mem hi)
  · exact h y hy
theorem set_may {c : List Int} {i x : Int} (h : ∀ y ∈ c, bMay y = true) : ∀ y ∈ setC c i x, bMay y = true := by
  intro y hy
  unfold setC at hy
  split at hy
  · rename_i hm
    rcases List.mem_or_eq_of_mem_set hy with hy | rfl
    · exact h y hy
    · exact hm.1
  · exact h y hy
theorem may_good (s : Sl) (c : List Int) (n : Int) (w : World) (hs : RdR w s (ofC c)) (hc : c.length ≤ 480) (h0 : c ≠ []) (hm : ∀ y ∈ c, bMay y = true) (e : n = c.length) :
    Calls Tryd.prog n_runs_May #[.slice s.a s.n s.c, .int .i64 n] w fun e w' => e = .returned (.bool true) ∧ Ext w w' := by
  subst e
  refine (runs_May_spec s _ _ w hs (bdR hc) (by unfold inI; omega)).mono ?_
  rintro e w' ⟨rfl, x⟩
  exact ⟨by rw [mayR_ofC hm h0], x⟩
theorem len_good (s : Sl) (c : List Int) (w : World) (hs : RdR w s (ofC c)) (hc : c.length ≤ 480) :
    Calls Tryd.prog n_runs_Len #[.slice s.a s.n s.c] w fun e w' => e = .returned (.int .i64 (c.length : Nat)) ∧ Ext w w' := by
  refine (runs_Len_spec s _ w hs (bdR hc) (fun r hr => by have := mem_ofC hr; omega) (by rw [sumR_ofC]; omega)).mono ?_
  rintro e w' ⟨rfl, x⟩
  exact ⟨by rw [sumR_ofC], x⟩
theorem RunsFill_good (s : Sl) (l : List Rn) (a b x : Int) (w : World) (hs : RdR w s l) (hl : ∀ r ∈ l, inI r.1 ∧ inI r.2) (ha : inI a) (hb : inI b) (hx : inI x) :
    Calls Tryd.prog n_law05_RunsFill #[.slice s.a s.n s.c, .int .i64 a, .int .i64 b, .int .i64 x] w (Good w) := by
  apply law05_RunsFill.vc
  have hc := goodC_len l
  have hm := goodC_may l
  have hne := goodC_ne l
  refine law_start hs hl fun g cs w2 o hcs x2 => ?_
  generalize goodC l = c at *
  rw [hcs]
  refine (runs_Fill_spec g c a b x w2 o.rdr (bdC hc.2) ha hb).mono ?_
  rintro e w3 ⟨s1, rfl, o1, x3⟩
  refine ⟨s1, rfl, (ref04_Good_spec x w3 hx).mono ?_⟩
  rintro e w4 ⟨rfl, rfl⟩
  have gx := (bGood_bd x).2.2
  refine ⟨_, rfl, (runs_Fill_spec g c 0 (c.length : Nat) (bGood x) w4 (o.rdr.ext x3) (bdC hc.2) (by unfold inI; omega) (by unfold inI; omega)).mono ?_⟩
  rintro e w5 ⟨s2, rfl, o2, x5⟩
  rw [if_pos gx, fillC_all c _ _ (Int.le_refl _)] at o2
  refine ⟨s2, rfl, (ref05_Fill_spec g c a b x w5 ((o.rdr.ext x3).ext x5) (bdC hc.2)).mono ?_⟩
  rintro e w6 ⟨s3, rfl, o3, x6⟩
  have hlen : (if bMay x then fillC c a b x else c).length = c.length := by split <;> simp [fillC_len]
  have hmf := fill_may (a := a) (b := b) (x := x) hm
  generalize (if bMay x then fillC c a b x else c) = f at *
  refine ⟨s3, rfl, (same_good s1 s3 _ _ w6 ((o1.rdr.ext x5).ext x6) o3.rdr (by omega) rfl).mono ?_⟩
  rintro e w7 ⟨rfl, x7⟩
  refine ⟨_, rfl, Br.mk (fun _ => ?_) (fun h => by cases h)⟩
  refine (may_good s1 f (c.length : Nat) w7 (((o1.rdr.ext x5).ext x6).ext x7) (by omega) (by intro h; rw [h] at hlen; simp at hlen; omega) hmf (by rw [hlen])).mono ?_
  rintro e w8 ⟨rfl, x8⟩
  have r2 := ((o2.rdr.ext x6).ext x7).ext x8
  have hn2 := RdR.len r2
  rw [ofC_rep _ _ hc.1] at hn2
  refine ⟨_, rfl, Br.mk (fun _ => Br.mk (fun _ => ?_) (fun h => by simp at h hn2; omega)) (fun h => by cases h)⟩
  refine (len_good s2 _ w8 r2 (by simpa using hc.2)).mono ?_
  rintro e w9 ⟨rfl, x9⟩
  refine ⟨_, rfl, Br.mk (fun _ => lives5 ((((((x2.tr x3).tr x5).tr x6).tr x7).tr x8).tr x9)) (fun h => by simp at h)⟩
theorem RunsSet_good (s : Sl) (l : List Rn) (i b : Int) (w : World) (hs : RdR w s l) (hl : ∀ r ∈ l, inI r.1 ∧ inI r.2) (hi : inI i) (hb : inI b) :
    Calls Tryd.prog n_law05_RunsSet #[.slice s.a s.n s.c, .int .i64 i, .int .i64 b] w (Good w) := by
  apply law05_RunsSet.vc
  have hc := goodC_len l
  have hm := goodC_may l
  have hne := goodC_ne l
  have again := fun w0 (x : Ext w w0) => ref05_Good_spec s l w0 (hs.ext x) hl
  refine law_start hs hl fun g cs w2 o hcs x2 => ?_
  generalize goodC l = c at *
  rw [hcs]
  have bi := around_bd i c.length (by omega)
  have gb := (bGood_bd b).2.2
  have hbd := bdC hc.2
  have hbr := bdR hc.2
  have hpos : ∀ r ∈ ofC c, 0 ≤ r.1 := fun r hr => by have := mem_ofC hr; omega
  have hsum : sumR (ofC c) ≤ 1099511627776 := by rw [sumR_ofC]; omega
  refine (around_spec i c.length w2 hi (by omega) (by unfold inI; omega)).mono ?_
  rintro e w3 ⟨rfl, rfl⟩
  refine ⟨_, rfl, (ref04_Good_spec b w3 hb).mono ?_⟩
  rintro e w4 ⟨rfl, rfl⟩
  generalize around i c.length = p at *
  generalize bGood b = u at *
  have hp : inI p := by unfold inI; omega
  refine ⟨_, rfl, (runs_Set_spec g c i b w4 o.rdr hbd hi).mono ?_⟩
  rintro e w5 ⟨s1, rfl, o1, x5⟩
  refine ⟨s1, rfl, (runs_Set_spec g c p u w5 (o.rdr.ext x5) hbd hp).mono ?_⟩
  rintro e w6 ⟨s2, rfl, o2, x6⟩
  have rg6 := (o.rdr.ext x5).ext x6
  refine ⟨s2, rfl, (ref05_Set_spec g c i b w6 rg6 hbd).mono ?_⟩
  rintro e w7 ⟨s3, rfl, o3, x7⟩
  refine ⟨s3, rfl, (same_good s1 s3 _ _ w7 ((o1.rdr.ext x6).ext x7) o3.rdr (by rw [setC_len]; omega) rfl).mono ?_⟩
  rintro e w8 ⟨rfl, x8⟩
  have rg8 := (rg6.ext x7).ext x8
  have r2 := (o2.rdr.ext x7).ext x8
  refine ⟨_, rfl, Br.mk (fun h => by cases h) (fun _ => (ref05_Set_spec g c p u w8 rg8 hbd).mono ?_)⟩
  rintro e w9 ⟨s4, rfl, o4, x9⟩
  refine ⟨s4, rfl, (same_good s2 s4 _ _ w9 (r2.ext x9) o4.rdr (by rw [setC_len]; omega) rfl).mono ?_⟩
  rintro e w10 ⟨rfl, x10⟩
  have xx := (((((x2.tr x5).tr x6).tr x7).tr x8).tr x9).tr x10
  have rg10 := (rg8.ext x9).ext x10
  have r2' := (r2.ext x9).ext x10
  refine ⟨_, rfl, Br.mk (fun h => by cases h) (fun _ => (runs_At_spec g _ i w10 rg10 hbr hpos hsum hi).mono ?_)⟩
  rintro e w11 ⟨rfl, x11⟩
  refine ⟨_, rfl, (ref05_At_spec g c i w11 (rg10.ext x11) hbd).mono ?_⟩
  rintro e w12 ⟨rfl, x12⟩
  rw [cells_ofC]
  refine ⟨_, rfl, Br.mk (fun _ => ?_) (fun h => by simp at h)⟩
  have hpos2 : ∀ r ∈ ofC (setC c p u), 0 ≤ r.1 := fun r hr => by have := mem_ofC hr; omega
  refine (runs_At_spec s2 _ p w12 ((r2'.ext x11).ext x12) (bdR (by rw [setC_len]; omega)) hpos2 (by rw [sumR_ofC, setC_len]; omega) hp).mono ?_
  rintro e w13 ⟨rfl, x13⟩
  have hat : atC (cellsR (ofC (setC c p u))) p = u := by
    rw [cells_ofC, setC_hit bi.1 bi.2 gb]
    have := atC_get (c := c.set p.toNat u) (i := p) bi.1 (by simpa using bi.2)
    rw [List.getElem?_set, if_pos rfl, if_pos (by omega)] at this
    exact (Option.some.inj this).symm
  rw [hat]
  refine ⟨_, rfl, Br.mk (fun _ => ?_) (fun h => by simp at h)⟩
  have r2'' := ((r2'.ext x11).ext x12).ext x13
  refine (may_good s2 _ (c.length : Nat) w13 r2'' (by rw [setC_len]; omega) (by intro h; have e := setC_len c p u; rw [h] at e; simp at e; omega) (set_may hm) (by rw [setC_len])).mono ?_
  rintro e w14 ⟨rfl, x14⟩
  have rg14 := (((rg10.ext x11).ext x12).ext x13).ext x14
  refine ⟨_, rfl, Br.mk (fun _ => ?_) (fun h => by cases h)⟩
  refine (runs_At_spec g _ (-1) w14 rg14 hbr hpos hsum (by unfold inI; omega)).mono ?_
  rintro e w15 ⟨rfl, x15⟩
  rw [cells_ofC, atC_out _ _ (.inl (by omega))]
  refine ⟨_, rfl, Br.mk (fun _ => ?_) (fun h => by simp at h)⟩
  refine (runs_At_spec g _ (c.length : Nat) w15 (rg14.ext x15) hbr hpos hsum (by unfold inI; omega)).mono ?_
  rintro e w16 ⟨rfl, x16⟩
  rw [cells_ofC, atC_out _ _ (.inr (by omega))]
  refine ⟨_, rfl, Br.mk (fun _ => ?_) (fun h => by simp at h)⟩
  have xy := (((((xx.tr x11).tr x12).tr x13).tr x14).tr x15).tr x16
  refine (again w16 xy).mono ?_
  rintro e w17 ⟨s5, rfl, o5, x17⟩
  refine ⟨s5, rfl, (same_good g s5 _ _ w17 (((rg14.ext x15).ext x16).ext x17) o5.rdr hc.2 rfl).mono ?_⟩
  rintro e w18 ⟨rfl, x18⟩
  exact ⟨_, rfl, Br.mk (fun _ => lives5 ((xy.tr x17).tr x18)) (fun h => by cases h)⟩
end Go.Proofs.YtbphdgiepimmkaaDoor
