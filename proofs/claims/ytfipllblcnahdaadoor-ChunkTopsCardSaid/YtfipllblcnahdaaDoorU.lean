import Derived.Test.YtfipllblcnahdaaDoorT
set_option linter.all false
namespace Go.Proofs.YtfipllblcnahdaaDoor
open Go Go.Vc Go.RowKit Go.Proofs Go.Runs

theorem runs_Fill_spec (s : Sl) (c : List Int) (a b x : Int) (w : World) (hs : RdR w s (ofC c)) (hn : Bd c.length) (ha : inI a) (hb : inI b) :
    Calls Tryd.prog n_runs_Fill #[.slice s.a s.n s.c, .int .i64 a, .int .i64 b, .int .i64 x] w fun e w' => ∃ s' : Sl, e = .returned (.slice s'.a s'.n s'.c) ∧ OwR w.heap.size w' s' (ofC (if bMay x then fillC c a b x else c)) ∧ Ext w w' := by
  have hl : Bd (ofC c).length := Nat.le_trans (ofC_len c) hn
  have hp : ∀ r ∈ ofC c, 0 ≤ r.1 := fun r hr => by have := mem_ofC hr; omega
  have hsum : sumR (ofC c) ≤ 1099511627776 := by rw [sumR_ofC]; unfold Bd at hn; omega
  unfold Bd at hn
  unfold inI at ha hb
  apply runs_Fill.vc
  refine (runs_Len_spec s _ w hs hl hp hsum).mono ?_
  rintro e w1 ⟨rfl, x1⟩
  rw [sumR_ofC]
  refine ⟨_, rfl, (block_May_spec x w1).mono ?_⟩
  rintro e w2 ⟨rfl, x2⟩
  have x12 := x1.tr x2
  have e1 : (if ((c.length : Nat) : Int) < (if 0 > a then 0 else a) then ((c.length : Nat) : Int) else (if 0 > a then 0 else a)) = min (max a 0) (c.length : Int) := by split <;> split <;> omega
  have e2 : (if ((c.length : Nat) : Int) < (if 0 > b then 0 else b) then ((c.length : Nat) : Int) else (if 0 > b then 0 else b)) = min (max b 0) (c.length : Int) := by split <;> split <;> omega
  rw [e1, e2]
  refine ⟨_, rfl, Br.mk (fun h => ?_) (fun h => Br.mk (fun h2 => ?_) (fun h2 => ?_))⟩
  · simp at h
    refine (clone_spec s _ w2 (hs.ext x12) hl).mono ?_
    rintro e w3 ⟨s', rfl, ho, x3⟩
    refine ⟨s', rfl, s', rfl, ?_, x12.tr x3⟩
    rw [h]
    exact OwnK.low ho x12.size
  · simp at h h2
    refine (clone_spec s _ w2 (hs.ext x12) hl).mono ?_
    rintro e w3 ⟨s', rfl, ho, x3⟩
    refine ⟨s', rfl, s', rfl, ?_, x12.tr x3⟩
    rw [h, if_pos rfl, fillC_none c a b x (by omega)]
    exact OwnK.low ho x12.size
  · simp only [decide_eq_false_iff_not] at h2
    have hm : bMay x = true := by simpa using h
    have hw := wrap_in (n := min (max b 0) (c.length : Int) - min (max a 0) (c.length : Int)) (by unfold inI; omega)
    rw [hw]
    refine (runs_Cut_spec s _ 0 (min (max a 0) (c.length : Int)) w2 (hs.ext x12) hl hp hsum (by omega) (by omega)).mono ?_
    rintro e w3 ⟨s1, rfl, o1, x3⟩
    refine ⟨s1, rfl, (runs_Make_spec (min (max b 0) (c.length : Int) - min (max a 0) (c.length : Int)) x w3 (by omega)).mono ?_⟩
    rintro e w4 ⟨s2, rfl, o2, x4⟩
    refine ⟨s2, rfl, (runs_Cut_spec s _ (min (max b 0) (c.length : Int)) c.length w4 (((hs.ext x12).ext x3).ext x4) hl hp hsum (by omega) (by omega)).mono ?_⟩
    rintro e w5 ⟨s3, rfl, o3, x5⟩
    refine ⟨s3, rfl, ?_⟩
    rintro w6 rfl
    have x6 := Ext.al w5 (.cells #[.slice s1.a s1.n s1.c, .slice s2.a s2.n s2.c, .slice s3.a s3.n s3.c] 36)
    rw [cells_ofC] at o1 o3
    have hrow := Row.new w5 [.slice s1.a s1.n s1.c, .slice s2.a s2.n s2.c, .slice s3.a s3.n s3.c] 36
    have hrd : RdK (w5.alloc (.cells #[.slice s1.a s1.n s1.c, .slice s2.a s2.n s2.c, .slice s3.a s3.n s3.c] 36)) ⟨some ⟨w5.heap.size, 0, none⟩, 3, 3⟩ 1 ([s1, s2, s3].map fun t => [.slice t.a t.n t.c]) := by
      refine ⟨rfl, by simp, fun i r hi j v hj => ?_⟩
      show ld _ (padd (some ⟨w5.heap.size, 0, none⟩) _) = _
      rw [padd_row, hrow.ld]
      rcases i with _ | _ | _ | i <;> simp at hi
      all_goals subst hi
      all_goals rcases j with _ | j <;> simp at hj
      all_goals subst hj; rfl
    refine (runs_join_spec _ [s1, s2, s3] [seg c 0 (min (max a 0) (c.length : Int)), List.replicate (min (max b 0) (c.length : Int) - min (max a 0) (c.length : Int)).toNat x, seg c (min (max b 0) (c.length : Int)) c.length] _ hrd rfl ?_ (by simp) ?_).mono ?_
    · intro i t d ht hd
      rcases i with _ | _ | _ | i <;> simp at ht hd
      · subst ht; subst hd
        exact (((o1.ext x4).ext x5).ext x6).rd (by omega)
      · subst ht; subst hd
        exact ((o2.ext x5).ext x6).rd (by omega)
      · subst ht; subst hd
        exact (o3.ext x6).rd (by omega)
    · have e := congrArg List.length (fillC_seg c a b x (by omega))
      rw [fillC_len] at e
      simp only [List.flatten_cons, List.flatten_nil, List.append_nil, List.length_append] at e ⊢
      unfold Bd
      omega
    · rintro e w7 ⟨s', rfl, ho, x7⟩
      have xx := (((x12.tr x3).tr x4).tr x5).tr x6
      refine ⟨s', rfl, s', rfl, ?_, xx.tr x7⟩
      rw [if_pos hm, fillC_seg c a b x (by omega)]
      have ho := OwnK.low ho xx.size
      simpa using ho
/-- Cells of which the one at i is x. -/
def setC (c : List Int) (i x : Int) : List Int := if bMay x = true ∧ 0 ≤ i ∧ i < (c.length : Int) then c.set i.toNat x else c
theorem setC_len (c : List Int) (i x : Int) : (setC c i x).length = c.length := by unfold setC; split <;> simp
theorem runs_Set_spec (s : Sl) (c : List Int) (i x : Int) (w : World) (hs : RdR w s (ofC c)) (hn : Bd c.length) (hi : inI i) :
    Calls Tryd.prog n_runs_Set #[.slice s.a s.n s.c, .int .i64 i, .int .i64 x] w fun e w' => ∃ s' : Sl, e = .returned (.slice s'.a s'.n s'.c) ∧ OwR w.heap.size w' s' (ofC (setC c i x)) ∧ Ext w w' := by
  have hl : Bd (ofC c).length := Nat.le_trans (ofC_len c) hn
  have hp : ∀ r ∈ ofC c, 0 ≤ r.1 := fun r hr => by have := mem_ofC hr; omega
  have hsum : sumR (ofC c) ≤ 1099511627776 := by rw [sumR_ofC]; unfold Bd at hn; omega
  have hi' := hi
  have hn' := hn
  unfold Bd at hn'
  unfold inI at hi'
  apply runs_Set.vc
  refine Br.mk (fun h => ?_) (fun h => ?_) <;> simp at h
  · refine (clone_spec s _ w hs hl).mono ?_
    rintro e w3 ⟨s', rfl, ho, x3⟩
    refine ⟨s', rfl, s', rfl, ?_, x3⟩
    unfold setC
    rw [if_neg (by omega)]; exact ho
  · refine (runs_Len_spec s _ w hs hl hp hsum).mono ?_
    rintro e w1 ⟨rfl, x1⟩
    rw [sumR_ofC]
    refine ⟨_, rfl, Br.mk (fun h2 => ?_) (fun h2 => ?_)⟩ <;> simp at h2
    · refine (clone_spec s _ w1 (hs.ext x1) hl).mono ?_
      rintro e w3 ⟨s', rfl, ho, x3⟩
      refine ⟨s', rfl, s', rfl, ?_, x1.tr x3⟩
      unfold setC
      rw [if_neg (by omega)]; exact OwnK.low ho x1.size
    · have hw := wrap_in (n := i + 1) (by unfold inI; omega)
      rw [hw]
      refine (runs_Fill_spec s c i (i + 1) x w1 (hs.ext x1) hn hi (by unfold inI; omega)).mono ?_
      rintro e w3 ⟨s', rfl, ho, x3⟩
      refine ⟨s', rfl, s', rfl, ?_, x1.tr x3⟩
      unfold setC
      have := OwnK.low ho x1.size
      rw [fillC_one c i x h h2] at this
      cases hm : bMay x
      · rw [hm] at this
        rw [if_neg (by simp)]; exact this
      · rw [hm] at this
        rw [if_pos ⟨rfl, h, h2⟩]; exact this
theorem wrap_sub (a b : Int) : IntKind.wrap .i64 (IntKind.wrap .i64 a - b) = IntKind.wrap .i64 (a - b) := by
  unfold IntKind.wrap
  simp only [IntKind.bits, IntKind.signed, Bool.true_and]
  split <;> split <;> split <;> simp_all <;> omega
theorem runs_At_spec (s : Sl) (l : List Rn) (i : Int) (w : World) (hs : RdR w s l) (hn : Bd l.length) (hl : ∀ r ∈ l, 0 ≤ r.1) (hsum : sumR l ≤ 1099511627776) (hi : inI i) :
    Calls Tryd.prog n_runs_At #[.slice s.a s.n s.c, .int .i64 i] w fun e w' => e = .returned (.int .i64 (atC (cellsR l) i)) ∧ Ext w w' := by
  have hsn := RdR.len hs
  unfold Bd at hn
  apply runs_At.vc
  refine ⟨fun n x y wr => ∃ k : Nat, x = k ∧ k + n = l.length ∧ Ext w wr ∧ y = IntKind.wrap .i64 (i - sumR (l.take k)) ∧ (i < 0 ∨ sumR (l.take k) ≤ i), ⟨l.length, 0, rfl, by omega, Ext.rfl' w, ?_, ?_⟩, ?_⟩
  · rw [show sumR (l.take 0) = 0 from rfl, Int.sub_zero, wrap_in hi]
  · rw [show sumR (l.take 0) = 0 from rfl]; omega
  rintro n us x y wr ⟨k, rfl, hk, xr, rfl, hno⟩
  have hw := wrap_in (n := (k : Int) + 1) (by unfold inI; omega)
  unfold inI at hi
  have hc : ∀ k, ((cellsR (l.take k)).length : Int) = sumR (l.take k) := fun k => (sumR_cells fun q hq => hl q (List.mem_of_mem_take hq)).symm
  refine Br.mk (fun h => ?_) (fun h => ?_) <;> simp at h
  · obtain ⟨r, hr⟩ := get_lt (l := l) (i := k) (by omega)
    have e := sumR_take_succ hr
    have hr0 := hl r (List.mem_of_getElem? hr)
    have b1 := sumR_take_le hl k
    have b2 := sumR_take_le hl (k + 1)
    refine ⟨RdR.inB hs (by omega), _, _, RdR.ll (hs.ext xr) hr, ?_⟩
    rintro w9 rfl w10 rfl
    have x10 := ((xr.tr (Ext.al _ (.cells #[.int .i64 0, .int .i64 0] tRun))).setRow xr.size #[.int .i64 r.1, .int .i64 r.2])
    have hwi := wrap_inI (i - sumR (l.take k))
    unfold inI at hwi
    have hneg : i < 0 → (0 ≤ IntKind.wrap .i64 (i - sumR (l.take k)) → IntKind.wrap .i64 (i - sumR (l.take k)) < r.1 → False) := by
      intro h0 h1 h2
      revert h1 h2
      unfold IntKind.wrap
      simp only [IntKind.bits, IntKind.signed, Bool.true_and]
      split <;> simp_all <;> omega
    have hpos : 0 ≤ i → sumR (l.take k) ≤ i → IntKind.wrap .i64 (i - sumR (l.take k)) = i - sumR (l.take k) := fun _ _ => wrap_in (by unfold inI; omega)
    have nx : (i < 0 ∨ sumR (l.take (k + 1)) ≤ i) → ∃ n6, n6 < n ∧ ∃ k_1 : Nat, IntKind.wrap .i64 ((k : Int) + 1) = k_1 ∧ k_1 + n6 = l.length ∧ Ext w ((wr.alloc (.cells #[.int .i64 0, .int .i64 0] tRun)).setRow wr.heap.size #[.int .i64 r.1, .int .i64 r.2]) ∧
        IntKind.wrap .i64 (IntKind.wrap .i64 (i - sumR (l.take k)) - r.1) = IntKind.wrap .i64 (i - sumR (l.take k_1)) ∧ (i < 0 ∨ sumR (l.take k_1) ≤ i) :=
      fun hh => ⟨n - 1, by omega, k + 1, by omega, by omega, x10, by rw [wrap_sub, e, Int.sub_sub], hh⟩
    refine Br.mk (fun h1 => Br.mk (fun h2 => ?_) (fun h2 => ?_)) (fun h1 => ?_) <;> simp only [decide_eq_true_eq, decide_eq_false_iff_not] at *
    · rcases Int.lt_or_le i 0 with h0 | h0
      · exact (hneg h0 h1 h2).elim
      · have hle : sumR (l.take k) ≤ i := by omega
        have := hpos h0 hle
        have ht : l = l.take k ++ [r] ++ l.drop (k + 1) := by
          have := List.take_append_drop (k + 1) l
          rw [List.take_add_one, hr] at this
          exact this.symm
        refine ⟨?_, x10⟩
        have hcell : cellsR l = cellsR (l.take k) ++ List.replicate r.1.toNat r.2 ++ cellsR (l.drop (k + 1)) := by
          rw [← cellsR_one r, ← cellsR_app, ← cellsR_app, ← ht]
        rw [hcell, atC_in _ _ _ _ _ (by rw [hc]; exact hle) (by rw [hc]; omega)]
    · refine nx ?_
      rcases Int.lt_or_le i 0 with h0 | h0
      · exact .inl h0
      · have := hpos h0 (by omega); right; omega
    · refine nx ?_
      rcases Int.lt_or_le i 0 with h0 | h0
      · exact .inl h0
      · have := hpos h0 (by omega); omega
  · obtain rfl : k = l.length := by omega
    refine ⟨?_, xr⟩
    have := hc l.length
    rw [List.take_length] at this hno
    rw [atC_out _ _ (by omega)]
theorem mayL_cons (may : Int → Bool) (prev : Option Int) (left : Int) (r : Rn) (t : List Rn) : mayL may prev left (r :: t) = if r.1 < 1 ∨ r.1 > left ∨ may r.2 = false ∨ prev = some r.2 then false else mayL may (some r.2) (left - r.1) t := rfl
theorem runs_May_spec (s : Sl) (l : List Rn) (m : Int) (w : World) (hs : RdR w s l) (hn : Bd l.length) (hm : inI m) :
    Calls Tryd.prog n_runs_May #[.slice s.a s.n s.c, .int .i64 m] w fun e w' => e = .returned (.bool (mayR bMay l m)) ∧ Ext w w' := by
  have hsn := RdR.len hs
  unfold Bd at hn
  unfold inI at hm
  apply runs_May.vc
  have hprev : ∀ k, k < l.length → (l.take k).getLast? = if k = 0 then none else l[k - 1]? := by
    intro k hk
    rw [List.getLast?_eq_getElem?, List.getElem?_take, List.length_take, Nat.min_eq_left (by omega)]
    rcases Nat.eq_zero_or_pos k with rfl | h0
    · simp
    · rw [if_pos (by omega), if_neg (by omega)]
  refine ⟨fun n x y wr => ∃ k : Nat, x = k ∧ k + n = l.length ∧ Ext w wr ∧ y ≤ max m 0 ∧ (min m 0 ≤ y) ∧ mayL bMay ((l.take k).getLast?.map (·.2)) y (l.drop k) = mayL bMay none m l, ⟨l.length, 0, rfl, by omega, Ext.rfl' w, by omega, by omega, rfl⟩, ?_⟩
  rintro n us x y wr ⟨k, rfl, hk, xr, hy, hy0, heq⟩
  have hw := wrap_in (n := (k : Int) + 1) (by unfold inI; omega)
  refine Br.mk (fun h => ?_) (fun h => ?_) <;> simp at h
  · obtain ⟨r, hr⟩ := get_lt (l := l) (i := k) (by omega)
    have hd : l.drop k = r :: l.drop (k + 1) := by
      rw [List.drop_eq_getElem_cons (by omega)]
      rw [List.getElem?_eq_getElem (by omega)] at hr
      cases hr; rfl
    rw [hd] at heq
    rw [mayL_cons] at heq
    refine ⟨RdR.inB hs (by omega), _, _, RdR.ll (hs.ext xr) hr, ?_⟩
    rintro w9 rfl w10 rfl
    have x10 := ((xr.tr (Ext.al _ (.cells #[.int .i64 0, .int .i64 0] tRun))).setRow xr.size #[.int .i64 r.1, .int .i64 r.2]).drew
    have fin : ∀ w', Ext w w' → (r.1 < 1 ∨ r.1 > y ∨ bMay r.2 = false ∨ (l.take k).getLast?.map (·.2) = some r.2) → Ending.returned (.bool false) = .returned (.bool (mayR bMay l m)) ∧ Ext w w' := by
      intro w' x' hh
      rw [if_pos hh] at heq
      refine ⟨?_, x'⟩
      unfold mayR
      rw [← heq]; simp
    refine Br.mk (fun h1 => ?_) (fun h1 => Br.mk (fun h2 => ?_) (fun h2 => ?_)) <;> simp only [decide_eq_true_eq, decide_eq_false_iff_not] at *
    · exact fin _ x10 (.inl h1)
    · exact fin _ x10 (.inr (.inl h2))
    · refine (block_May_spec r.2 _).mono ?_
      rintro e w3 ⟨rfl, x3⟩
      have x4 := x10.tr x3
      have hrow : Row ((wr.alloc (.cells #[.int .i64 0, .int .i64 0] tRun)).setRow wr.heap.size #[.int .i64 r.1, .int .i64 r.2]).drew wr.heap.size [.int .i64 r.1, .int .i64 r.2] tRun := (Row.new wr [.int .i64 0, .int .i64 0] tRun).set [.int .i64 r.1, .int .i64 r.2]
      have hrow3 := hrow.ext x3
      have hkeep := x3.heap hrow.lt
      have hll : LoadL w3 (some ⟨wr.heap.size, 0, none⟩) 0 [.int .i64 r.1] := by
        refine hrow3.loadL (o := 0) fun j hj => ?_
        have : j = 0 := by simpa using hj
        subst this; rfl
      have nx : ((l.take k).getLast?.map (·.2) ≠ some r.2) → bMay r.2 = true → ∃ n6, n6 < n ∧ ∃ k_1 : Nat, IntKind.wrap .i64 ((k : Int) + 1) = k_1 ∧ k_1 + n6 = l.length ∧ Ext w w3 ∧ IntKind.wrap .i64 (y - r.1) ≤ max m 0 ∧ min m 0 ≤ IntKind.wrap .i64 (y - r.1) ∧ mayL bMay ((l.take k_1).getLast?.map (·.2)) (IntKind.wrap .i64 (y - r.1)) (l.drop k_1) = mayL bMay none m l := by
        intro hne hbm
        have hwy := wrap_in (n := y - r.1) (by unfold inI; omega)
        refine ⟨n - 1, by omega, k + 1, by omega, by omega, x4, by omega, by omega, ?_⟩
        rw [hwy]
        rw [if_neg (by
          rintro (h | h | h | h)
          · omega
          · omega
          · rw [hbm] at h; cases h
          · exact hne h)] at heq
        rw [← heq, List.take_add_one, hr]
        simp
      refine ⟨_, rfl, hkeep, hll, hll, Br.mk (fun h3 => ?_) (fun h3 => ?_)⟩
      · exact fin _ x4 (.inr (.inr (.inl (by simpa using h3))))
      · have hbm : bMay r.2 = true := by simpa using h3
        refine Br.mk (fun h4 => ?_) (fun h4 => ?_) <;> simp at h4
        · have hwk := wrap_in (n := (k : Int) - 1) (by unfold inI; omega)
          rw [hwk]
          obtain ⟨q, hq⟩ := get_lt (l := l) (i := k - 1) (by omega)
          have hin := RdR.inB hs (i := k - 1) (by omega)
          rw [show ((k - 1 : Nat) : Int) = (k : Int) - 1 from by omega] at hin
          have hcq := RdR.c1 (hs.ext x4) hq
          have hsm := RdR.some hs (i := k - 1) (by omega)
          rw [show ((k : Int) - 1).toNat = k - 1 from by omega]
          have hlast := hprev k (by omega)
          rw [if_neg (by omega), hq] at hlast
          refine ⟨hin, AndL_nn.2 ⟨hsm, _, hcq, Br.mk (fun h5 => ?_) (fun h5 => ?_)⟩⟩
          · exact fin _ x4 (.inr (.inr (.inr (by rw [hlast]; simpa using h5))))
          · exact nx (by rw [hlast]; simpa using h5) hbm
        · refine nx ?_ hbm
          have : k = 0 := by omega
          subst this; simp
  · obtain rfl : k = l.length := by omega
    rw [List.drop_length] at heq
    refine Br.mk (fun h1 => ?_) (fun h1 => ?_) <;> simp at h1
    · refine ⟨?_, xr⟩
      unfold mayR
      rw [← heq, decide_eq_true h1]
      rfl
    · refine ⟨?_, xr⟩
      unfold mayR
      rw [decide_eq_false (by omega)]; rfl
end Go.Proofs.YtfipllblcnahdaaDoor
