import Derived.Test.YtbphdgiepimmkaaDoorV
set_option linter.all false
namespace Go.Proofs.YtbphdgiepimmkaaDoor
open Go Go.Vc Go.RowKit Go.Proofs Go.Runs

theorem bGood_bd (n : Int) : 0 ≤ bGood n ∧ bGood n ≤ 15 ∧ bMay (bGood n) = true := by
  have := around_bd n 14 (by omega)
  unfold bGood
  have h : ∀ x : Int, 0 ≤ x → x < 14 → bMay (if x > 5 then x + 2 else x) = true := by
    intro x h0 h1
    unfold bMay
    split <;> simp <;> omega
  refine ⟨?_, ?_, h _ this.1 this.2⟩ <;> split <;> omega
/-- The cells of which the runs are, that a law makes of any. -/
def goodP (l : List Rn) : List Int := l.flatMap fun r => List.replicate (1 + around r.1 40).toNat (bGood r.2)
def goodC (l : List Rn) : List Int := if goodP (l.take 12) = [] then [0] else goodP (l.take 12)
theorem goodP_app (l m : List Rn) : goodP (l ++ m) = goodP l ++ goodP m := by unfold goodP; rw [List.flatMap_append]
theorem goodP_succ {l : List Rn} {k : Nat} {r : Rn} (hr : l[k]? = some r) : goodP (l.take (k + 1)) = goodP (l.take k) ++ List.replicate (1 + around r.1 40).toNat (bGood r.2) := by
  rw [List.take_add_one, hr, goodP_app]; simp [goodP]
theorem goodP_len (l : List Rn) : (goodP l).length ≤ 40 * l.length := by
  induction l with
  | nil => simp [goodP]
  | cons r l ih =>
    have := around_bd r.1 40 (by omega)
    unfold goodP at ih ⊢
    rw [List.flatMap_cons, List.length_append, List.length_replicate, List.length_cons]
    omega
theorem goodC_len (l : List Rn) : 1 ≤ (goodC l).length ∧ (goodC l).length ≤ 480 := by
  unfold goodC
  have := goodP_len (l.take 12)
  rw [List.length_take] at this
  split
  · simp
  · rename_i h
    have := List.length_pos_iff.2 h
    omega
theorem goodC_may (l : List Rn) : ∀ b ∈ goodC l, bMay b = true := by
  intro b hb
  unfold goodC at hb
  split at hb
  · simp at hb; subst hb; decide
  · unfold goodP at hb
    obtain ⟨r, _, hr⟩ := List.mem_flatMap.1 hb
    rw [List.mem_replicate] at hr
    rw [hr.2]; exact (bGood_bd r.2).2.2
theorem goodC_ne (l : List Rn) : goodC l ≠ [] := by
  have := (goodC_len l).1
  intro h; rw [h] at this; simp at this
theorem ref05_Good_spec (s : Sl) (l : List Rn) (w : World) (hs : RdR w s l) (hl : ∀ r ∈ l, inI r.1 ∧ inI r.2) :
    Calls Tryd.prog n_ref05_Good #[.slice s.a s.n s.c] w fun e w' => ∃ s' : Sl, e = .returned (.slice s'.a s'.n s'.c) ∧ OwR w.heap.size w' s' (ofC (goodC l)) ∧ Ext w w' := by
  have hsn := RdR.len hs
  apply ref05_Good.vc
  rintro w0 rfl
  have xa := Ext.al w (.cells #[] tInt)
  have hz : OwC w.heap.size (w.alloc (.cells #[] tInt)) ⟨some ⟨w.heap.size, 0, none⟩, 0, 0⟩ [] := ⟨.row w.heap.size 0 0 [] (Nat.le_refl _) (Row.new w [] tInt) rfl (Nat.le_refl _), by simp⟩
  refine ⟨fun n x o wr => ∃ k : Nat, x = k ∧ k + n = l.length ∧ k ≤ 12 ∧ Ext w wr ∧ OwC w.heap.size wr o (goodP (l.take k)), ⟨l.length, 0, rfl, by omega, by omega, xa, hz⟩, ?_⟩
  rintro n us x o wr ⟨k, rfl, hk, hk12, xr, ho⟩
  have hw := wrap_in (n := (k : Int) + 1) (by unfold inI; omega)
  have hon := RdC.len ho.rdc
  have hlen := goodP_len (l.take k)
  rw [List.length_take] at hlen
  have fin : goodP (l.take 12) = goodP (l.take k) → Br ((((o.n : Nat) : Int) : Int) == 0)
      (∀ w24 : World, w24 = wr.alloc (.cells #[.int .i64 0] tInt) →
      AppPre 8 1 w24 ⟨o.a, o.n, o.c⟩ 1 [.int .i64 0] ∧ ∀ (s25 : Sl) (w26 : World), AppRes tInt 1 w24 ⟨o.a, o.n, o.c⟩ 1 [.int .i64 0] s25 w26 → w26.heap[wr.heap.size]? = w24.heap[wr.heap.size]? ∧ 
      Calls Tryd.prog n_ref05_Of #[.slice s25.a s25.n s25.c] w26 (fun e w27 => ∃ (s28 : Sl), e = .returned (.slice s28.a s28.n s28.c) ∧ w27.heap[wr.heap.size]? = w26.heap[wr.heap.size]? ∧ 
      ∃ s' : Sl, Ending.returned (.slice s28.a s28.n s28.c) = .returned (.slice s'.a s'.n s'.c) ∧ OwR w.heap.size w27 s' (ofC (goodC l)) ∧ Ext w w27))
      (Calls Tryd.prog n_ref05_Of #[.slice o.a o.n o.c] wr (fun e w29 => ∃ (s30 : Sl), e = .returned (.slice s30.a s30.n s30.c) ∧ 
      ∃ s' : Sl, Ending.returned (.slice s30.a s30.n s30.c) = .returned (.slice s'.a s'.n s'.c) ∧ OwR w.heap.size w29 s' (ofC (goodC l)) ∧ Ext w w29)) := by
    intro hfin
    refine Br.mk (fun h => ?_) (fun h => ?_) <;> simp at h
    · have hnil : goodP (l.take k) = [] := List.eq_nil_of_length_eq_zero (by omega)
      rintro w24 rfl
      obtain ⟨hp, hres⟩ := OwnK.app1 ho (bytes := 8) (news := iv 0) (.cells #[.int .i64 0] tInt) xr.size rfl (one_i _ _) (by omega) (by omega)
      refine ⟨hp, fun s17 w18 hr' => ?_⟩
      obtain ⟨k1, ho', _, xb, _, _⟩ := hres s17 w18 hr'
      have ho2 : OwC w.heap.size w18 s17 [0] := by rw [hnil] at ho'; exact ho'
      refine ⟨k1, (ref05_Of_spec s17 [0] w18 ho2.rdc (by simp)).mono ?_⟩
      rintro _ w3 ⟨s', rfl, ho3, x3⟩
      have hlt : wr.heap.size < w18.heap.size := by
        have e : (wr.alloc (.cells #[.int .i64 0] tInt)).heap[wr.heap.size]? = some (.cells #[.int .i64 0] tInt (0, 0)) := Row.new wr [.int .i64 0] tInt
        rw [← k1] at e
        exact (Array.getElem?_eq_some_iff.1 e).1
      have xx : Ext w w18 := xr.trans xb
      refine ⟨s', rfl, x3.heap hlt, s', rfl, ?_, xx.tr x3⟩
      unfold goodC
      rw [hfin, hnil, if_pos rfl]
      exact OwnK.low ho3 xx.size
    · refine (ref05_Of_spec o _ wr ho.rdc (by unfold Bd; omega)).mono ?_
      rintro _ w3 ⟨s', rfl, ho3, x3⟩
      refine ⟨s', rfl, s', rfl, ?_, xr.tr x3⟩
      unfold goodC
      rw [hfin, if_neg (by intro hh; rw [hh] at hon; simp at hon; omega)]
      exact OwnK.low ho3 xr.size
  refine Br.mk (fun h => Br.mk (fun h2 => ?_) (fun h2 => ?_)) (fun h => ?_) <;> simp only [decide_eq_true_eq, decide_eq_false_iff_not] at *
  · obtain ⟨r, hr⟩ := get_lt (l := l) (i := k) (by omega)
    have hri := hl r (List.mem_of_getElem? hr)
    have hin := RdR.inB hs (i := k) (by omega)
    have hsm := RdR.some hs (i := k) (by omega)
    have hbd := around_bd r.1 40 (by omega)
    refine ⟨hin, AndL_nn.2 ⟨hsm, _, RdR.c0 (hs.ext xr) hr, (around_spec r.1 40 wr hri.1 (by omega) (by unfold inI; omega)).mono ?_⟩⟩
    rintro e w9 ⟨rfl, rfl⟩
    have hw1 := wrap_in (n := 1 + around r.1 40) (by unfold inI; omega)
    refine ⟨_, rfl, ?_⟩
    rw [hw1]
    refine ⟨fun n x o wr => ∃ j : Nat, x = j ∧ j + n = (1 + around r.1 40).toNat ∧ Ext w wr ∧ OwC w.heap.size wr o (goodP (l.take k) ++ List.replicate j (bGood r.2)), ⟨(1 + around r.1 40).toNat, 0, rfl, by omega, xr, by simpa using ho⟩, ?_⟩
    rintro n2 us2 x2 o2 w2 ⟨j, rfl, hj, x2, ho2⟩
    have hw2 := wrap_in (n := (j : Int) + 1) (by unfold inI; omega)
    have hon2 := RdC.len ho2.rdc
    rw [List.length_append, List.length_replicate] at hon2
    refine Br.mk (fun h3 => ?_) (fun h3 => ?_) <;> simp only [decide_eq_true_eq, decide_eq_false_iff_not] at h3
    · refine ⟨hin, AndL_nn.2 ⟨hsm, _, RdR.c1 (hs.ext x2) hr, (ref04_Good_spec r.2 w2 hri.2).mono ?_⟩⟩
      rintro e w19 ⟨rfl, rfl⟩
      refine ⟨_, rfl, ?_⟩
      rintro w21 rfl
      obtain ⟨hp, hres⟩ := OwnK.app1 ho2 (bytes := 8) (news := iv (bGood r.2)) (.cells #[.int .i64 (bGood r.2)] tInt) x2.size rfl (one_i _ _) (by omega) (by omega)
      refine ⟨hp, fun s17 w18 hr' => ?_⟩
      obtain ⟨k1, ho', _, xb, _, _⟩ := hres s17 w18 hr'
      refine ⟨k1, n2 - 1, by omega, j + 1, by omega, by omega, x2.trans xb, ?_⟩
      show OwnK _ _ 1 _ _ ((goodP (l.take k) ++ List.replicate (j + 1) (bGood r.2)).map iv)
      rw [List.replicate_succ', ← List.append_assoc, List.map_append]; exact ho'
    · have : j = (1 + around r.1 40).toNat := by omega
      subst this
      exact ⟨n - 1, by omega, k + 1, by omega, by omega, by omega, x2, by rw [goodP_succ hr]; exact ho2⟩
  · have : k = 12 := by omega
    subst this
    exact fin rfl
  · have : k = l.length := by omega
    subst this
    exact fin (by rw [List.take_of_length_le hk12, List.take_length])
theorem ref05_May_spec (s : Sl) (l : List Rn) (m : Int) (w : World) (hs : RdR w s l) (hn : Bd l.length) (hm : inI m) :
    Calls Tryd.prog n_ref05_May #[.slice s.a s.n s.c, .int .i64 m] w fun e w' => e = .returned (.bool (mayR bMay l m)) ∧ Ext w w' := by
  have hsn := RdR.len hs
  unfold Bd at hn
  unfold inI at hm
  apply ref05_May.vc
  refine ⟨fun n x y wr => ∃ k : Nat, x = k ∧ k + n = l.length ∧ Ext w wr ∧ y ≤ max m 0 ∧ (min m 0 ≤ y) ∧ mayL bMay ((l.take k).getLast?.map (·.2)) y (l.drop k) = mayL bMay none m l, ⟨l.length, 0, rfl, by omega, Ext.rfl' w, by omega, by omega, rfl⟩, ?_⟩
  rintro n us x y wr ⟨k, rfl, hk, xr, hy, hy0, heq⟩
  have hw := wrap_in (n := (k : Int) + 1) (by unfold inI; omega)
  refine Br.mk (fun h => ?_) (fun h => ?_) <;> simp at h
  · obtain ⟨r, hr⟩ := get_lt (l := l) (i := k) (by omega)
    have hd : l.drop k = r :: l.drop (k + 1) := by
      rw [List.drop_eq_getElem_cons (by omega)]
      rw [List.getElem?_eq_getElem (by omega)] at hr
      cases hr; rfl
    rw [hd, mayL_cons] at heq
    have hin := RdR.inB hs (i := k) (by omega)
    have hsm := RdR.some hs (i := k) (by omega)
    have xd := xr.drew
    have fin : ∀ w', Ext w w' → (r.1 < 1 ∨ r.1 > y ∨ bMay r.2 = false ∨ (l.take k).getLast?.map (·.2) = some r.2) → Ending.returned (.bool false) = .returned (.bool (mayR bMay l m)) ∧ Ext w w' := by
      intro w' x' hh
      rw [if_pos hh] at heq
      refine ⟨?_, x'⟩
      unfold mayR
      rw [← heq]; simp
    refine ⟨hin, AndL_nn.2 ⟨hsm, _, RdR.c1 (hs.ext xr) hr, (ref04_May_spec r.2 wr).mono ?_⟩⟩
    rintro e w3 ⟨rfl, rfl⟩
    refine ⟨_, rfl, Br.mk (fun h0 => ?_) (fun h0 => ?_)⟩
    · exact fin _ xr (.inr (.inr (.inl (by simpa using h0))))
    have hbm : bMay r.2 = true := by simpa using h0
    refine ⟨hin, AndL_nn.2 ⟨hsm, _, RdR.c0 (hs.ext xr) hr, Br.mk (fun h1 => ?_) (fun h1 => ⟨hin, AndL_nn.2 ⟨hsm, _, RdR.c0 (hs.ext xr) hr, Br.mk (fun h2 => ?_) (fun h2 => ?_)⟩⟩)⟩⟩ <;> simp only [decide_eq_true_eq, decide_eq_false_iff_not] at *
    · exact fin _ xr (.inl h1)
    · exact fin _ xr (.inr (.inl h2))
    · have nx : ((l.take k).getLast?.map (·.2) ≠ some r.2) → ∃ n6, n6 < n ∧ ∃ k_1 : Nat, IntKind.wrap .i64 ((k : Int) + 1) = k_1 ∧ k_1 + n6 = l.length ∧ Ext w w3.drew ∧ IntKind.wrap .i64 (y - r.1) ≤ max m 0 ∧ min m 0 ≤ IntKind.wrap .i64 (y - r.1) ∧ mayL bMay ((l.take k_1).getLast?.map (·.2)) (IntKind.wrap .i64 (y - r.1)) (l.drop k_1) = mayL bMay none m l := by
        intro hne
        have hwy := wrap_in (n := y - r.1) (by unfold inI; omega)
        refine ⟨n - 1, by omega, k + 1, by omega, by omega, xd, by omega, by omega, ?_⟩
        rw [hwy]
        rw [if_neg (by
          rintro (h | h | h | h)
          · omega
          · omega
          · rw [hbm] at h; cases h
          · exact hne h)] at heq
        rw [← heq, List.take_add_one, hr]
        simp
      refine Br.mk (fun h4 => ?_) (fun h4 => ?_) <;> simp only [decide_eq_true_eq, decide_eq_false_iff_not] at h4
      · have hwk := wrap_in (n := (k : Int) - 1) (by unfold inI; omega)
        rw [hwk]
        obtain ⟨q, hq⟩ := get_lt (l := l) (i := k - 1) (by omega)
        have hin2 := RdR.inB hs (i := k - 1) (by omega)
        rw [show ((k - 1 : Nat) : Int) = (k : Int) - 1 from by omega] at hin2
        have hcq := RdR.c1 (hs.ext xd) hq
        have hsm2 := RdR.some hs (i := k - 1) (by omega)
        rw [show ((k : Int) - 1).toNat = k - 1 from by omega]
        have hlast : (l.take k).getLast? = some q := by
          rw [List.getLast?_eq_getElem?, List.getElem?_take, List.length_take, Nat.min_eq_left (by omega), if_pos (by omega), hq]
        refine ⟨hin, AndL_nn.2 ⟨hsm, _, RdR.c1 (hs.ext xd) hr, hin2, AndL_nn.2 ⟨hsm2, _, hcq, Br.mk (fun h5 => ?_) (fun h5 => ⟨hin, AndL_nn.2 ⟨hsm, _, RdR.c0 (hs.ext xd) hr, ?_⟩⟩)⟩⟩⟩
        · refine fin _ xd (.inr (.inr (.inr ?_)))
          rw [hlast]; simp at h5; simp [h5]
        · refine nx ?_
          rw [hlast]; simp at h5
          intro e; exact h5 (Option.some.inj e).symm
      · refine ⟨hin, AndL_nn.2 ⟨hsm, _, RdR.c0 (hs.ext xd) hr, nx ?_⟩⟩
        have : k = 0 := by omega
        subst this; simp
  · obtain rfl : k = l.length := by omega
    rw [List.drop_length] at heq
    refine Br.mk (fun h1 => ?_) (fun h1 => ?_) <;> simp at h1
    · refine ⟨?_, xr⟩
      unfold mayR
      rw [← heq, h1]
      simp [mayL]
    · refine ⟨?_, xr⟩
      unfold mayR
      rw [← heq]
      simp [mayL, h1]
theorem law05_lives_spec (w : World) : Calls Tryd.prog n_law05_lives #[] w fun e w' => e = .returned (.bool true) ∧ Ext w w' := by
  apply law05_lives.vc
  refine (runs_Make_spec 5 0 w (by omega)).mono ?_
  rintro e w1 ⟨s1, rfl, o1, x1⟩
  refine ⟨s1, rfl, (runs_Set_spec s1 _ 2 3 w1 o1.rdr (by decide) (by unfold inI; omega)).mono ?_⟩
  rintro e w2 ⟨s2, rfl, o2, x2⟩
  refine ⟨s2, rfl, ?_⟩
  rintro w4 rfl
  have x4 := Ext.al w2 (.cells #[.int .i64 2, .int .i64 0, .int .i64 1, .int .i64 3, .int .i64 2, .int .i64 0] tRun)
  have hrow := Row.new w2 [.int .i64 2, .int .i64 0, .int .i64 1, .int .i64 3, .int .i64 2, .int .i64 0] tRun
  have hrd : RdR (w2.alloc (.cells #[.int .i64 2, .int .i64 0, .int .i64 1, .int .i64 3, .int .i64 2, .int .i64 0] tRun)) ⟨some ⟨w2.heap.size, 0, none⟩, 3, 3⟩ [(2, 0), (1, 3), (2, 0)] := by
    refine ⟨rfl, by simp [rv], fun i r hi j v hj => ?_⟩
    show ld _ (padd (some ⟨w2.heap.size, 0, none⟩) _) = _
    rw [padd_row, hrow.ld]
    rcases i with _ | _ | _ | i <;> simp at hi
    all_goals subst hi
    all_goals rcases j with _ | _ | j <;> simp at hj
    all_goals subst hj; rfl
  have e3 : ofC (setC (List.replicate (Int.toNat 5) 0) 2 3) = [(2, 0), (1, 3), (2, 0)] := by decide +kernel
  refine (ref05_Same_spec s2 _ _ _ _ (OwR.rdr (OwnK.ext o2 x4)) hrd (by rw [e3]; simp)).mono ?_
  rintro e w5 ⟨rfl, x5⟩
  rw [decide_eq_true e3]
  exact ⟨_, rfl, rfl, ((x1.tr x2).tr x4).tr x5⟩
end Go.Proofs.YtbphdgiepimmkaaDoor
