import Derived.Test.YtbphdgiepimmkaaDoorQBB
set_option linter.all false
namespace Go.Proofs.YtbphdgiepimmkaaDoor
open Go Go.Vc Go.RowKit Go.Proofs Go.Runs Go.Code

theorem ref06_Read_spec (s : Sl) (b : List Int) (n : Int) (w : World) (hs : RdY w s b) (hb : InY b) (hl : b.length ≤ 1099511627776) (hsc : s.n ≤ s.c) (hn : 1 ≤ n) (hn' : inI n) :
    Calls Tryd.prog n_ref06_Read #[.slice s.a s.n s.c, .int .i64 n] w fun e w' => RdRes w.heap.size (readB bMay b n) e w' ∧ Ext w w' := by
  have hsn := RdY.len hs
  unfold inI at hn'
  apply ref06_Read.vc
  refine ⟨fun m left i o wr => ∃ (k : Nat) (last : Int) (acc : List Rn), i = k ∧ k ≤ b.length ∧ m + k = b.length ∧ acc.length ≤ k ∧ 0 ≤ left ∧ left ≤ n ∧ Ext w wr ∧ OwR w.heap.size wr o acc ∧
      (acc = [] → last = -1) ∧ (∀ q, acc.getLast? = some q → q.2 = last) ∧
      (if left > 0 then readG bMay (b.length - k + 1) (b.drop k) left last acc else if b.drop k = [] then (acc, 0) else ([], 2)) = readB bMay b n, ⟨b.length, 0, -1, [], rfl, by omega, by omega, by simp, by omega, by omega, Ext.rfl' w, OwnK.nil, fun _ => rfl, by simp, by rw [if_pos (by omega)]; rfl⟩, ?_⟩
  rintro m us left i o wr ⟨k, last, acc, rfl, hkb, hmk, hak, hl0, hl1, xr, ho, hlast0, hlast, heq⟩
  have bad : ∀ {q : Int} {w' : World}, Ext w w' → readB bMay b n = ([], q) → RdRes w.heap.size (readB bMay b n) (.returned (.tuple #[.slice none 0 0, .int .i64 q])) w' ∧ Ext w w' := fun x' e => ⟨resNil e, x'⟩
  refine Br.mk (fun h => Br.mk (fun h2 => ?_) (fun h2 => ?_)) (fun h => Br.mk (fun h2 => ?_) (fun h2 => ?_)) <;> simp only [decide_eq_true_eq, decide_eq_false_iff_not] at h h2
  · have hd : b.drop k = [] := List.drop_eq_nil_of_le (by omega)
    rw [if_pos h, hd, show b.length - k + 1 = (b.length - k) + 1 from rfl] at heq
    refine bad xr ?_
    rw [← heq]
    show (if left > 0 then ([], 3) else (acc, 0)) = _
    rw [if_pos h]
  · obtain ⟨c, hck⟩ := get_lt (l := b) (i := k) (by omega)
    have hci := hb c (List.mem_of_getElem? hck)
    have hd := drop_cons hck
    have hwc := wrap_in (n := c) (by unfold inI; omega)
    have hwk := wrap_in (n := (k : Int) + 1) (by unfold inI; omega)
    rw [if_pos h, hd, readG_cons] at heq
    have hin := RdY.inB hs (i := k) (by omega)
    refine ⟨hin, c, RdY.c0 (hs.ext xr) hck, ?_⟩
    rw [hwc, hwk]
    refine (ref04_May_spec c wr).mono ?_
    rintro e w9 ⟨rfl, rfl⟩
    refine ⟨_, rfl, Br.mk (fun h1 => ?_) (fun h1 => ?_)⟩
    · refine bad xr ?_
      rw [← heq, if_pos (.inl (by simpa using h1))]
    have hm : bMay c = true := by simpa using h1
    have htI : InY (b.drop (k + 1)) := fun q hq => hb q (List.mem_of_mem_drop hq)
    have hrest := RdK.rest (hs.ext xr) (l := k + 1) (m := s.c) (n' := s.n - (k + 1)) (c' := s.c - (k + 1)) (by rw [List.length_map]; omega) (fun e => by rw [List.length_map]; omega)
    rw [← List.map_drop] at hrest
    have hdl : (b.drop (k + 1)).length = b.length - (k + 1) := List.length_drop
    rw [show ((k : Int) + 1).toNat = k + 1 from by omega]
    have hdig := digG_ok 3 0 0 (b.drop (k + 1)) (by omega)
    rw [show digG 3 0 0 (b.drop (k + 1)) = digB (b.drop (k + 1)) from rfl] at hdig
    have hon := RdR.len ho.rdr
    have hne : Br (decide ((((o.n : Nat) : Int) : Int) > 0)) (c = last ∨ c ≠ last) (c ≠ last) := by
      refine Br.mk (fun _ => Decidable.em _) (fun h3 => ?_)
      simp only [decide_eq_false_iff_not] at h3
      have := hlast0 (List.eq_nil_of_length_eq_zero (by omega))
      omega
    refine Br.mk (fun h3 => ?_) (fun h3 => ?_)
    · simp only [decide_eq_true_eq] at h3
      have hwo := wrap_in (n := ((o.n : Nat) : Int) - 1) (by unfold inI; omega)
      rw [hwo]
      rw [show (if 0 > ((o.n : Nat) : Int) - 1 then 0 else ((o.n : Nat) : Int) - 1) = ((o.n - 1 : Nat) : Int) from by split <;> omega]
      obtain ⟨q, hq⟩ := get_lt (l := acc) (i := o.n - 1) (by omega)
      have hql := hlast q (by rw [List.getLast?_eq_getElem?, ← hon]; exact hq)
      refine ⟨RdR.inB ho.rdr (by omega), AndL_nn.2 ⟨RdR.some ho.rdr (i := o.n - 1) (by omega), _, RdR.c1 ho.rdr hq, Br.mk (fun h4 => ?_) (fun h4 => ?_)⟩⟩ <;> simp only [beq_iff_eq, beq_eq_false_iff_ne] at h4
      · refine bad xr ?_
        rw [← heq, if_pos (.inr (by omega))]
      · have hcl : c ≠ last := by omega
        clear hne
        rw [if_neg (by rw [hm]; simp [hcl])] at heq
        refine ⟨by omega, by omega, ?_⟩
        refine (ref06_Digits_spec ⟨slBase s.a (k + 1) s.c 1, s.n - (k + 1), s.c - (k + 1)⟩ (b.drop (k + 1)) _ hrest htI).mono ?_
        rintro e w12 ⟨rfl, rfl⟩
        generalize digB (b.drop (k + 1)) = d at *
        obtain ⟨sz, kk, er⟩ := d
        simp only at heq hdig
        refine ⟨_, _, _, rfl, Br.mk (fun h5 => ?_) (fun h5 => ?_)⟩
        · refine bad xr ?_
          rw [← heq, if_pos (by simpa using h5)]
        have her : er = 0 := by simpa using h5
        subst her
        have hd2 := hdig rfl
        rw [if_neg (by simp)] at heq
        refine Br.mk (fun h6 => ?_) (fun h6 => Br.mk (fun h7 => ?_) (fun h7 => ?_)) <;> simp only [beq_iff_eq, beq_eq_false_iff_ne] at h6
        · refine bad xr ?_
          rw [← heq, if_pos (.inl h6)]
        · simp only [decide_eq_true_eq] at h7
          refine bad xr ?_
          rw [← heq, if_pos (.inr h7)]
        simp only [decide_eq_false_iff_not] at h7
        rw [if_neg (by omega)] at heq
        rintro w16 rfl
        obtain ⟨hp, hres⟩ := OwnK.app1 ho (bytes := 16) (news := rv (sz, c)) (.cells #[.int .i64 sz, .int .i64 c] tRun) xr.size rfl (one_ii _ _ _ _) (by omega) (by omega)
        refine ⟨hp, fun s17 w18 hr' => ?_⟩
        obtain ⟨k1, ho', _, xb, _, _⟩ := hres s17 w18 hr'
        have ho21 : OwR w.heap.size w18 s17 (acc ++ [(sz, c)]) := by
          show OwnK _ _ 2 _ _ ((acc ++ [(sz, c)]).map rv)
          rw [List.map_append]; exact ho'
        have w1 := wrap_in (n := left - sz) (by unfold inI; omega)
        have w2 := wrap_in (n := (k : Int) + 1 + kk) (by unfold inI; omega)
        rw [w1, w2]
        refine ⟨k1, m - 1 - kk.toNat, by omega, k + 1 + kk.toNat, c, acc ++ [(sz, c)], by omega, by omega, by omega, by simp; omega, by omega, by omega, xr.trans xb, ho21, by simp, by intro q hq; simp at hq; subst hq; rfl, ?_⟩
        rw [← heq, ← List.drop_drop]
        by_cases hz : left - sz = 0
        · rw [if_neg (by omega), if_pos hz]
        · rw [if_pos (by omega), if_neg hz]
          exact readG_fuel _ _ _ (by rw [List.length_drop]; omega) (by rw [List.length_drop]; omega)
    · have hcl : c ≠ last := Br.ff hne h3
      clear hne
      rw [if_neg (by rw [hm]; simp [hcl])] at heq
      refine ⟨by omega, by omega, ?_⟩
      refine (ref06_Digits_spec ⟨slBase s.a (k + 1) s.c 1, s.n - (k + 1), s.c - (k + 1)⟩ (b.drop (k + 1)) _ hrest htI).mono ?_
      rintro e w12 ⟨rfl, rfl⟩
      generalize digB (b.drop (k + 1)) = d at *
      obtain ⟨sz, kk, er⟩ := d
      simp only at heq hdig
      refine ⟨_, _, _, rfl, Br.mk (fun h5 => ?_) (fun h5 => ?_)⟩
      · refine bad xr ?_
        rw [← heq, if_pos (by simpa using h5)]
      have her : er = 0 := by simpa using h5
      subst her
      have hd2 := hdig rfl
      rw [if_neg (by simp)] at heq
      refine Br.mk (fun h6 => ?_) (fun h6 => Br.mk (fun h7 => ?_) (fun h7 => ?_)) <;> simp only [beq_iff_eq, beq_eq_false_iff_ne] at h6
      · refine bad xr ?_
        rw [← heq, if_pos (.inl h6)]
      · simp only [decide_eq_true_eq] at h7
        refine bad xr ?_
        rw [← heq, if_pos (.inr h7)]
      simp only [decide_eq_false_iff_not] at h7
      rw [if_neg (by omega)] at heq
      rintro w16 rfl
      obtain ⟨hp, hres⟩ := OwnK.app1 ho (bytes := 16) (news := rv (sz, c)) (.cells #[.int .i64 sz, .int .i64 c] tRun) xr.size rfl (one_ii _ _ _ _) (by omega) (by omega)
      refine ⟨hp, fun s17 w18 hr' => ?_⟩
      obtain ⟨k1, ho', _, xb, _, _⟩ := hres s17 w18 hr'
      have ho21 : OwR w.heap.size w18 s17 (acc ++ [(sz, c)]) := by
        show OwnK _ _ 2 _ _ ((acc ++ [(sz, c)]).map rv)
        rw [List.map_append]; exact ho'
      have w1 := wrap_in (n := left - sz) (by unfold inI; omega)
      have w2 := wrap_in (n := (k : Int) + 1 + kk) (by unfold inI; omega)
      rw [w1, w2]
      refine ⟨k1, m - 1 - kk.toNat, by omega, k + 1 + kk.toNat, c, acc ++ [(sz, c)], by omega, by omega, by omega, by simp; omega, by omega, by omega, xr.trans xb, ho21, by simp, by intro q hq; simp at hq; subst hq; rfl, ?_⟩
      rw [← heq, ← List.drop_drop]
      by_cases hz : left - sz = 0
      · rw [if_neg (by omega), if_pos hz]
      · rw [if_pos (by omega), if_neg hz]
        exact readG_fuel _ _ _ (by rw [List.length_drop]; omega) (by rw [List.length_drop]; omega)
  · rw [if_neg h, if_neg (by intro e; have := congrArg List.length e; simp at this; omega)] at heq
    exact bad xr heq.symm
  · rw [if_neg h, if_pos (List.drop_eq_nil_of_le (by omega))] at heq
    exact ⟨⟨o, by rw [← heq], by rw [← heq]; exact ho⟩, xr⟩
end Go.Proofs.YtbphdgiepimmkaaDoor
