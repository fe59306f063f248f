import Derived.Test.YtfipllblcnahdaaDoorV
set_option linter.all false
namespace Go.Proofs.YtfipllblcnahdaaDoor
open Go Go.Vc Go.RowKit Go.Proofs Go.Runs

theorem bGood_bd (n : Int) : 0 ≤ bGood n ∧ bGood n ≤ 15 ∧ bMay (bGood n) = true := by
  have := around_bd n 14 (by omega)
  unfold bGood
  have h : ∀ x : Int, 0 ≤ x → x < 14 → bMay (if x > 5 then x + 2 else x) = true := by
    intro x h0 h1
    unfold bMay
    split <;> simp <;> omega
  refine ⟨?_, ?_, h _ this.1 this.2⟩ <;> split <;> omega
/-- The cells of which the runs are, that a law makes of any. -/
def goodP (l : List Rn) : List Int := l.flatMap fun r => List.replicate (1 + around r.1 40).toNat (bGood r.2)
def goodC (l : List Rn) : List Int := if goodP (l.take 12) = [] then [0] else goodP (l.take 12)
theorem goodP_app (l m : List Rn) : goodP (l ++ m) = goodP l ++ goodP m := by unfold goodP; rw [List.flatMap_append]
theorem goodP_succ {l : List Rn} {k : Nat} {r : Rn} (hr : l[k]? = some r) : goodP (l.take (k + 1)) = goodP (l.take k) ++ List.replicate (1 + around r.1 40).toNat (bGood r.2) := by
  rw [List.take_add_one, hr, goodP_app]; simp [goodP]
theorem goodP_len (l : List Rn) : (goodP l).length ≤ 40 * l.length := by
  induction l with
  | nil => simp [goodP]
  | cons r l ih =>
    have := around_bd r.1 40 (by omega)
    unfold goodP at ih ⊢
    rw [List.flatMap_cons, List.length_append, List.length_replicate, List.length_cons]
    omega
theorem goodC_len (l : List Rn) : 1 ≤ (goodC l).length ∧ (goodC l).length ≤ 480 := by
  unfold goodC
  have := goodP_len (l.take 12)
  rw [List.length_take] at this
  split
  · simp
  · rename_i h
    have := List.length_pos_iff.2 h
    omega
theorem goodC_may (l : List Rn) : ∀ b ∈ goodC l, bMay b = true := by
  intro b hb
  unfold goodC at hb
  split at hb
  · simp at hb; subst hb; decide
  · unfold goodP at hb
    obtain ⟨r, _, hr⟩ := List.mem_flatMap.1 hb
    rw [List.mem_replicate] at hr
    rw [hr.2]; exact (bGood_bd r.2).2.2
theorem goodC_ne (l : List Rn) : goodC l ≠ [] := by
  have := (goodC_len l).1
  intro h; rw [h] at this; simp at this
theorem ref05_May_spec (s : Sl) (l : List Rn) (m : Int) (w : World) (hs : RdR w s l) (hn : Bd l.length) (hm : inI m) :
    Calls Tryd.prog n_ref05_May #[.slice s.a s.n s.c, .int .i64 m] w fun e w' => e = .returned (.bool (mayR bMay l m)) ∧ Ext w w' := by
  have hsn := RdR.len hs
  unfold Bd at hn
  unfold inI at hm
  apply ref05_May.vc
  refine ⟨fun n x y wr => ∃ k : Nat, x = k ∧ k + n = l.length ∧ Ext w wr ∧ y ≤ max m 0 ∧ (min m 0 ≤ y) ∧ mayL bMay ((l.take k).getLast?.map (·.2)) y (l.drop k) = mayL bMay none m l, ⟨l.length, 0, rfl, by omega, Ext.rfl' w, by omega, by omega, rfl⟩, ?_⟩
  rintro n us x y wr ⟨k, rfl, hk, xr, hy, hy0, heq⟩
  have hw := wrap_in (n := (k : Int) + 1) (by unfold inI; omega)
  refine Br.mk (fun h => ?_) (fun h => ?_) <;> simp at h
  · obtain ⟨r, hr⟩ := get_lt (l := l) (i := k) (by omega)
    have hd : l.drop k = r :: l.drop (k + 1) := by
      rw [List.drop_eq_getElem_cons (by omega)]
      rw [List.getElem?_eq_getElem (by omega)] at hr
      cases hr; rfl
    rw [hd, mayL_cons] at heq
    have hin := RdR.inB hs (i := k) (by omega)
    have hsm := RdR.some hs (i := k) (by omega)
    have xd := xr.drew
    have fin : ∀ w', Ext w w' → (r.1 < 1 ∨ r.1 > y ∨ bMay r.2 = false ∨ (l.take k).getLast?.map (·.2) = some r.2) → Ending.returned (.bool false) = .returned (.bool (mayR bMay l m)) ∧ Ext w w' := by
      intro w' x' hh
      rw [if_pos hh] at heq
      refine ⟨?_, x'⟩
      unfold mayR
      rw [← heq]; simp
    refine ⟨hin, AndL_nn.2 ⟨hsm, _, RdR.c1 (hs.ext xr) hr, (ref04_May_spec r.2 wr).mono ?_⟩⟩
    rintro e w3 ⟨rfl, rfl⟩
    refine ⟨_, rfl, Br.mk (fun h0 => ?_) (fun h0 => ?_)⟩
    · exact fin _ xr (.inr (.inr (.inl (by simpa using h0))))
    have hbm : bMay r.2 = true := by simpa using h0
    refine ⟨hin, AndL_nn.2 ⟨hsm, _, RdR.c0 (hs.ext xr) hr, Br.mk (fun h1 => ?_) (fun h1 => ⟨hin, AndL_nn.2 ⟨hsm, _, RdR.c0 (hs.ext xr) hr, Br.mk (fun h2 => ?_) (fun h2 => ?_)⟩⟩)⟩⟩ <;> simp only [decide_eq_true_eq, decide_eq_false_iff_not] at *
    · exact fin _ xr (.inl h1)
    · exact fin _ xr (.inr (.inl h2))
    · have nx : ((l.take k).getLast?.map (·.2) ≠ some r.2) → ∃ n6, n6 < n ∧ ∃ k_1 : Nat, IntKind.wrap .i64 ((k : Int) + 1) = k_1 ∧ k_1 + n6 = l.length ∧ Ext w w3.drew ∧ IntKind.wrap .i64 (y - r.1) ≤ max m 0 ∧ min m 0 ≤ IntKind.wrap .i64 (y - r.1) ∧ mayL bMay ((l.take k_1).getLast?.map (·.2)) (IntKind.wrap .i64 (y - r.1)) (l.drop k_1) = mayL bMay none m l := by
        intro hne
        have hwy := wrap_in (n := y - r.1) (by unfold inI; omega)
        refine ⟨n - 1, by omega, k + 1, by omega, by omega, xd, by omega, by omega, ?_⟩
        rw [hwy]
        rw [if_neg (by
          rintro (h | h | h | h)
          · omega
          · omega
          · rw [hbm] at h; cases h
          · exact hne h)] at heq
        rw [← heq, List.take_add_one, hr]
        simp
      refine Br.mk (fun h4 => ?_) (fun h4 => ?_) <;> simp only [decide_eq_true_eq, decide_eq_false_iff_not] at h4
      · have hwk := wrap_in (n := (k : Int) - 1) (by unfold inI; omega)
        rw [hwk]
        obtain ⟨q, hq⟩ := get_lt (l := l) (i := k - 1) (by omega)
        have hin2 := RdR.inB hs (i := k - 1) (by omega)
        rw [show ((k - 1 : Nat) : Int) = (k : Int) - 1 from by omega] at hin2
        have hcq := RdR.c1 (hs.ext xd) hq
        have hsm2 := RdR.some hs (i := k - 1) (by omega)
        rw [show ((k : Int) - 1).toNat = k - 1 from by omega]
        have hlast : (l.take k).getLast? = some q := by
          rw [List.getLast?_eq_getElem?, List.getElem?_take, List.length_take, Nat.min_eq_left (by omega), if_pos (by omega), hq]
        refine ⟨hin, AndL_nn.2 ⟨hsm, _, RdR.c1 (hs.ext xd) hr, hin2, AndL_nn.2 ⟨hsm2, _, hcq, Br.mk (fun h5 => ?_) (fun h5 => ⟨hin, AndL_nn.2 ⟨hsm, _, RdR.c0 (hs.ext xd) hr, ?_⟩⟩)⟩⟩⟩
        · refine fin _ xd (.inr (.inr (.inr ?_)))
          rw [hlast]; simp at h5; simp [h5]
        · refine nx ?_
          rw [hlast]; simp at h5
          intro e; exact h5 (Option.some.inj e).symm
      · refine ⟨hin, AndL_nn.2 ⟨hsm, _, RdR.c0 (hs.ext xd) hr, nx ?_⟩⟩
        have : k = 0 := by omega
        subst this; simp
  · obtain rfl : k = l.length := by omega
    rw [List.drop_length] at heq
    refine Br.mk (fun h1 => ?_) (fun h1 => ?_) <;> simp at h1
    · refine ⟨?_, xr⟩
      unfold mayR
      rw [← heq, h1]
      simp [mayL]
    · refine ⟨?_, xr⟩
      unfold mayR
      rw [← heq]
      simp [mayL, h1]
end Go.Proofs.YtfipllblcnahdaaDoor
