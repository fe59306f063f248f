import Derived.Test.YtfipllblcnahdaaDoorKW
import Derived.Test.YtfipllblcnahdaaDoorLA
import Derived.Test.YtfipllblcnahdaaDoorLF
set_option linter.all false
namespace Go.Proofs.YtfipllblcnahdaaDoor
open Go Go.Vc Go.RowKit Go.Proofs Go.Chk Go.Runs

theorem yes {b : Bool} {A B : Prop} (hb : b = true) (h : A) : Br b A B := by subst hb; exact h
theorem nope {b : Bool} {A B : Prop} (hb : b = false) (h : B) : Br b A B := by subst hb; exact h
theorem may_nonneg {b : Int} (h : bMay b = true) : 0 ≤ b := by
  unfold bMay at h
  simp only [Bool.and_eq_true, decide_eq_true_eq] at h
  omega
theorem good_mayb (n : Int) : bMay (bGood n) = true := by
  have h := around_bd n 14 (by decide)
  have key : ∀ k : Int, 0 ≤ k → k < 14 → bMay (if k > 5 then k + 2 else k) = true := fun k h1 h2 => by
    unfold bMay
    simp only [Bool.and_eq_true, decide_eq_true_eq, bne_iff_ne, ne_eq]
    split <;> omega
  exact key _ h.1 h.2
theorem rk_in {p : Po} {C : List Int} (hl : C.length = 8192) (hm : ∀ b ∈ C, bMay b = true) {c : Ce} (h : inK p c = true) : 0 ≤ rkAt p C c ∧ rkAt p C c = kAt p C c := by
  have hidx := idx_in ((inK_iff p c).1 h).1
  unfold rkAt kAt
  rw [if_pos h, if_pos h]
  refine ⟨?_, rfl⟩
  obtain ⟨b, hb⟩ := get_lt (l := C) (i := (idx c).toNat) (by omega)
  have : atC C (idx c) = b := by
    unfold atC
    rw [if_neg (by omega), List.getD_eq_getElem?_getD, hb]; rfl
  rw [this]
  exact may_nonneg (hm b (List.mem_of_getElem? hb))
theorem rk_out {p : Po} {C : List Int} {c : Ce} (h : inK p c = false) : rkAt p C c = -1 ∧ kAt p C c = 0 := by
  unfold rkAt kAt
  rw [h]; exact ⟨rfl, rfl⟩
theorem kAt_set {p : Po} {C : List Int} (hl : C.length = 8192) {c d : Ce} (h : inK p c = true) (hd : inK p d = true) (b : Int) : kAt p (C.set (idx c).toNat b) d = if idx d = idx c then b else kAt p C d := by
  have hc := idx_in ((inK_iff p c).1 h).1
  have hdx := idx_in ((inK_iff p d).1 hd).1
  unfold kAt
  rw [if_pos hd, if_pos hd]
  unfold atC
  have h0 : ¬ idx d < 0 := by omega
  rw [if_neg h0, List.getD_eq_getElem?_getD, List.getElem?_set]
  by_cases e : idx d = idx c
  · rw [if_pos e, if_pos (by rw [e]), if_pos (by omega)]; rfl
  · rw [if_neg e, if_neg (by omega), if_neg h0, List.getD_eq_getElem?_getD]
theorem kSet_in {p : Po} {C : List Int} {c : Ce} {b : Int} (h : inK p c = true) (hb : bMay b = true) : kSet p C c b = (C.set (idx c).toNat b, 0) := by
  unfold kSet
  rw [if_neg (by rw [h]; decide), if_neg (by rw [hb]; decide)]
theorem kSet_out {p : Po} {C : List Int} {c : Ce} {b : Int} (h : inK p c = false) : kSet p C c b = (C, 5) := by
  unfold kSet; rw [if_pos h]
theorem ChunkAt_law (seed : Int) (p : Po) (c : Ce) (b : Int) (hp : inI p.1 ∧ inI p.2) (hb : inI b) (w : World) : Calls Tryd.prog n_law11_ChunkAt #[.int .i64 seed, pv p, cev c, .int .i64 b] w fun e w' => e = .returned (.bool true) ∧ Ext w w' := by
  apply law11_ChunkAt.vc
  intro w0 e0 w1 e1
  have z0 : w0.heap.size = w.heap.size + 1 := by rw [e0]; simp
  have z1 : w1.heap.size = w.heap.size + 2 := by rw [e1]; simp [z0]
  have x1 : Ext w w1 := ((Ext.rfl' w).of_alloc e0).of_alloc e1
  clear e0 e1
  refine (place_spec p hp w1).mono ?_
  rintro e w2 ⟨rfl, x2⟩
  have z2 := x2.size
  refine ⟨_, _, rfl, x2.heap (by omega), x2.heap (by omega), ?_⟩
  have hP := place_ok p
  generalize placeK p = P at *
  intro w5 e5
  have x5 : Ext w w5 := (x1.tr x2).of_setRow e5 (Nat.le_refl _)
  have z5 : w5.heap.size = w2.heap.size := by rw [e5, setRow_size]
  clear e5
  refine (Make_spec seed P hP w5).mono ?_
  rintro e w6 ⟨g, s, rfl, h6, x6, hg⟩
  have z6 := x6.size
  refine ⟨_, rfl, x6.heap (by omega), x6.heap (by omega), Br.mk (fun h => by cases h) (fun _ => ?_)⟩
  refine (rMake_spec seed P hP w6).mono ?_
  rintro e w8 ⟨s11, rfl, o8, x8⟩
  have z8 := x8.size
  refine ⟨_, _, s11, rfl, x8.heap (by omega), x8.heap (by omega), ?_⟩
  intro w12 e12 w13 e13
  have x13 : Ext w8 w13 := ((Ext.rfl' _).of_alloc e12).of_setRow e13 (Nat.le_refl _)
  have z13 : w13.heap.size = w8.heap.size + 1 := by rw [e13, setRow_size, e12]; simp
  have hr13 : Row w13 w8.heap.size [.int .i64 P.1, .int .i64 P.2, .slice s11.a s11.n s11.c] tK := by
    have : Row w12 w8.heap.size [.int .i64 0, .int .i64 0, .slice none 0 0] tK := by rw [e12]; exact Row.new w8 [_, _, _] _
    rw [e13]; exact this.set [_, _, _]
  clear e12 e13
  refine (Near_spec P hP c w13).mono ?_
  rintro e w14 ⟨rfl, x14⟩
  have z14 := x14.size
  have hok := near_ok hP c
  have how : okC ((nearK P c).1 + 1, (nearK P c).2.1, (nearK P c).2.2) ∧ inI ((nearK P c).1 + 1) := by
    obtain ⟨⟨p1, p2⟩, p3, p4⟩ := hP
    have : inI ((nearK P c).1 + 1) := by unfold nearK inI; simp only; omega
    exact ⟨⟨this, hok.2.1, hok.2.2⟩, this⟩
  refine ⟨_, _, _, rfl, x14.heap (by omega), x14.heap (by omega), x14.heap (by omega), ?_⟩
  generalize nearK P c = o at *
  intro w18 e18 w19 e19
  have x19 : Ext w14 w19 := ((Ext.rfl' _).of_alloc e18).of_setRow e19 (Nat.le_refl _)
  have z19 : w19.heap.size = w14.heap.size + 1 := by rw [e19, setRow_size, e18]; simp
  clear e18 e19
  refine (ref04_Good_spec b w19 hb).mono ?_
  rintro e w20 ⟨rfl, rfl⟩
  refine ⟨_, rfl, rfl, rfl, rfl, rfl, ?_⟩
  have hgm := good_mayb b
  generalize bGood b = gb at *
  have x620 := x8.tr (x13.tr (x14.tr x19))
  have h20 := h6.ext x620
  have o20 := OwnK.ext o8 (x13.tr (x14.tr x19))
  have hr20 := hr13.ext (x14.tr x19)
  have x020 := x5.tr (x6.tr x620)
  refine (At_spec h20 o hok).mono ?_
  rintro e w22 ⟨rfl, x22⟩
  have z22 := x22.size
  refine ⟨_, _, rfl, x22.heap (by omega), x22.heap (by omega), x22.heap (by omega), x22.heap (by omega), ?_⟩
  refine (rAt_spec (OwR.rdr (OwnK.ext o20 x22)) (made_len _ _) o hok).mono ?_
  rintro e w25 ⟨rfl, x25⟩
  have z25 := x25.size
  have x2025 := x22.tr x25
  refine ⟨_, rfl, x25.heap (by omega), x25.heap (by omega), x25.heap (by omega), x25.heap (by omega), ?_⟩
  have h25 := h20.ext x2025
  have o25 := OwnK.ext o20 x2025
  have hr25 := hr20.ext x2025
  have x025 := x020.tr x2025
  have hgr : g ≠ w8.heap.size := h20.row.ne hr20 (by decide)
  have hgl : g < w8.heap.size := by have := h6.row.lt; omega
  have ml := made_len seed P
  have mm := made_may seed P
  generalize made seed P = M at *
  cases hk : inK P o with
  | false =>
    obtain ⟨k1, k2⟩ := rk_out (C := M) hk
    rw [k1, k2]
    refine nope (by decide) (nope rfl (yes rfl (nope rfl ?_)))
    refine (Set_spec h25 o hok gb).mono ?_
    rintro e w75 ⟨rfl, s2, h75, m75, f75⟩
    rw [kSet_out hk] at h75 ⊢
    have z75 := m75.size
    have ne : ∀ j, j < w25.heap.size → j ≠ g → w75.heap[j]? = w25.heap[j]? := fun j h1 h2 => m75.same j h1 h2
    refine ⟨_, rfl, ne _ (by omega) (by omega), ne _ (by omega) (by omega), ne _ (by omega) (by omega), ne _ (by omega) (by omega), yes rfl (yes rfl ?_)⟩
    have hd := h75.ext (Ext.dr _)
    have o75 := m75.ownK o25 fun i hi => by
      obtain ⟨cs', hr'⟩ := own_row o25 (by decide) hi
      exact hr'.ne h25.row (by decide)
    have hr75 := hr25.same (ne _ (by omega) hgr.symm)
    have zd : w75.drew.heap.size = w75.heap.size := rfl
    refine (Runs_spec hd).mono ?_
    rintro e w77 ⟨s78, rfl, o77, x77⟩
    have z77 := x77.size
    refine ⟨s78, rfl, x77.heap (by omega), x77.heap (by omega), x77.heap (by omega), x77.heap (by omega), ((rdrew hr75).ext x77).loadL (fun j hj => by simp at hj; subst hj; rfl), ?_⟩
    refine (ref05_Same_spec s78 s11 _ _ w77 (OwR.rdr o77) (OwR.rdr (OwnK.ext o75 ((Ext.dr _).tr x77))) (cells_pos ml).2.2).mono ?_
    rintro e w79 ⟨rfl, x79⟩
    have z79 := x79.size
    refine ⟨_, rfl, x79.heap (by omega), x79.heap (by omega), x79.heap (by omega), x79.heap (by omega), yes (decide_eq_true rfl) ?_⟩
    refine (lives11_spec w79).mono ?_
    rintro e w81 ⟨rfl, x81⟩
    have z81 := x81.size
    refine ⟨_, rfl, x81.heap (by omega), x81.heap (by omega), x81.heap (by omega), x81.heap (by omega), rfl, ?_⟩
    exact (Turn_k m75 x025 (by have := x5.size; omega)).tr ((Ext.dr _).tr (x77.tr (x79.tr x81)))
  | true =>
    obtain ⟨k1, k2⟩ := rk_in ml mm hk
    have b1 : (!(true == decide (rkAt P M o ≥ 0))) = false := by rw [decide_eq_true k1]; rfl
    refine nope b1 (yes rfl (nope (by rw [k2]; simp) (nope rfl ?_)))
    refine (Set_spec h25 o hok gb).mono ?_
    rintro e w27 ⟨rfl, s2, h27, m27, f27⟩
    rw [kSet_in hk hgm] at h27 ⊢
    have z27 := m27.size
    have ne : ∀ j, j < w25.heap.size → j ≠ g → w27.heap[j]? = w25.heap[j]? := fun j h1 h2 => m27.same j h1 h2
    refine ⟨_, rfl, ne _ (by omega) (by omega), ne _ (by omega) (by omega), ne _ (by omega) (by omega), ne _ (by omega) (by omega), nope rfl ?_⟩
    have o27 := m27.ownK o25 fun i hi => by
      obtain ⟨cs', hr'⟩ := own_row o25 (by decide) hi
      exact hr'.ne h25.row (by decide)
    have x027 := Turn_k m27 x025 (by have := x5.size; omega)
    refine (At_spec h27 o hok).mono ?_
    rintro e w35 ⟨rfl, x35⟩
    have z35 := x35.size
    refine ⟨_, _, rfl, x35.heap (by omega), x35.heap (by omega), x35.heap (by omega), x35.heap (by omega), ?_⟩
    intro w38 e38 w39 e39
    have x39 : Ext w35 w39 := ((Ext.rfl' _).of_alloc e38).of_setRow e39 (Nat.le_refl _)
    have z39 : w39.heap.size = w35.heap.size + 1 := by rw [e39, setRow_size, e38]; simp
    clear e38 e39
    rw [wrap_in how.2]
    have h39 := h27.ext (x35.tr x39)
    have o39 := OwnK.ext o27 (x35.tr x39)
    refine (At_spec h39 (o.1 + 1, o.2.1, o.2.2) how.1).mono ?_
    rintro e w40 ⟨rfl, x40⟩
    have z40 := x40.size
    have kk : kAt P (M.set (idx o).toNat gb) o = gb := by rw [kAt_set ml hk hk, if_pos rfl]
    refine ⟨_, _, rfl, x40.heap (by omega), x40.heap (by omega), x40.heap (by omega), x40.heap (by omega), x40.heap (by omega), yes rfl (yes (by rw [kk]; simp) ?_)⟩
    refine (rAt_spec (OwR.rdr (OwnK.ext o39 x40)) ml (o.1 + 1, o.2.1, o.2.2) how.1).mono ?_
    rintro e w43 ⟨rfl, x43⟩
    have z43 := x43.size
    refine ⟨_, rfl, x43.heap (by omega), x43.heap (by omega), x43.heap (by omega), x43.heap (by omega), x43.heap (by omega), ?_⟩
    have x043 := x027.tr ((x35.tr x39).tr (x40.tr x43))
    cases hkb : inK P (o.1 + 1, o.2.1, o.2.2) with
    | false =>
      obtain ⟨k3, k4⟩ := rk_out (C := M) hkb
      rw [k3]
      refine yes (by decide) (yes rfl ?_)
      refine (lives11_spec w43).mono ?_
      rintro e w45 ⟨rfl, x45⟩
      exact ⟨_, rfl, x45.heap (by omega), x45.heap (by omega), x45.heap (by omega), x45.heap (by omega), x45.heap (by omega), rfl, x043.tr x45⟩
    | true =>
      obtain ⟨k3, k4⟩ := rk_in ml mm hkb
      refine yes (by rw [decide_eq_true k3]; rfl) (nope rfl ?_)
      refine (rAt_spec (OwR.rdr (OwnK.ext o39 (x40.tr x43))) ml (o.1 + 1, o.2.1, o.2.2) how.1).mono ?_
      rintro e w47 ⟨rfl, x47⟩
      have z47 := x47.size
      have hne : idx (o.1 + 1, o.2.1, o.2.2) ≠ idx o := by unfold idx; simp only; omega
      have kb : kAt P (M.set (idx o).toNat gb) (o.1 + 1, o.2.1, o.2.2) = rkAt P M (o.1 + 1, o.2.1, o.2.2) := by rw [kAt_set ml hk hkb, if_neg hne, k4]
      refine ⟨_, rfl, x47.heap (by omega), x47.heap (by omega), x47.heap (by omega), x47.heap (by omega), x47.heap (by omega), yes (by rw [kb]; simp) ?_⟩
      refine (lives11_spec w47).mono ?_
      rintro e w49 ⟨rfl, x49⟩
      exact ⟨_, rfl, x49.heap (by omega), x49.heap (by omega), x49.heap (by omega), x49.heap (by omega), x49.heap (by omega), rfl, x043.tr (x47.tr x49)⟩
theorem ChunkFlat_law (seed a b i : Int) (ha : inI a) (hb : inI b) (hi : inI i) (w : World) : Calls Tryd.prog n_law11_ChunkFlat #[.int .i64 seed, .int .i64 a, .int .i64 b, .int .i64 i] w fun e w' => e = .returned (.bool true) ∧ Ext w w' := by
  apply law11_ChunkFlat.vc
  refine (Make_spec seed (0, 0) okP0 w).mono ?_
  rintro e w0 ⟨g, s, rfl, h0, x0, hg⟩
  refine ⟨_, rfl, Br.mk (fun h => by cases h) (fun _ => ?_)⟩
  refine (ref04_Good_spec a w0 ha).mono ?_
  rintro e w2 ⟨rfl, rfl⟩
  refine ⟨_, rfl, (ref04_Good_spec b w2 hb).mono ?_⟩
  rintro e w4 ⟨rfl, rfl⟩
  have hga := good_mayb a
  have hgb := good_mayb b
  generalize bGood a = ga at *
  generalize bGood b = gb at *
  have ml := made_len seed (0, 0)
  generalize made seed (0, 0) = M at *
  refine ⟨_, rfl, (Fill_spec h0 (show smallP (0, 0) by unfold smallP; decide) (0, 0, 0) (15, 31, 15) ga).mono ?_⟩
  rintro e w6 ⟨rfl, s6, h6, m6, f6⟩
  obtain ⟨wh1, wh2⟩ := boxC_whole ml ga
  obtain ⟨D, hD⟩ : ∃ D, List.replicate 8192 ga = D := ⟨_, rfl⟩
  have hDl : D.length = 8192 := by rw [← hD, List.length_replicate]
  have hDr : (ofC D).length = 1 := by rw [← hD, ofC_rep 8192 (by decide)]; rfl
  have hDs : ∀ m : Nat, m < 8192 → (ofC (D.set m gb)).length = if ga = gb then 1 else if m = 0 ∨ m = 8191 then 2 else 3 := fun m hm => by rw [← hD]; exact ofC_set hm
  rw [hD] at wh1
  clear hD
  have hF : kFill (0, 0) M (0, 0, 0) (15, 31, 15) ga = (D, 8192, 0) := by
    unfold kFill
    rw [if_neg (by rw [hga]; decide), wh1, wh2]; rfl
  rw [hF] at h6 ⊢
  have x6 := Turn_k m6 x0 hg
  have hgl := h6.row.lt
  refine ⟨_, _, rfl, nope rfl (nope rfl ?_)⟩
  refine (Runs_spec h6).mono ?_
  rintro e w9 ⟨s10, rfl, o10, x9⟩
  have hn10 := RdR.len (OwR.rdr o10)
  rw [hDr] at hn10
  refine ⟨s10, rfl, nope (by rw [hn10]; rfl) ?_⟩
  refine (around_spec i 8192 w9 hi (by decide) (by unfold inI; omega)).mono ?_
  rintro e w11 ⟨rfl, rfl⟩
  have hat := around_bd i 8192 (by decide)
  refine ⟨_, rfl, ?_⟩
  generalize around i 8192 = at' at *
  intro w13 e13 w14 e14
  have x14 : Ext w11 w14 := ((Ext.rfl' _).of_alloc e13).of_setRow e14 (Nat.le_refl _)
  have z14 : w14.heap.size = w11.heap.size + 1 := by rw [e14, setRow_size, e13]; simp
  clear e13 e14
  have t1 : Int.tmod at' 16 = at' % 16 := Int.tmod_eq_emod_of_nonneg (by omega)
  have t2 : IntKind.wrap .i64 (Int.tdiv at' 256) = at' / 256 := by rw [Int.tdiv_eq_ediv_of_nonneg (by omega), wrap_in (by unfold inI; omega)]
  have t3 : IntKind.wrap .i64 (Int.tdiv at' 16) = at' / 16 := by rw [Int.tdiv_eq_ediv_of_nonneg (by omega), wrap_in (by unfold inI; omega)]
  have t4 : Int.tmod (at' / 16) 16 = at' / 16 % 16 := Int.tmod_eq_emod_of_nonneg (by omega)
  rw [t1, t2, t3, t4]
  have hcell : cellAt (0, 0) at' = (at' % 16, at' / 256, at' / 16 % 16) := by unfold cellAt; simp
  obtain ⟨g1, g2, g3⟩ := idx_cellAt (0, 0) hat
  rw [hcell] at g1 g2 g3
  have hok : okC (at' % 16, at' / 256, at' / 16 % 16) := by unfold okC inI; simp only; omega
  have hin : inK (0, 0) (at' % 16, at' / 256, at' / 16 % 16) = true := (inK_iff _ _).2 ⟨g1, g3⟩
  have h14 := h6.ext (x9.tr x14)
  have hgl2 : g < w11.heap.size := by have := x9.size; omega
  refine (Set_spec h14 (at' % 16, at' / 256, at' / 16 % 16) hok gb).mono ?_
  rintro e w15 ⟨rfl, s15, h15, m15, f15⟩
  rw [kSet_in hin hgb, g2] at h15 ⊢
  have x15 : Ext w w15 := Turn_k m15 (x6.tr (x9.tr x14)) hg
  refine ⟨_, rfl, m15.same _ (by omega) (by omega), nope rfl ?_⟩
  have z15 := m15.size
  refine (At_spec h15 (at' % 16, at' / 256, at' / 16 % 16) hok).mono ?_
  rintro e w17 ⟨rfl, x17⟩
  have z17 := x17.size
  have hka : kAt (0, 0) (D.set at'.toNat gb) (at' % 16, at' / 256, at' / 16 % 16) = gb := by
    have := kAt_set hDl hin hin gb
    rw [if_pos rfl, g2] at this; exact this
  rw [hka, hin]
  refine ⟨_, _, rfl, x17.heap (by omega), ?_⟩
  have fin : ∀ n : Nat, (if ga = gb then 1 else if at'.toNat = 0 ∨ at'.toNat = 8191 then 2 else 3) = n → Br (gb == gb) (Br true (Calls Tryd.prog 22 #[.pointer (some ⟨g, 0, none⟩)] w17 (fun e w20 => ∃ (s21 : Sl), e = .returned (.slice s21.a s21.n s21.c) ∧ w20.heap[w11.heap.size]? = w17.heap[w11.heap.size]? ∧
      Br ((((s21.n : Nat) : Int) : Int) == ((n : Nat) : Int)) (Calls Tryd.prog 15 #[] w20 (fun e w22 => ∃ (b23 : Bool), e = .returned (.bool b23) ∧ w22.heap[w11.heap.size]? = w20.heap[w11.heap.size]? ∧ (Ending.returned (.bool b23) = Ending.returned (.bool true) ∧ Ext w w22))) ((Ending.returned (.bool false) = Ending.returned (.bool true) ∧ Ext w w20))))
      ((Ending.returned (.bool false) = Ending.returned (.bool true) ∧ Ext w w17))) ((Ending.returned (.bool false) = Ending.returned (.bool true) ∧ Ext w w17)) := fun n hn => by
    refine yes (by simp) (yes rfl ?_)
    refine (Runs_spec (h15.ext x17)).mono ?_
    rintro e w20 ⟨s21, rfl, o21, x20⟩
    have z20 := x20.size
    have hn21 := RdR.len (OwR.rdr o21)
    rw [hDs _ (by omega), hn] at hn21
    refine ⟨s21, rfl, x20.heap (by omega), yes (by rw [hn21]; simp) ?_⟩
    refine (lives11_spec w20).mono ?_
    rintro e w22 ⟨rfl, x22⟩
    exact ⟨_, rfl, x22.heap (by omega), rfl, x15.tr (x17.tr (x20.tr x22))⟩
  refine Br.mk (fun c0 => Br.mk (fun c1 => ?_) (fun c1 => ?_)) (fun c0 => Br.mk (fun c2 => Br.mk (fun c1 => ?_) (fun c1 => ?_)) (fun c2 => Br.mk (fun c1 => ?_) (fun c1 => ?_))) <;> simp only [beq_iff_eq, beq_eq_false_iff_ne, ne_eq] at *
  · exact fin 1 (by rw [if_pos c1])
  · exact fin 2 (by rw [if_neg c1, if_pos (by omega)])
  · exact fin 1 (by rw [if_pos c1])
  · exact fin 2 (by rw [if_neg c1, if_pos (by omega)])
  · exact fin 1 (by rw [if_pos c1])
  · exact fin 3 (by rw [if_neg c1, if_neg (by omega)])
end Go.Proofs.YtfipllblcnahdaaDoor
