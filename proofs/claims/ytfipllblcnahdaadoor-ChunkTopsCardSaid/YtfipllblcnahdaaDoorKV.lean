import Derived.Test.YtfipllblcnahdaaDoorKU
set_option linter.all false
namespace Go.Proofs.YtfipllblcnahdaaDoor
open Go Go.Vc Go.RowKit Go.Proofs Go.Chk Go.Runs

set_option maxRecDepth 100000 in
theorem rFill_spec {w : World} {s : Sl} {p : Po} {C : List Int} (ho : OwR 0 w s (ofC C)) (hl : C.length = 8192) (hp : okP p) (f t : Ce) (b : Int) :
    Calls Tryd.prog n_ref11_Fill #[kv p s, cev f, cev t, .int .i64 b] w fun e w' => (∃ s', e = .returned (.tuple #[kv p s', .int .i64 (kFill p C f t b).2.1, .int .i64 (kFill p C f t b).2.2]) ∧ OwR 0 w' s' (ofC (kFill p C f t b).1)) ∧ Ext w w' := by
  apply ref11_Fill.vc
  obtain ⟨q1, q2, q3⟩ := cells_pos hl
  intro w0 e0 w1 e1 w2 e2 w3 e3
  have z0 : w0.heap.size = w.heap.size + 1 := by rw [e0]; simp
  have z1 : w1.heap.size = w.heap.size + 2 := by rw [e1]; simp [z0]
  have z2 : w2.heap.size = w.heap.size + 3 := by rw [e2]; simp [z1]
  have z3 : w3.heap.size = w.heap.size + 4 := by rw [e3]; simp [z2]
  have x3 : Ext w w3 := ((((Ext.rfl' w).of_alloc e0).of_alloc e1).of_alloc e2).of_alloc e3
  clear e0 e1 e2 e3
  refine (ref04_May_spec b w3).mono ?_
  rintro e w4 ⟨rfl, rfl⟩
  refine ⟨_, rfl, rfl, rfl, rfl, rfl, ?_⟩
  cases hb : bMay b with
  | false =>
    refine Br.mk (fun _ => fun w6 e6 => ?_) (fun h => by cases h)
    have e : kFill p C f t b = (C, 0, 1) := by unfold kFill; rw [if_pos hb]
    rw [e]
    have x6 := x3.of_setRow e6 (by omega)
    exact ⟨⟨s, rfl, OwnK.ext ho x6⟩, x6⟩
  | true =>
    refine Br.mk (fun h => by cases h) (fun _ => ?_)
    have e : kFill p C f t b = (boxC p C f t b, ((boxN p f t 8192 : Nat) : Int), 0) := by unfold kFill; rw [if_neg (by rw [hb]; decide)]
    rw [e]
    have ho4 : OwR 0 w4 s (ofC C) := OwnK.ext ho x3
    refine (ref05_Cells_spec s _ w4 (OwR.rdr ho4) q3 q1 q2).mono ?_
    rintro e w7 ⟨s8, rfl, o8, x7⟩
    rw [cells_ofC] at o8
    have z7 := x7.size
    have hn8 := RdC.len o8.rdc
    refine ⟨s8, rfl, x7.heap (by omega), x7.heap (by omega), x7.heap (by omega), x7.heap (by omega), ?_⟩
    refine ⟨fun n i x wr => ∃ k : Nat, i = k ∧ k + n = 8192 ∧ x = (boxN p f t k : Nat) ∧ OwC w4.heap.size wr s8 (boxTo p C f t b k) ∧ Ext w4 wr, ⟨8192, rfl, rfl, rfl, rfl, 0, rfl, by omega, rfl, by rw [boxTo_zero]; exact o8, x7⟩, ?_⟩
    rintro n us i x wr ⟨k, rfl, hk, rfl, hor, xr⟩
    have hcl : (boxTo p C f t b k).length = 8192 := by rw [boxTo_len]; exact hl
    have hlow := fun j (hj : s8.blk = some j) => (hor.own.lt hj).1
    have zr := xr.size
    have hnk : boxN p f t k ≤ k := cnt_le _ _
    refine Br.mk (fun hc => ?_) (fun hc => ?_)
    · simp only [decide_eq_true_eq] at hc
      have hk8 : k < 8192 := by omega
      refine (rFrom_spec p hp k ⟨by omega, by omega⟩ wr).mono ?_
      rintro e w16 ⟨rfl, x16⟩
      have z16 := x16.size
      refine ⟨_, _, _, _, rfl, x16.heap (by omega), x16.heap (by omega), x16.heap (by omega), x16.heap (by omega), ?_⟩
      intro w21 e21 w22 e22
      have x22 : Ext w16 w22 := ((Ext.rfl' _).of_alloc e21).of_setRow e22 (Nat.le_refl _)
      have x1622 := x16.tr x22
      have hor22 : OwC w4.heap.size w22 s8 (boxTo p C f t b k) := OwnK.ext hor x1622
      have z22 := x22.size
      have wk : IntKind.wrap .i64 ((k : Int) + 1) = ((k + 1 : Nat) : Int) := by rw [wrap_in (by unfold inI; omega)]; omega
      have wn : IntKind.wrap .i64 ((boxN p f t k : Nat) + 1 : Int) = ((boxN p f t k + 1 : Nat) : Int) := by rw [wrap_in (by unfold inI; omega)]; omega
      rw [wk, wn]
      have hno : inBox f t (cellAt p k) = false → ∃ n15, n15 < n ∧ ([.int .i64 p.1, .int .i64 p.2, .slice s.a s.n s.c] : List Value) = [.int .i64 p.1, .int .i64 p.2, .slice s.a s.n s.c] ∧ ([.int .i64 f.1, .int .i64 f.2.1, .int .i64 f.2.2] : List Value) = [.int .i64 f.1, .int .i64 f.2.1, .int .i64 f.2.2] ∧ ([.int .i64 t.1, .int .i64 t.2.1, .int .i64 t.2.2] : List Value) = [.int .i64 t.1, .int .i64 t.2.1, .int .i64 t.2.2] ∧ ([.int .i64 0, .int .i64 0, .slice none 0 0] : List Value) = [.int .i64 0, .int .i64 0, .slice none 0 0] ∧ ∃ k' : Nat, ((k + 1 : Nat) : Int) = k' ∧ k' + n15 = 8192 ∧ ((boxN p f t k : Nat) : Int) = (boxN p f t k' : Nat) ∧ OwC w4.heap.size w22 s8 (boxTo p C f t b k') ∧ Ext w4 w22 := fun hf => by
        refine ⟨n - 1, by omega, rfl, rfl, rfl, rfl, k + 1, rfl, by omega, ?_, ?_, xr.tr x1622⟩
        · rw [boxN_out hf]
        · rw [← boxTo_out hf]; exact hor22
      have hib := inBox_iff f t (cellAt p k)
      have hf0 : ∀ q : Prop, (inBox f t (cellAt p k) = true → q) → ¬ q → inBox f t (cellAt p k) = false := fun q h1 h2 => by
        cases hq : inBox f t (cellAt p k) with
        | false => rfl
        | true => exact absurd (h1 hq) h2
      refine Br.mk (fun h1 => Br.mk (fun h2 => Br.mk (fun h3 => Br.mk (fun h4 => Br.mk (fun h5 => Br.mk (fun h6 => ?_) (fun h6 => ?_)) (fun h5 => ?_)) (fun h4 => ?_)) (fun h3 => ?_)) (fun h2 => ?_)) (fun h1 => ?_)
      · simp only [decide_eq_true_eq] at h1 h2 h3 h4 h5 h6
        have hin : inBox f t (cellAt p k) = true := hib.2 ⟨⟨h1, h2⟩, ⟨h3, h4⟩, h5, h6⟩
        obtain ⟨y, hy⟩ := get_lt (l := boxTo p C f t b k) (i := k) (by omega)
        have hinb := RdC.inB hor22.rdc (i := k) (by omega)
        obtain ⟨r1, r2, r3, r4, r5⟩ := OwnK.set hor22 (i := k) (j := 0) (r := iv y) (v := .int .i64 b) (by rw [List.getElem?_map, hy]; rfl) (by omega) rfl (by omega)
        have e0 : padd (padd s8.a (k * 1)) 0 = padd s8.a (((k : Nat) : Int).toNat * 1) := by rw [padd_padd, Int.toNat_natCast]; rfl
        rw [e0] at r1 r2 r3 r4 r5
        have hpb : ∀ j : Nat, (j < w4.heap.size ∨ wr.heap.size ≤ j) → pblk (padd s8.a (((k : Nat) : Int).toNat * 1)) ≠ some j := fun j hj e => by
          rw [pblk_padd] at e
          have hb2 : s8.blk = some j := e
          have h1 := hlow j hb2
          have h2 := (hor.own.lt hb2).2
          omega
        refine ⟨hinb, ⟨r1, r2⟩, hpb _ (by omega), hpb _ (by omega), hpb _ (by omega), hpb _ (by omega), hpb _ (by omega), ?_⟩
        rintro w23 rfl
        refine ⟨n - 1, by omega, rfl, rfl, rfl, rfl, k + 1, rfl, by omega, ?_, ?_, (xr.tr x1622).trans r4⟩
        · rw [boxN_in hin]
        · have e1 : ((boxTo p C f t b k).map iv).set k ((iv y).set 0 (.int .i64 b)) = ((boxTo p C f t b k).set k b).map iv := by rw [List.map_set]; rfl
          rw [e1, boxTo_in (by omega) hin] at r3
          exact r3
      · exact hno (hf0 _ (fun h => decide_eq_true (hib.1 h).2.2.2) (by rw [h6]; decide))
      · exact hno (hf0 _ (fun h => decide_eq_true (hib.1 h).2.2.1) (by rw [h5]; decide))
      · exact hno (hf0 _ (fun h => decide_eq_true (hib.1 h).2.1.2) (by rw [h4]; decide))
      · exact hno (hf0 _ (fun h => decide_eq_true (hib.1 h).2.1.1) (by rw [h3]; decide))
      · exact hno (hf0 _ (fun h => decide_eq_true (hib.1 h).1.2) (by rw [h2]; decide))
      · exact hno (hf0 _ (fun h => decide_eq_true (hib.1 h).1.1) (by rw [h1]; decide))
    · simp only [decide_eq_false_iff_not] at hc
      have hk8 : k = 8192 := by omega
      subst hk8
      refine (ref05_Of_spec s8 _ wr hor.rdc (by rw [hcl]; decide)).mono ?_
      rintro e w24 ⟨s25, rfl, ho25, x24⟩
      have z24 := x24.size
      refine ⟨s25, rfl, x24.heap (by omega), x24.heap (by omega), x24.heap (by omega), x24.heap (by omega), ?_⟩
      intro w26 e26 w27 e27
      have xx := (((x3.tr xr).tr x24).of_setRow e26 (Nat.le_refl _)).of_setRow e27 (by omega)
      refine ⟨⟨s25, rfl, ?_⟩, xx⟩
      rw [← hl, boxTo_all] at ho25
      refine OwnK.low (OwnK.keep ho25 fun j hj => ?_) (Nat.zero_le _)
      have := (ho25.own.lt hj).1
      rw [e27, setRow_other _ _ _ _ (by omega), e26, setRow_other _ _ _ _ (by omega)]
theorem rTop_spec {w : World} {s : Sl} {p : Po} {C : List Int} (hs : RdR w s (ofC C)) (hl : C.length = 8192) (x z : Int) :
    Calls Tryd.prog n_ref11_Top #[kv p s, .int .i64 x, .int .i64 z] w fun e w' => e = .returned (.int .i64 (topTo C (col x z) 8192)) ∧ Ext w w' := by
  apply ref11_Top.vc
  obtain ⟨q1, q2, q3⟩ := cells_pos hl
  intro w0 e0
  have z0 : w0.heap.size = w.heap.size + 1 := by rw [e0]; simp
  have x0 : Ext w w0 := (Ext.rfl' w).of_alloc e0
  refine (ref05_Cells_spec s _ w0 (RdK.ext hs x0) q3 q1 q2).mono ?_
  rintro e w1 ⟨s2, rfl, o2, x1⟩
  rw [cells_ofC] at o2
  have hn2 := RdC.len o2.rdc
  have hcb := col_in x z
  refine ⟨s2, rfl, x1.heap (by omega), ?_⟩
  refine ⟨fun n y wr => wr = w1 ∧ y + 1 = n ∧ -1 ≤ y ∧ y ≤ 31 ∧ ∀ k : Nat, (y + 1) * 256 ≤ (k : Int) → k < 8192 → (k : Int) % 256 = col x z → C.getD k 0 = 0, ⟨32, rfl, rfl, rfl, by omega, by omega, fun k h1 h2 => by omega⟩, ?_⟩
  rintro n us y wr ⟨rfl, hy, hlo, hhi, hz⟩
  refine Br.mk (fun hc => ?_) (fun hc => ?_)
  · simp only [decide_eq_true_eq] at hc
    refine (rMod_spec z 16 (by decide) (by decide) wr).mono ?_
    rintro e wq ⟨rfl, rfl⟩
    refine ⟨_, rfl, rfl, (rMod_spec x 16 (by decide) (by decide) wq).mono ?_⟩
    rintro e wq ⟨rfl, rfl⟩
    have a1 : IntKind.wrap .i64 (y * 256) = y * 256 := wrap_in (by unfold inI; omega)
    have a2 : IntKind.wrap .i64 (z % 16 * 16) = z % 16 * 16 := wrap_in (by unfold inI; omega)
    have a3 : IntKind.wrap .i64 (y * 256 + z % 16 * 16) = y * 256 + z % 16 * 16 := wrap_in (by unfold inI; omega)
    have a4 : IntKind.wrap .i64 (y * 256 + z % 16 * 16 + x % 16) = y * 256 + col x z := by unfold col; rw [wrap_in (by unfold inI; omega)]; omega
    have hi : (y * 256 + col x z).toNat < C.length := by omega
    obtain ⟨b, hb⟩ := get_lt (l := C) (i := (y * 256 + col x z).toNat) hi
    have hin := RdC.inB o2.rdc (i := (y * 256 + col x z).toNat) hi
    have hc0 := RdC.c0 o2.rdc hb
    rw [show (((y * 256 + col x z).toNat : Nat) : Int) = y * 256 + col x z from by omega] at hin
    have hgd : C.getD (y * 256 + col x z).toNat 0 = b := by rw [List.getD_eq_getElem?_getD, hb]; rfl
    refine ⟨_, rfl, rfl, ?_⟩
    rw [a1, a2, a3, a4]
    refine ⟨hin, b, hc0, Br.mk (fun hb0 => ?_) (fun hb0 => ?_)⟩
    · have hne : b ≠ 0 := by simpa using hb0
      refine ⟨?_, x0.tr x1⟩
      rw [topTo_at (m := (y * 256 + col x z).toNat) (by omega) (by omega) (by rw [hgd]; exact hne) (fun k h1 h2 h3 => hz k (by omega) h2 h3)]
      congr 2
      omega
    · have he : b = 0 := by simpa using hb0
      have a5 : IntKind.wrap .i64 (y - 1) = y - 1 := wrap_in (by unfold inI; omega)
      rw [a5]
      refine ⟨n - 1, by omega, rfl, rfl, by omega, by omega, by omega, fun k h1 h2 h3 => ?_⟩
      rcases Int.lt_or_le (k : Int) ((y + 1) * 256) with h4 | h4
      · have : k = (y * 256 + col x z).toNat := by omega
        rw [this, hgd, he]
      · exact hz k h4 h2 h3
  · simp only [decide_eq_false_iff_not] at hc
    refine ⟨?_, x0.tr x1⟩
    rw [topTo_none fun k h1 h2 => hz k (by omega) h1 h2]
end Go.Proofs.YtfipllblcnahdaaDoor
