import Derived.Test.YtfipllblcnahdaaDoorKT
set_option linter.all false
namespace Go.Proofs.YtfipllblcnahdaaDoor
open Go Go.Vc Go.RowKit Go.Proofs Go.Chk Go.Runs

def kFill (p : Po) (C : List Int) (f t : Ce) (b : Int) : List Int × Int × Int := if bMay b = false then (C, 0, 1) else (boxC p C f t b, ((boxN p f t 8192 : Nat) : Int), 0)
theorem kFill_ok {p : Po} {C : List Int} (hl : C.length = 8192) (hm : ∀ b ∈ C, bMay b = true) (f t : Ce) (b : Int) : (kFill p C f t b).1.length = 8192 ∧ ∀ x ∈ (kFill p C f t b).1, bMay x = true := by
  unfold kFill
  split
  · exact ⟨hl, hm⟩
  · rename_i h
    refine ⟨by rw [boxC_len]; exact hl, fun x hx => ?_⟩
    rcases boxC_mem hx with h1 | h1
    · rw [h1]; simpa using h
    · exact hm x h1
theorem kFill_cut {p : Po} (hp : smallP p) {C : List Int} (hl : C.length = 8192) (f t : Ce) (b : Int) : kFill p C (cutC f) (cutC t) b = kFill p C f t b := by
  unfold kFill
  rw [boxC_cut hp hl, boxN_cut hp]
set_option maxRecDepth 100000 in
theorem Fill_spec {w : World} {g : Nat} {s : Sl} {p : Po} {C : List Int} (h : KIs w g s p C) (hp : smallP p) (f t : Ce) (b : Int) :
    Calls Tryd.prog n_chunk_Chunk_Fill #[.pointer (some ⟨g, 0, none⟩), cev f, cev t, .int .i64 b] w fun e w' => e = .returned (.tuple #[.int .i64 (kFill p C f t b).2.1, .int .i64 (kFill p C f t b).2.2]) ∧ ∃ s', KIs w' g s' p (kFill p C f t b).1 ∧ Mod (fun i => i = g) w w' ∧ (∀ i, s'.blk = some i → s.blk = some i ∨ w.heap.size ≤ i) := by
  rw [← kFill_cut hp h.len f t b]
  apply chunk_Chunk_Fill.vc
  intro w0 e0 w1 e1 w2 e2 w3 e3
  have hgl := h.row.lt
  have z0 : w0.heap.size = w.heap.size + 1 := by rw [e0]; simp
  have z1 : w1.heap.size = w.heap.size + 2 := by rw [e1]; simp [z0]
  have z2 : w2.heap.size = w.heap.size + 3 := by rw [e2]; simp [z1]
  have z3 : w3.heap.size = w.heap.size + 4 := by rw [e3]; simp [z2]
  have x3 : Ext w w3 := ((((Ext.rfl' w).of_alloc e0).of_alloc e1).of_alloc e2).of_alloc e3
  have hbk : Row w3 w.heap.size [.pointer (some ⟨g, 0, none⟩)] 24 := (by rw [e0]; exact Row.new w [_] _ : Row w0 w.heap.size [.pointer (some ⟨g, 0, none⟩)] 24).ext ((((Ext.rfl' _).of_alloc e1).of_alloc e2).of_alloc e3)
  have hbt : Row w3 w1.heap.size [.int .i64 t.1, .int .i64 t.2.1, .int .i64 t.2.2] tCe := (by rw [e2]; exact Row.new w1 [_, _, _] _ : Row w2 w1.heap.size [.int .i64 t.1, .int .i64 t.2.1, .int .i64 t.2.2] tCe).ext ((Ext.rfl' _).of_alloc e3)
  clear e0 e1 e2 e3
  refine (block_May_spec b w3).mono ?_
  rintro e w4 ⟨rfl, x4⟩
  have z4 := x4.size
  refine ⟨_, rfl, x4.heap (by omega), x4.heap (by omega), x4.heap (by omega), x4.heap (by omega), ?_⟩
  have hok := kFill_ok (p := p) h.len h.may (cutC f) (cutC t) b
  cases hb : bMay b with
  | false =>
    refine Br.mk (fun _ => ?_) (fun h => by cases h)
    have e : kFill p C (cutC f) (cutC t) b = (C, 0, 1) := by unfold kFill; rw [if_pos hb]
    rw [e]
    exact ⟨rfl, s, h.ext (x3.tr x4), Mod.of_ext (x3.tr x4), fun i hi => .inl hi⟩
  | true =>
    refine Br.mk (fun h => by cases h) (fun _ => ?_)
    have e : kFill p C (cutC f) (cutC t) b = (boxC p C (cutC f) (cutC t) b, ((boxN p (cutC f) (cutC t) 8192 : Nat) : Int), 0) := by unfold kFill; rw [if_neg (by rw [hb]; decide)]
    rw [e] at hok ⊢
    clear e
    intro w6 e6 w7 e7
    have z6 : w6.heap.size = w4.heap.size + 1 := by rw [e6]; simp
    have z7 : w7.heap.size = w4.heap.size + 1 := by rw [e7, setRow_size, z6]
    have x7 : Ext w4 w7.drew := (((Ext.rfl' _).of_alloc e6).of_setRow e7 (Nat.le_refl _)).drew
    have zd : w7.drew.heap.size = w7.heap.size := rfl
    refine (Cut_spec f w7.drew).mono ?_
    rintro e w8 ⟨rfl, x8⟩
    have z8 := x8.size
    have x38 := (x4.tr x7).tr x8
    refine ⟨_, _, _, rfl, x8.heap (by omega), x8.heap (by omega), x8.heap (by omega), x8.heap (by omega), x8.heap (by omega), (hbt.ext x38).loadL (fun j hj => by rw [Nat.zero_add]), (hbk.ext x38).loadL (fun j hj => by rw [Nat.zero_add]), ?_⟩
    refine (Cut_spec t w8).mono ?_
    rintro e w12 ⟨rfl, x12⟩
    have z12 := x12.size
    have x312 := x38.tr x12
    refine ⟨_, _, _, rfl, x12.heap (by omega), x12.heap (by omega), x12.heap (by omega), x12.heap (by omega), x12.heap (by omega), (hbk.ext x312).loadL (fun j hj => by rw [Nat.zero_add]), ?_⟩
    have hc12 := h.ext (x3.tr x312)
    refine (rows_spec hc12 hp (cutC f) (cutC t) (cut_mid f) (cut_mid t)).mono ?_
    rintro e w16 ⟨b0, b1, b2, b3, b4, b5, rfl, hbx, x16, hbn⟩
    have z16 := x16.size
    have x316 := x312.tr x16
    have xx := x3.tr x316
    have hk16 := h.ext xx
    have hp16 := hbk.ext x316
    generalize cutC f = cf at *
    generalize cutC t = ct at *
    refine ⟨_, rfl, x16.heap (by omega), x16.heap (by omega), x16.heap (by omega), x16.heap (by omega), x16.heap (by omega), ?_⟩
    have hcs : ∀ i, boxRd b0 b1 b2 b3 b4 b5 i → ∃ cs t, Row w16 i cs t ∧ (t = tCe ∨ t = tInt) := fun i hi => by
      rcases hi with e | e | e | e | e | e
      · exact ⟨_, _, e ▸ hbx.r0, .inl rfl⟩
      · exact ⟨_, _, e ▸ hbx.r1, .inl rfl⟩
      · exact ⟨_, _, e ▸ hbx.r2, .inr rfl⟩
      · exact ⟨_, _, e ▸ hbx.r3, .inr rfl⟩
      · exact ⟨_, _, e ▸ hbx.r4, .inr rfl⟩
      · exact ⟨_, _, e ▸ hbx.r5, .inr rfl⟩
    have hbf : ∀ i, boxRd b0 b1 b2 b3 b4 b5 i → ¬ (i = g ∨ s.blk = some i) := fun i hi => by
      obtain ⟨cs, t, hr, ht⟩ := hcs i hi
      rintro (e | e)
      · subst e
        rcases ht with rfl | rfl <;> exact hr.ne hk16.row (by decide) rfl
      · obtain ⟨cs', hr'⟩ := own_row hk16.own (by decide) e
        rcases ht with rfl | rfl <;> exact hr.ne hr' (by decide) rfl
    have hm0 : Mod (fun i => i = g) w w16 := Mod.of_ext xx
    have hlen := rowsX_len p cf ct
    have hrl := rows_le p cf ct
    refine ⟨rowsX p cf ct, boxRd b0 b1 b2 b3 b4 b5, fun i => i = g ∨ s.blk = some i, fun n F x w' => ∃ s', (∀ i, F i ↔ i = g ∨ s'.blk = some i) ∧ KIs w' g s' p (rowsC p C cf ct b n) ∧ x = (n : Int) * (hiX p ct - loX p cf + 1) ∧ Mod (fun i => i = g) w w' ∧ (∀ i, s'.blk = some i → s.blk = some i ∨ w16.heap.size + 2 ≤ i) ∧ w16.heap.size + 2 ≤ w'.heap.size ∧ Row w' w.heap.size [.pointer (some ⟨g, 0, none⟩)] 24, fun _ _ _ _ => False,
      rowsX_shape _ _ _, ?_, fun _ _ _ _ _ hh => hh.elim, ?_, fun _ _ _ _ hh => hh.elim, ?_, ?_, ?_, ?_, trivial⟩
    · rintro n F x wa wb ⟨s', hF, hk, hx, hm, hs', hz, hp⟩ hbl hsame
      refine ⟨s', hF, ⟨hk.row.same (hsame g ((hF g).2 (.inl rfl))), OwnK.keep hk.own fun i hi => hsame i ((hF i).2 (.inr hi)), hk.len, hk.may⟩, hx, ⟨hbl.os.trans hm.os, hbl.tape.trans hm.tape, hbl.output.trans hm.output, Nat.le_trans hm.size hbl.size, fun i hi hn => (hbl.block i (by omega)).trans (hm.same i hi hn)⟩, hs', by have := hbl.size; omega, hp.same (hbl.block _ (by omega))⟩
    · rintro n F x wa ⟨s', hF, hk, hx, hm, hs', hz, hp⟩ i hi
      rcases (hF i).1 hi with e | e
      · subst e; omega
      · have h1 := (hk.own.own.lt e).2
        rcases hs' i e with h2 | h2
        · have h3 := (h.own.own.lt h2).2; omega
        · omega
    · intro i hi
      have h1 := hbx.lt hi
      have h2 := hbn i hi
      exact ⟨h1, hbf i hi, by omega, by omega, by omega, by omega, by omega, trivial⟩
    · intro wa hbeg
      have hbel : Below w16.heap.size w16 wa := hbeg.ext
      refine ⟨rows_iter p cf ct b0 b1 b2 b3 b4 b5 wa (hbx.same fun i hi => hbel.block i (hbx.lt hi)), rfl, rfl, rfl, rfl, s, fun i => Iff.rfl, hk16.ext hbel, by simp, Mod.of_ext (xx.tr hbel), fun i hi => .inl hi, by have := hbeg.size; omega, hp16.ext hbel⟩
    · rintro n F us x y m wa hx hI
      obtain ⟨hn, hrow⟩ := rowsX_inv hx
      obtain ⟨r1, r2, r3, r4, r5⟩ := rowK_in hn
      have ey : y = (rowK p cf ct n).1 := congrArg Prod.fst hrow
      have em : m = (rowK p cf ct n).2 := congrArg Prod.snd hrow
      refine ⟨Below.refl _ _, fun wb hrec hI2 => ?_⟩
      clear hI hx hrow
      obtain ⟨s', hF, hk, hxx, hm, hs', hz, hp⟩ := hI2
      have hkd := hk.ext (Ext.dr wb)
      have w1' : IntKind.wrap .i64 (y + m) = y + m := wrap_in (by unfold inI; omega)
      rw [w1']
      have hnb : (n : Int) * (hiX p ct - loX p cf + 1) ≤ 512 * 16 := by
        rw [← r5]
        exact Int.mul_le_mul (by omega) r4 (by omega) (by decide)
      have hnb0 : 0 ≤ (n : Int) * (hiX p ct - loX p cf + 1) := Int.mul_nonneg (by omega) (by omega)
      have w2' : IntKind.wrap .i64 (x + m) = ((n + 1 : Nat) : Int) * (hiX p ct - loX p cf + 1) := by
        have : ((n + 1 : Nat) : Int) * (hiX p ct - loX p cf + 1) = (n : Int) * (hiX p ct - loX p cf + 1) + (hiX p ct - loX p cf + 1) := by
          rw [Int.natCast_add, Int.add_mul]; simp
        rw [this, wrap_in (by unfold inI; omega)]
        omega
      rw [w2']
      have hgb := hk.row.lt
      have zbd : wb.drew.heap.size = wb.heap.size := rfl
      refine ⟨s', hkd.row.at 2 rfl, (runs_Fill_spec s' (rowsC p C cf ct b n) y (y + m) b wb.drew (OwR.rdr hkd.own) hkd.bd (by unfold inI; omega) (by unfold inI; omega)).mono ?_⟩
      rintro e wc ⟨s4, rfl, ho, xc⟩
      have zc := xc.size
      rw [if_pos hb, ey, em] at ho
      have hpc := hp.ext ((Ext.dr wb).tr xc)
      obtain ⟨p1, p2⟩ := (hkd.row.ext xc).put1 (j := 2) (v := .slice s4.a s4.n s4.c) (by simp) rfl
      have pb : ∀ j : Nat, w.heap.size ≤ j → pblk (padd (some ⟨g, 0, none⟩) 2) ≠ some j := fun j hj e => by
        rw [pblk_padd] at e
        have : g = j := by simpa [pblk] using e
        omega
      refine ⟨s4, rfl, xc.heap (by omega), xc.heap (by omega), xc.heap (by omega), xc.heap (by omega), xc.heap (by omega), hpc.loadL (fun j hj => by rw [Nat.zero_add]), hpc.loadL (fun j hj => by rw [Nat.zero_add]), ⟨rfl, p1⟩, pb _ (by omega), pb _ (by omega), pb _ (by omega), pb _ (by omega), pb _ (by omega), ?_⟩
      intro wd ed we ee
      obtain ⟨q1, q2⟩ := p2 wd ed
      have zd2 := q2.size
      have ze : we.heap.size = wd.heap.size := by rw [ee, setRow_size]
      have he : ∀ i, i ≠ w4.heap.size → we.heap[i]? = wd.heap[i]? := fun i hi => by rw [ee]; exact setRow_other _ _ _ _ hi
      have hb4 : ∀ i, s4.blk = some i → wb.heap.size ≤ i := fun i hi => (ho.own.lt hi).1
      have hs4g : ∀ i, s4.blk = some i → i ≠ g := fun i hi e => by have := hb4 i hi; omega
      have hod := q2.ownK ho hs4g
      refine ⟨fun i => i = g ∨ s4.blk = some i, ⟨rfl, rfl, rfl, rfl, s4, fun i => Iff.rfl, ⟨q1.same (he _ (by omega)), OwnK.keep (OwnK.low hod (Nat.zero_le _)) fun i hi => he i (by have := hb4 i hi; omega), (rowsC_len p C cf ct b (n + 1)).trans h.len, rowsC_may h.may hb (n + 1)⟩, rfl, ?_, fun i hi => .inr (by have := hb4 i hi; omega), by omega, ?_⟩, ⟨?_, by omega, ?_⟩⟩
      · have hm2 : Mod (fun i => i = g) w wd := (hm.trans (Mod.of_ext ((Ext.dr wb).tr xc))).trans q2
        have ewd : we.os = wd.os ∧ we.tape = wd.tape ∧ we.output = wd.output := by rw [ee]; exact ⟨rfl, rfl, rfl⟩
        exact ⟨ewd.1.trans hm2.os, ewd.2.1.trans hm2.tape, ewd.2.2.trans hm2.output, by have := hm2.size; omega, fun i hi hn => (he i (by omega)).trans (hm2.same i hi hn)⟩
      · exact (q2.row hpc (by omega)).same (he _ (by omega))
      · rintro i (hi | hi)
        · rcases hi with hi | hi
          · exact .inl (.inl ((hF i).2 (.inl hi)))
          · exact .inr (hb4 i hi)
        · exact .inl (.inr hi)
      · intro i hi hni
        have h1 : i ≠ w4.heap.size := fun e => hni (.inr (by simp [e]))
        have h2 : i ≠ g := fun e => hni (.inl ((hF i).2 (.inl e)))
        rw [he i h1, q2.same i (by omega) h2]
        exact ((Ext.dr wb).tr xc).heap hi
    · rintro F us x wa ⟨s', hF, hk, hxx, hm, hs', hz, hp⟩ hD
      refine ⟨hD, fun wb hrec => ?_⟩
      rw [hlen] at hk hxx
      rw [rowsC_all h.len] at hk
      rw [← boxN_all] at hxx
      have hmr := Mod.of_rec hrec
      refine ⟨by rw [hxx], s', ?_, ?_, fun i hi => ?_⟩
      · refine hk.keep hmr (by omega) fun i hi => ?_
        rcases hs' i hi with h2 | h2
        · have h3 := (h.own.own.lt h2).2; omega
        · omega
      · exact hm.tr hmr fun i hi => .inr (by omega)
      · rcases hs' i hi with h2 | h2
        · exact .inl h2
        · exact .inr (by omega)
end Go.Proofs.YtfipllblcnahdaaDoor
