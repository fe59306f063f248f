import Derived.Test.YtfipllblcnahdaaDoorKA
import Derived.Test.YtfipllblcnahdaaDoorP
set_option linter.all false
namespace Go.Proofs.YtfipllblcnahdaaDoor
open Go Go.Vc Go.RowKit Go.Proofs Go.Chk Go.Runs

set_option maxRecDepth 100000 in
theorem Top_spec {w : World} {g : Nat} {s : Sl} {p : Po} {C : List Int} (h : KIs w g s p C) (x z : Int) : Calls Tryd.prog n_chunk_Chunk_Top #[.pointer (some ⟨g, 0, none⟩), .int .i64 x, .int .i64 z] w fun e w' => e = .returned (.int .i64 (topTo C (col x z) 8192)) ∧ Ext w w' := by
  apply chunk_Chunk_Top.vc
  refine (cMod_spec z 16 (by decide) (by decide) w).mono ?_
  rintro e w0 ⟨rfl, rfl⟩
  refine ⟨_, rfl, (cMod_spec x 16 (by decide) (by decide) w0).mono ?_⟩
  rintro e w0 ⟨rfl, rfl⟩
  refine ⟨_, rfl, ?_⟩
  have hw1 : IntKind.wrap .i64 (z % 16 * 16) = z % 16 * 16 := wrap_in (by unfold inI; omega)
  have hw2 : IntKind.wrap .i64 (z % 16 * 16 + x % 16) = col x z := wrap_in (by unfold inI; omega)
  rw [hw1, hw2]
  intro w4 e4 w5 e5 w6 e6 w7 e7
  have z4 : w4.heap.size = w0.heap.size + 1 := by rw [e4]; simp
  have z5 : w5.heap.size = w0.heap.size + 1 := by rw [e5, setRow_size, z4]
  have z6 : w6.heap.size = w0.heap.size + 2 := by rw [e6]; simp [z5]
  have z7 : w7.heap.size = w0.heap.size + 2 := by rw [e7, setRow_size, z6]
  have x5 : Ext w0 w5 := ((Ext.rfl' w0).of_alloc e4).of_setRow e5 (Nat.le_refl _)
  have x7 : Ext w0 w7 := (x5.of_alloc e6).of_setRow e7 (by omega)
  have h7 := h.ext x7
  refine ⟨s, h7.row.at 2 rfl, (runs_All_spec s w7).mono ?_⟩
  rintro e w9 ⟨rfl, hb9, x9⟩
  have z9 := x9.size
  have xx := x7.tr x9
  have hs9 : RdR w9 s (ofC C) := OwR.rdr (h7.ext x9).own
  obtain ⟨q1, q2, q3⟩ := cells_pos h.len
  have hlt9 := hb9.lt
  refine ⟨_, rfl, x9.heap (by omega), x9.heap (by omega), ?_⟩
  have hRd : ∀ i, allRd w7.heap.size s (ofC C) i → i < w9.heap.size ∧ i ≠ w0.heap.size ∧ i ≠ w5.heap.size := fun i hi => by
    rcases hi with h1 | ⟨h1, h2⟩
    · subst h1; omega
    · have := (h.own.own.lt h2).2
      omega
  refine ⟨allX (ofC C), allRd w7.heap.size s (ofC C), fun _ => False, fun n F top w' => (∀ i, ¬ F i) ∧ top = topTo C (col x z) n ∧ Ext w0 w', fun _ _ _ _ => False,
    allX_shape _, ?_, fun _ _ _ _ _ hh => hh.elim, ?_, fun _ _ _ _ hh => hh.elim, fun i hi => ⟨(hRd i hi).1, id, (hRd i hi).2.1, (hRd i hi).2.2, trivial⟩, ?_, ?_, ?_, trivial⟩
  · rintro n F t wa wb ⟨hF, ht, hx⟩ hbl _
    exact ⟨hF, ht, hx.trans (Below.mono hbl (by omega))⟩
  · rintro n F t wa ⟨hF, ht, hx⟩ i hi
    exact absurd hi (hF i)
  · intro wa hbeg
    have hbel : Below w9.heap.size w9 wa := hbeg.ext
    exact ⟨runs_All_iter s (ofC C) w7.heap.size wa (RdK.ext hs9 hbel) (hb9.ext hbel) q3 q1 q2, rfl, fun _ hf => hf, rfl, xx.trans (Below.mono hbel (by omega))⟩
  · rintro n F us top a b wa hx hI
    obtain ⟨rfl, hy⟩ := allX_inv hx
    rw [cells_ofC] at hy
    have hn : n < 8192 := by have := (List.getElem?_eq_some_iff.1 hy).1; rw [h.len] at this; exact this
    have hgd : C.getD n 0 = b := by rw [List.getD_eq_getElem?_getD, hy]; rfl
    refine ⟨Below.refl _ _, fun wb hrec hI2 => ?_⟩
    obtain ⟨hF, ht, hxw⟩ := hI2
    have t1 : Int.tmod ((n : Nat) : Int) 256 = (n : Int) % 256 := Int.tmod_eq_emod_of_nonneg (by omega)
    have t2 : IntKind.wrap .i64 (Int.tdiv ((n : Nat) : Int) 256) = (n : Int) / 256 := by rw [Int.tdiv_eq_ediv_of_nonneg (by omega), wrap_in (by unfold inI; omega)]
    rw [t1, t2]
    refine Br.mk (fun hb => Br.mk (fun hc => ?_) (fun hc => ?_)) (fun hb => ?_)
    · intro wc hwc
      have hne : b ≠ 0 := by simpa using hb
      have hce : (n : Int) % 256 = col x z := by simpa using hc
      refine ⟨fun _ => False, ⟨rfl, fun _ hf => hf, ?_, hxw.of_setRow hwc (by omega)⟩, ⟨?_, by rw [hwc, setRow_size]; exact Nat.le_refl _, ?_⟩⟩
      · unfold topTo; rw [if_pos ⟨by rw [hgd]; exact hne, hce⟩]
      · rintro i (hi | hi)
        · exact hi.elim
        · exact .inl (.inr hi)
      · intro i hi hni
        rw [hwc]
        exact setRow_other _ _ _ _ (fun e => hni (.inr (by simp [e])))
    · have hce : (n : Int) % 256 ≠ col x z := by simpa using hc
      refine ⟨F, ⟨rfl, hF, ?_, hxw⟩, ⟨fun i hi => .inl hi, Nat.le_refl _, fun _ _ _ => rfl⟩⟩
      unfold topTo; rw [if_neg (fun hh => hce hh.2)]; exact ht
    · have hne : b = 0 := by simpa using hb
      refine ⟨F, ⟨rfl, hF, ?_, hxw⟩, ⟨fun i hi => .inl hi, Nat.le_refl _, fun _ _ _ => rfl⟩⟩
      unfold topTo; rw [if_neg (fun hh => hh.1 (by rw [hgd]; exact hne))]; exact ht
  · rintro F us top wa ⟨hF, ht, hxw⟩ hD
    refine ⟨hD, fun wb hrec => ?_⟩
    rw [allX_len, cells_ofC, h.len] at ht
    exact ⟨by rw [ht], hxw.trans (Below.mono (hrec.below (Nat.le_refl _)) (by omega))⟩
end Go.Proofs.YtfipllblcnahdaaDoor
namespace Go.Proofs.YtfipllblcnahdaaDoor
open Go Go.Vc Go.RowKit Go.Proofs Go.Chk Go.Runs

theorem okP0 : okP (0, 0) := by unfold okP; decide
theorem okC31 : okC (0, 31, 0) := by unfold okC inI; decide
theorem Turn_k {w0 w w' : World} {g : Nat} (hm : Mod (fun i => i = g) w w') (x : Ext w0 w) (hg : w0.heap.size ≤ g) : Ext w0 w' := hm.ext x fun i hi => by rw [hi]; exact hg
theorem lives11_spec (w : World) : Calls Tryd.prog n_law11_lives #[] w fun e w' => e = .returned (.bool true) ∧ Ext w w' := by
  apply law11_lives.vc
  refine (Make_spec 0 (0, 0) okP0 w).mono ?_
  rintro e w0 ⟨g, s, rfl, h0, x0, hg⟩
  refine ⟨_, rfl, Br.mk (fun h => by cases h) (fun _ => ?_)⟩
  refine (Set_spec h0 (0, 31, 0) okC31 5).mono ?_
  rintro e w2 ⟨rfl, s2, h2, m2, f2⟩
  have x2 := Turn_k m2 x0 hg
  have hin : inK (0, 0) (0, 31, 0) = true := by decide
  have hm5 : bMay 5 = true := by decide +kernel
  have hk : kSet (0, 0) (made 0 (0, 0)) (0, 31, 0) 5 = ((made 0 (0, 0)).set 7936 5, 0) := by
    unfold kSet
    rw [if_neg (by rw [hin]; decide), if_neg (by rw [hm5]; decide)]
    rfl
  rw [hk] at h2 ⊢
  refine ⟨_, rfl, Br.mk (fun _ => ?_) (fun h => by cases h)⟩
  refine (Top_spec h2 0 0).mono ?_
  rintro e w4 ⟨rfl, x4⟩
  have ht : topTo ((made 0 (0, 0)).set 7936 5) (col 0 0) 8192 = 31 := by
    rw [topTo_at (m := 7936) (by decide) (by decide)]
    · rfl
    · rw [List.getD_eq_getElem?_getD, List.getElem?_set_self (by rw [made_len]; decide)]; decide
    · intro k h1 h2 h3
      have : col 0 0 = 0 := by decide
      omega
  rw [ht]
  exact ⟨_, rfl, rfl, x2.tr x4⟩
end Go.Proofs.YtfipllblcnahdaaDoor
namespace Go.Proofs.YtfipllblcnahdaaDoor
open Go Go.Vc Go.RowKit Go.Proofs Go.Chk Go.Runs

theorem Same_spec {w : World} {g g' : Nat} {s s' : Sl} {p p' : Po} {C C' : List Int} (h : KIs w g s p C) (h' : KIs w g' s' p' C') : Calls Tryd.prog n_chunk_Chunk_Same #[.pointer (some ⟨g, 0, none⟩), .pointer (some ⟨g', 0, none⟩)] w fun e w' => e = .returned (.bool (decide (p = p' ∧ C = C'))) ∧ Ext w w' := by
  apply chunk_Chunk_Same.vc
  have h1 := h.ext (Ext.dr w)
  have h2 := h'.ext (Ext.dr w)
  have pp : ∀ {w : World} {g : Nat} {s : Sl} {p : Po} {C : List Int}, KIs w g s p C → LoadL w (padd (padd (some ⟨g, 0, none⟩) 0) 0) 0 [.int .i64 p.1, .int .i64 p.2] := fun h => by rw [padd_padd]; exact h.pos
  refine ⟨p.1, p.2, pp h1, p'.1, p'.2, pp h2, Br.mk (fun hb => ?_) (fun hb => ?_)⟩
  · simp only [Bool.and_eq_true, beq_iff_eq] at hb
    have hpe : p = p' := Prod.ext hb.1 hb.2
    refine ⟨s, h1.row.at 2 rfl, s', h2.row.at 2 rfl, (Equal_spec (OwR.rdr h1.own) (OwR.rdr h2.own) (cells_pos h.len).2.2).mono ?_⟩
    rintro e w6 ⟨rfl, x6⟩
    refine ⟨_, rfl, pp (h2.ext x6), pp (h1.ext x6), ?_, (Ext.dr w).tr x6⟩
    have : (ofC C = ofC C') ↔ (p = p' ∧ C = C') := ⟨fun e => ⟨hpe, by rw [← cells_ofC C, e, cells_ofC]⟩, fun e => by rw [e.2]⟩
    rw [decide_eq_decide.2 this]
  · have hne : ¬ (p = p' ∧ C = C') := by
      rintro ⟨rfl, -⟩
      simp at hb
    exact ⟨by rw [decide_eq_false hne], Ext.dr w⟩
theorem Clone_spec {w : World} {g : Nat} {s : Sl} {p : Po} {C : List Int} (h : KIs w g s p C) : Calls Tryd.prog n_chunk_Chunk_Clone #[.pointer (some ⟨g, 0, none⟩)] w fun e w' => ∃ g' s', e = .returned (.pointer (some ⟨g', 0, none⟩)) ∧ KIs w' g' s' p C ∧ Ext w w' ∧ w.heap.size ≤ g' := by
  apply chunk_Chunk_Clone.vc
  have h1 := h.ext (Ext.dr w)
  refine ⟨p.1, p.2, h1.pos, s, h1.row.at 2 rfl, (clone_spec s (ofC C) w.drew (OwR.rdr h1.own) (cells_pos h.len).2.2).mono ?_⟩
  rintro e w3 ⟨s4, rfl, ho, x3⟩
  refine ⟨s4, rfl, (h1.ext x3).pos, fun w5 e5 => ?_⟩
  have x5 : Ext w3 w5 := (Ext.rfl' _).of_alloc e5
  have z3 : w.heap.size ≤ w3.heap.size := x3.size
  exact ⟨_, s4, rfl, ⟨by rw [e5]; exact Row.new w3 [_, _, _] _, (OwnK.low ho (Nat.zero_le _)).ext x5, h.len, h.may⟩, ((Ext.dr w).tr x3).tr x5, z3⟩
/-- The document's chunk: a place, and runs. -/
abbrev kv (p : Po) (s : Sl) : Value := .agg #[.int .i64 p.1, .int .i64 p.2, .slice s.a s.n s.c]
abbrev tK : TypeId := 38
theorem rIndex_spec (p : Po) (s : Sl) (c : Ce) (hc : okC c) (w : World) : Calls Tryd.prog n_ref11_Index #[kv p s, cev c] w fun e w' => e = .returned (.int .i64 (if inK p c then idx c else -1)) ∧ Ext w w' := by
  apply ref11_Index.vc
  intro w0 e0 w1 e1
  have z0 : w0.heap.size = w.heap.size + 1 := by rw [e0]; simp
  have z1 : w1.heap.size = w.heap.size + 2 := by rw [e1]; simp [z0]
  have x1 : Ext w w1 := ((Ext.rfl' w).of_alloc e0).of_alloc e1
  have hb : Row w1 w.heap.size [.int .i64 p.1, .int .i64 p.2, .slice s.a s.n s.c] tK := (by rw [e0]; exact Row.new w [_, _, _] _ : Row w0 w.heap.size [.int .i64 p.1, .int .i64 p.2, .slice s.a s.n s.c] tK).ext ((Ext.rfl' _).of_alloc e1)
  refine (rIndex3_spec c w1).mono ?_
  rintro e w2 ⟨⟨i, b, rfl, hi⟩, x2⟩
  have z2 := x2.size
  refine ⟨i, b, rfl, x2.heap (by omega), x2.heap (by omega), Br.mk (fun hbb => ?_) (fun hbb => ?_)⟩
  · rcases hi with ⟨h, -⟩ | ⟨-, hy, -⟩
    · rw [h] at hbb; cases hbb
    · have : inK p c = false := by
        cases hk : inK p c with
        | false => rfl
        | true => exact absurd ((inK_iff p c).1 hk).1 hy
      rw [this]
      exact ⟨rfl, (x1.tr x2).drew⟩
  · rcases hi with ⟨-, hy, rfl⟩ | ⟨h, -⟩
    · refine (rChunk3_spec c hc w2.drew).mono ?_
      rintro e w5 ⟨rfl, x5⟩
      have xx : Ext w w5 := (x1.tr x2).tr ((Ext.dr _).tr x5)
      have hb5 := (hb.ext x2).ext (Ext.dr _) |>.ext x5
      refine ⟨_, _, rfl, x5.heap (show w.heap.size < w2.heap.size by omega), x5.heap (show w0.heap.size < w2.heap.size by omega), hb5.loadL (fun j hj => by
        simp at hj
        rcases j with _ | _ | j
        · rfl
        · rfl
        · omega), Br.mk (fun hq => ?_) (fun hq => ?_)⟩
      · have : inK p c = false := by
          cases hk : inK p c with
          | false => rfl
          | true =>
            have he := ((inK_iff p c).1 hk).2
            rw [← he] at hq
            simp at hq
        rw [this]; exact ⟨rfl, xx⟩
      · have : inK p c = true := by
          refine (inK_iff p c).2 ⟨hy, ?_⟩
          simp only [Bool.not_eq_false', Bool.and_eq_true, beq_iff_eq] at hq
          exact Prod.ext hq.1 hq.2
        rw [this]; exact ⟨rfl, xx⟩
    · rw [h] at hbb; cases hbb
end Go.Proofs.YtfipllblcnahdaaDoor
namespace Go.Proofs.YtfipllblcnahdaaDoor
open Go Go.Vc Go.RowKit Go.Proofs Go.Chk Go.Runs

def nearK (p : Po) (c : Ce) : Ce := (p.1 * 16 + (c.1 % 20 - 2), c.2.1 % 34 - 1, p.2 * 16 + (c.2.2 % 20 - 2))
theorem near_ok {p : Po} (hp : okP p) (c : Ce) : okC (nearK p c) := by
  obtain ⟨⟨p1, p2⟩, p3, p4⟩ := hp
  unfold okC nearK inI
  simp only
  omega
theorem Near_spec (p : Po) (hp : okP p) (c : Ce) (w : World) : Calls Tryd.prog n_ref11_Near #[pv p, cev c] w fun e w' => e = .returned (cev (nearK p c)) ∧ Ext w w' := by
  apply ref11_Near.vc
  obtain ⟨⟨p1, p2⟩, p3, p4⟩ := hp
  intro w0 e0 w1 e1 w2 e2
  have z0 : w0.heap.size = w.heap.size + 1 := by rw [e0]; simp
  have z1 : w1.heap.size = w.heap.size + 2 := by rw [e1]; simp [z0]
  have x2 : Ext w w2 := (((Ext.rfl' w).of_alloc e0).of_alloc e1).of_alloc e2
  have hb : Row w2 w.heap.size [.int .i64 p.1, .int .i64 p.2] tPo := ((by rw [e0]; exact Row.new w [_, _] _ : Row w0 w.heap.size [.int .i64 p.1, .int .i64 p.2] tPo).ext ((Ext.rfl' _).of_alloc e1)).ext ((Ext.rfl' _).of_alloc e2)
  refine (rMod_spec c.1 20 (by decide) (by decide) w2).mono ?_
  rintro e w3 ⟨rfl, rfl⟩
  refine ⟨_, rfl, rfl, rfl, rfl, (rMod_spec c.2.2 20 (by decide) (by decide) _).mono ?_⟩
  rintro e w3 ⟨rfl, rfl⟩
  refine ⟨_, rfl, rfl, rfl, rfl, (rMod_spec c.2.1 34 (by decide) (by decide) _).mono ?_⟩
  rintro e w3 ⟨rfl, rfl⟩
  have hbd := hb.ext (Ext.dr _)
  refine ⟨_, rfl, rfl, rfl, rfl, hbd.loadL (fun j hj => by simp at hj; subst hj; rfl), hbd.loadL (fun j hj => by simp at hj; subst hj; rfl), fun w9 e9 => ⟨?_, x2.drew.of_setRow e9 (by omega)⟩⟩
  have e1 : IntKind.wrap .i64 (p.1 * 16) = p.1 * 16 := wrap_in (by unfold inI; omega)
  have e2 : IntKind.wrap .i64 (p.2 * 16) = p.2 * 16 := wrap_in (by unfold inI; omega)
  have e3 : IntKind.wrap .i64 (c.1 % 20 - 2) = c.1 % 20 - 2 := wrap_in (by unfold inI; omega)
  have e4 : IntKind.wrap .i64 (c.2.2 % 20 - 2) = c.2.2 % 20 - 2 := wrap_in (by unfold inI; omega)
  have e5 : IntKind.wrap .i64 (c.2.1 % 34 - 1) = c.2.1 % 34 - 1 := wrap_in (by unfold inI; omega)
  have e6 : IntKind.wrap .i64 (p.1 * 16 + (c.1 % 20 - 2)) = p.1 * 16 + (c.1 % 20 - 2) := wrap_in (by unfold inI; omega)
  have e7 : IntKind.wrap .i64 (p.2 * 16 + (c.2.2 % 20 - 2)) = p.2 * 16 + (c.2.2 % 20 - 2) := wrap_in (by unfold inI; omega)
  rw [e1, e2, e3, e4, e5, e6, e7]
  rfl
def placeK (p : Po) : Po := (around p.1 19 - 9, around p.2 19 - 9)
theorem place_ok (p : Po) : okP (placeK p) := by
  have h1 := around_bd p.1 19 (by decide)
  have h2 := around_bd p.2 19 (by decide)
  unfold okP placeK
  simp only
  omega
theorem place_spec (p : Po) (hp : inI p.1 ∧ inI p.2) (w : World) : Calls Tryd.prog n_law11_place #[pv p] w fun e w' => e = .returned (pv (placeK p)) ∧ Ext w w' := by
  apply law11_place.vc
  have h1 := around_bd p.1 19 (by decide)
  have h2 := around_bd p.2 19 (by decide)
  intro w0 e0 w1 e1
  have z0 : w0.heap.size = w.heap.size + 1 := by rw [e0]; simp
  have x1 : Ext w w1.drew := (((Ext.rfl' w).of_alloc e0).of_alloc e1).drew
  have hb : Row w1.drew w.heap.size [.int .i64 p.1, .int .i64 p.2] tPo := ((by rw [e0]; exact Row.new w [_, _] _ : Row w0 w.heap.size [.int .i64 p.1, .int .i64 p.2] tPo).ext ((Ext.rfl' _).of_alloc e1)).ext (Ext.dr _)
  refine (around_spec p.1 19 w1.drew hp.1 (by decide) (by unfold inI; omega)).mono ?_
  rintro e w2 ⟨rfl, rfl⟩
  refine ⟨_, rfl, rfl, rfl, hb.loadL (fun j hj => by simp at hj; subst hj; rfl), (around_spec p.2 19 w1.drew hp.2 (by decide) (by unfold inI; omega)).mono ?_⟩
  rintro e w2 ⟨rfl, rfl⟩
  refine ⟨_, rfl, rfl, rfl, fun w6 e6 => ⟨?_, x1.of_setRow e6 (by omega)⟩⟩
  have q1 : IntKind.wrap .i64 (around p.1 19 - 9) = around p.1 19 - 9 := wrap_in (by unfold inI; omega)
  have q2 : IntKind.wrap .i64 (around p.2 19 - 9) = around p.2 19 - 9 := wrap_in (by unfold inI; omega)
  rw [q1, q2]
  rfl
end Go.Proofs.YtfipllblcnahdaaDoor
namespace Go.Proofs.YtfipllblcnahdaaDoor
open Go Go.Vc Go.RowKit Go.Proofs Go.Chk Go.Runs

theorem rMake_spec (seed : Int) (p : Po) (hp : okP p) (w : World) : Calls Tryd.prog n_ref11_Make #[.int .i64 seed, pv p] w fun e w' => ∃ s, e = .returned (kv p s) ∧ OwR w.heap.size w' s (ofC (made seed p)) ∧ Ext w w' := by
  apply ref11_Make.vc
  intro w0 e0 w1 e1
  have z0 : w0.heap.size = w.heap.size + 1 := by rw [e0]; simp
  have z1 : w1.heap.size = w.heap.size + 2 := by rw [e1]; simp [z0]
  have x1 : Ext w w1.drew := (((Ext.rfl' w).of_alloc e0).of_alloc e1).drew
  have hb : Row w1.drew w.heap.size [.int .i64 p.1, .int .i64 p.2] tPo := ((by rw [e0]; exact Row.new w [_, _] _ : Row w0 w.heap.size [.int .i64 p.1, .int .i64 p.2] tPo).ext ((Ext.rfl' _).of_alloc e1)).ext (Ext.dr _)
  refine (rChunk10_spec seed p hp w1.drew).mono ?_
  rintro e w2 ⟨s, rfl, ho, x2⟩
  have zd : w1.drew.heap.size = w1.heap.size := rfl
  refine ⟨s, rfl, x2.heap (by omega), x2.heap (by omega), (hb.ext x2).loadL (fun j hj => by rw [Nat.zero_add]), fun w4 e4 => ?_⟩
  refine ⟨s, rfl, ?_, (x1.tr x2).of_setRow e4 (by omega)⟩
  have := OwnK.keep ho (w' := w4) fun b hb => by rw [e4]; exact setRow_other _ _ _ _ (by have := (ho.own.lt hb).1; omega)
  exact OwnK.low this (by omega)
theorem rSet_spec {w : World} {s : Sl} {p : Po} {C : List Int} (ho : OwR 0 w s (ofC C)) (hl : C.length = 8192) (c : Ce) (hc : okC c) (b : Int) :
    Calls Tryd.prog n_ref11_Set #[kv p s, cev c, .int .i64 b] w fun e w' => (∃ s', e = .returned (.tuple #[kv p s', .int .i64 (kSet p C c b).2]) ∧ OwR 0 w' s' (ofC (kSet p C c b).1)) ∧ Ext w w' := by
  apply ref11_Set.vc
  intro w0 e0 w1 e1 w2 e2
  have z0 : w0.heap.size = w.heap.size + 1 := by rw [e0]; simp
  have z1 : w1.heap.size = w.heap.size + 2 := by rw [e1]; simp [z0]
  have z2 : w2.heap.size = w.heap.size + 3 := by rw [e2]; simp [z1]
  have x2 : Ext w w2 := (((Ext.rfl' w).of_alloc e0).of_alloc e1).of_alloc e2
  refine (rIndex_spec p s c hc w2).mono ?_
  rintro e w3 ⟨rfl, x3⟩
  have z3 := x3.size
  have x03 := x2.tr x3
  refine ⟨_, rfl, x3.heap (by omega), x3.heap (by omega), x3.heap (by omega), ?_⟩
  cases hk : inK p c with
  | false =>
    have e : kSet p C c b = (C, 5) := by unfold kSet; rw [if_pos hk]
    rw [e]
    refine Br.mk (fun _ => fun w5 e5 => ?_) (fun h => by simp at h)
    have x5 := x03.of_setRow e5 (by omega)
    exact ⟨⟨s, rfl, OwnK.ext ho x5⟩, x5⟩
  | true =>
    have hidx := idx_in ((inK_iff p c).1 hk).1
    refine Br.mk (fun h => by simp at h; omega) (fun _ => ?_)
    refine (ref04_May_spec b w3).mono ?_
    rintro e w6 ⟨rfl, e6⟩
    have x6 : Ext w3 w6 := by rw [e6]; exact Ext.rfl' _
    clear e6
    have z6 := x6.size
    refine ⟨_, rfl, x6.heap (by omega), x6.heap (by omega), x6.heap (by omega), Br.mk (fun hb2 => ?_) (fun hb2 => ?_)⟩
    · have hf : bMay b = false := by simpa using hb2
      have e : kSet p C c b = (C, 1) := by unfold kSet; rw [if_neg (by simp [hk]), if_pos hf]
      rw [e]
      intro w8 e8
      have x8 := (x03.tr x6).of_setRow e8 (by omega)
      exact ⟨⟨s, rfl, OwnK.ext ho x8⟩, x8⟩
    · have hm : bMay b = true := by simpa using hb2
      have e : kSet p C c b = (C.set (idx c).toNat b, 0) := by unfold kSet; rw [if_neg (by simp [hk]), if_neg (by simp [hm])]
      have h6 : OwR 0 w6 s (ofC C) := OwnK.ext ho (x03.tr x6)
      rw [e]
      refine (ref05_Set_spec s C (idx c) b w6 (OwR.rdr h6) (by rw [hl]; decide)).mono ?_
      rintro e9 w9 ⟨s10, rfl, ho9, x9⟩
      have hs : setC C (idx c) b = C.set (idx c).toNat b := by unfold setC; rw [if_pos ⟨hm, hidx.1, by rw [hl]; omega⟩]
      rw [hs] at ho9
      refine ⟨s10, rfl, x9.heap (by omega), x9.heap (by omega), x9.heap (by omega), fun w11 e11 w12 e12 => ?_⟩
      have x12 := (((x03.tr x6).tr x9).of_setRow e11 (Nat.le_refl _)).of_setRow e12 (by omega)
      have hlow := fun b (hb : s10.blk = some b) => (ho9.own.lt hb).1
      refine ⟨⟨s10, rfl, OwnK.low (OwnK.keep ho9 fun b hb => ?_) (Nat.zero_le _)⟩, x12⟩
      have := hlow b hb
      rw [e12, setRow_other _ _ _ _ (by omega), e11, setRow_other _ _ _ _ (by omega)]
end Go.Proofs.YtfipllblcnahdaaDoor
namespace Go.Proofs.YtfipllblcnahdaaDoor
open Go Go.Vc Go.RowKit Go.Proofs Go.Chk Go.Runs

def rkAt (p : Po) (C : List Int) (c : Ce) : Int := if inK p c then atC C (idx c) else -1
theorem rAt_spec {w : World} {s : Sl} {p : Po} {C : List Int} (hs : RdR w s (ofC C)) (hl : C.length = 8192) (c : Ce) (hc : okC c) :
    Calls Tryd.prog n_ref11_At #[kv p s, cev c] w fun e w' => e = .returned (.int .i64 (rkAt p C c)) ∧ Ext w w' := by
  apply ref11_At.vc
  obtain ⟨q1, q2, q3⟩ := cells_pos hl
  have hn := RdR.len hs
  intro w0 e0 w1 e1
  have z0 : w0.heap.size = w.heap.size + 1 := by rw [e0]; simp
  have z1 : w1.heap.size = w.heap.size + 2 := by rw [e1]; simp [z0]
  have x1 : Ext w w1 := ((Ext.rfl' w).of_alloc e0).of_alloc e1
  refine (rIndex_spec p s c hc w1).mono ?_
  rintro e w2 ⟨rfl, x2⟩
  have x02 := x1.tr x2
  refine ⟨_, rfl, x2.heap (by omega), x2.heap (by omega), ?_⟩
  unfold rkAt
  cases hk : inK p c with
  | false => exact Br.mk (fun _ => ⟨rfl, x02⟩) (fun h => by simp at h)
  | true =>
    have hidx := idx_in ((inK_iff p c).1 hk).1
    have hs2 : RdR w2 s (ofC C) := RdK.ext hs x02
    simp only [if_true]
    generalize hii : idx c = ii at hidx
    refine Br.mk (fun h => by simp at h; omega) (fun _ => ?_)
    unfold Bd at q3
    have hsum : sumR (ofC C) = 8192 := by rw [sumR_ofC, hl]; rfl
    refine ⟨fun n r t wr => w2 = wr ∧ ∃ k : Nat, r = k ∧ k + n = (ofC C).length ∧ t = sumR ((ofC C).take k) ∧ t ≤ ii, ⟨(ofC C).length, trivial, trivial, rfl, 0, rfl, by omega, rfl, hidx.1⟩, ?_⟩
    rintro n us r t wr ⟨rfl, k, rfl, hkn, rfl, hle⟩
    refine Br.mk (fun hc2 => ?_) (fun hc2 => ?_)
    · simp only [decide_eq_true_eq] at hc2
      obtain ⟨rr, hr⟩ := get_lt (l := ofC C) (i := k) (by omega)
      have hw1 := sumR_take_succ hr
      have hle1 := sumR_take_le q1 (k + 1)
      have hle0 := sumR_take_le q1 k
      have hso := RdR.some hs2 (i := k) (by omega)
      have hin := RdR.inB hs2 (i := k) (by omega)
      have hrr := q1 rr (List.mem_of_getElem? hr)
      refine ⟨hin, AndL_iff.2 ⟨nnC_iff.2 hso, rr.1, RdR.c0 hs2 (i := k) hr, ?_⟩⟩
      have e1 := wrap_in (n := sumR ((ofC C).take k) + rr.1) (by unfold inI; omega)
      have e2 := wrap_in (n := (k : Int) + 1) (by unfold inI; omega)
      rw [e1, e2]
      refine Br.mk (fun hb => ?_) (fun hb => ?_)
      · simp only [decide_eq_true_eq] at hb
        refine ⟨hin, AndL_iff.2 ⟨nnC_iff.2 hso, rr.2, RdR.c1 hs2 (i := k) hr, ?_, x02⟩⟩
        have hlen : ((cellsR ((ofC C).take k)).length : Int) = sumR ((ofC C).take k) := (sumR_cells fun q hq => q1 q (List.mem_of_mem_take hq)).symm
        have hcell := cells_at hr (j := (ii - sumR ((ofC C).take k)).toNat) (by omega)
        rw [cells_ofC, show (cellsR ((ofC C).take k)).length + (ii - sumR ((ofC C).take k)).toNat = ii.toNat by omega] at hcell
        have : atC C ii = rr.2 := by
          unfold atC
          rw [if_neg (by omega), List.getD_eq_getElem?_getD, hcell]; rfl
        rw [this]
      · simp only [decide_eq_false_iff_not] at hb
        exact ⟨n - 1, by omega, trivial, trivial, rfl, k + 1, by omega, by omega, hw1.symm, by omega⟩
    · simp only [decide_eq_false_iff_not] at hc2
      have : k = (ofC C).length := by omega
      subst this
      rw [List.take_length, hsum] at hle
      omega
end Go.Proofs.YtfipllblcnahdaaDoor
