import Derived.Test.YtfipllblcnahdaaDoorKJ
import Derived.Test.YtfipllblcnahdaaDoorQPL
set_option linter.all false
namespace Go.Proofs.YtfipllblcnahdaaDoor
open Go Go.Vc Go.RowKit Go.Proofs Go.Chk Go.Runs

set_option maxRecDepth 100000 in
theorem Top_spec {w : World} {g : Nat} {s : Sl} {p : Po} {C : List Int} (h : KIs w g s p C) (x z : Int) : Calls Tryd.prog n_chunk_Chunk_Top #[.pointer (some ⟨g, 0, none⟩), .int .i64 x, .int .i64 z] w fun e w' => e = .returned (.int .i64 (topTo C (col x z) 8192)) ∧ Ext w w' := by
  apply chunk_Chunk_Top.vc
  refine (cMod_spec z 16 (by decide) (by decide) w).mono ?_
  rintro e w0 ⟨rfl, rfl⟩
  refine ⟨_, rfl, (cMod_spec x 16 (by decide) (by decide) w0).mono ?_⟩
  rintro e w0 ⟨rfl, rfl⟩
  refine ⟨_, rfl, ?_⟩
  have hw1 : IntKind.wrap .i64 (z % 16 * 16) = z % 16 * 16 := wrap_in (by unfold inI; omega)
  have hw2 : IntKind.wrap .i64 (z % 16 * 16 + x % 16) = col x z := wrap_in (by unfold inI; omega)
  rw [hw1, hw2]
  intro w4 e4 w5 e5 w6 e6 w7 e7
  have z4 : w4.heap.size = w0.heap.size + 1 := by rw [e4]; simp
  have z5 : w5.heap.size = w0.heap.size + 1 := by rw [e5, setRow_size, z4]
  have z6 : w6.heap.size = w0.heap.size + 2 := by rw [e6]; simp [z5]
  have z7 : w7.heap.size = w0.heap.size + 2 := by rw [e7, setRow_size, z6]
  have x5 : Ext w0 w5 := ((Ext.rfl' w0).of_alloc e4).of_setRow e5 (Nat.le_refl _)
  have x7 : Ext w0 w7 := (x5.of_alloc e6).of_setRow e7 (by omega)
  have h7 := h.ext x7
  refine ⟨s, h7.row.at 2 rfl, (runs_All_spec s w7).mono ?_⟩
  rintro e w9 ⟨rfl, hb9, x9⟩
  have z9 := x9.size
  have xx := x7.tr x9
  have hs9 : RdR w9 s (ofC C) := OwR.rdr (h7.ext x9).own
  obtain ⟨q1, q2, q3⟩ := cells_pos h.len
  have hlt9 := hb9.lt
  refine ⟨_, rfl, x9.heap (by omega), x9.heap (by omega), ?_⟩
  have hRd : ∀ i, allRd w7.heap.size s (ofC C) i → i < w9.heap.size ∧ i ≠ w0.heap.size ∧ i ≠ w5.heap.size := fun i hi => by
    rcases hi with h1 | ⟨h1, h2⟩
    · subst h1; omega
    · have := (h.own.own.lt h2).2
      omega
  refine ⟨allX (ofC C), allRd w7.heap.size s (ofC C), fun _ => False, fun n F top w' => (∀ i, ¬ F i) ∧ top = topTo C (col x z) n ∧ Ext w0 w', fun _ _ _ _ => False,
    allX_shape _, ?_, fun _ _ _ _ _ hh => hh.elim, ?_, fun _ _ _ _ hh => hh.elim, fun i hi => ⟨(hRd i hi).1, id, (hRd i hi).2.1, (hRd i hi).2.2, trivial⟩, ?_, ?_, ?_, trivial⟩
  · rintro n F t wa wb ⟨hF, ht, hx⟩ hbl _
    exact ⟨hF, ht, hx.trans (Below.mono hbl (by omega))⟩
  · rintro n F t wa ⟨hF, ht, hx⟩ i hi
    exact absurd hi (hF i)
  · intro wa hbeg
    have hbel : Below w9.heap.size w9 wa := hbeg.ext
    exact ⟨runs_All_iter s (ofC C) w7.heap.size wa (RdK.ext hs9 hbel) (hb9.ext hbel) q3 q1 q2, rfl, fun _ hf => hf, rfl, xx.trans (Below.mono hbel (by omega))⟩
  · rintro n F us top a b wa hx hI
    obtain ⟨rfl, hy⟩ := allX_inv hx
    rw [cells_ofC] at hy
    have hn : n < 8192 := by have := (List.getElem?_eq_some_iff.1 hy).1; rw [h.len] at this; exact this
    have hgd : C.getD n 0 = b := by rw [List.getD_eq_getElem?_getD, hy]; rfl
    refine ⟨Below.refl _ _, fun wb hrec hI2 => ?_⟩
    obtain ⟨hF, ht, hxw⟩ := hI2
    have t1 : Int.tmod ((n : Nat) : Int) 256 = (n : Int) % 256 := Int.tmod_eq_emod_of_nonneg (by omega)
    have t2 : IntKind.wrap .i64 (Int.tdiv ((n : Nat) : Int) 256) = (n : Int) / 256 := by rw [Int.tdiv_eq_ediv_of_nonneg (by omega), wrap_in (by unfold inI; omega)]
    rw [t1, t2]
    refine Br.mk (fun hb => Br.mk (fun hc => ?_) (fun hc => ?_)) (fun hb => ?_)
    · intro wc hwc
      have hne : b ≠ 0 := by simpa using hb
      have hce : (n : Int) % 256 = col x z := by simpa using hc
      refine ⟨fun _ => False, ⟨rfl, fun _ hf => hf, ?_, hxw.of_setRow hwc (by omega)⟩, ⟨?_, by rw [hwc, setRow_size]; exact Nat.le_refl _, ?_⟩⟩
      · unfold topTo; rw [if_pos ⟨by rw [hgd]; exact hne, hce⟩]
      · rintro i (hi | hi)
        · exact hi.elim
        · exact .inl (.inr hi)
      · intro i hi hni
        rw [hwc]
        exact setRow_other _ _ _ _ (fun e => hni (.inr (by simp [e])))
    · have hce : (n : Int) % 256 ≠ col x z := by simpa using hc
      refine ⟨F, ⟨rfl, hF, ?_, hxw⟩, ⟨fun i hi => .inl hi, Nat.le_refl _, fun _ _ _ => rfl⟩⟩
      unfold topTo; rw [if_neg (fun hh => hce hh.2)]; exact ht
    · have hne : b = 0 := by simpa using hb
      refine ⟨F, ⟨rfl, hF, ?_, hxw⟩, ⟨fun i hi => .inl hi, Nat.le_refl _, fun _ _ _ => rfl⟩⟩
      unfold topTo; rw [if_neg (fun hh => hh.1 (by rw [hgd]; exact hne))]; exact ht
  · rintro F us top wa ⟨hF, ht, hxw⟩ hD
    refine ⟨hD, fun wb hrec => ?_⟩
    rw [allX_len, cells_ofC, h.len] at ht
    exact ⟨by rw [ht], hxw.trans (Below.mono (hrec.below (Nat.le_refl _)) (by omega))⟩
end Go.Proofs.YtfipllblcnahdaaDoor
