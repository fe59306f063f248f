import Derived.Test.YtfipllblcnahdaaDoorKE
set_option linter.all false
namespace Go.Proofs.YtfipllblcnahdaaDoor
open Go Go.Vc Go.RowKit Go.Proofs Go.Chk Go.Runs

theorem clip_spec (s : Sl) (c : List Int) (w : World) (hs : OwC 0 w s c) : Calls Tryd.prog n_slices_Clip_int #[.slice s.a s.n s.c] w fun e w' => (∃ s' : Sl, e = .returned (.slice s'.a s'.n s'.c) ∧ RdC w s' c) ∧ w' = w := by
  apply slices_Clip_int.vc
  have hn := RdC.len hs.rdc
  have hcap : s.n ≤ s.c := by
    rcases OwnK.form hs (by decide) with ⟨h, -⟩ | ⟨g0, cs, ha, hg0, hr, hc, hnc, -⟩
    · rw [h]; exact Nat.le_refl _
    · exact hnc
  have := RdK.cut hs.rdc (m := s.n) (c' := s.n) (c'' := s.n) (by rw [List.length_map]; omega)
  rw [List.take_of_length_le (by rw [List.length_map]; omega)] at this
  exact ⟨by omega, by omega, by omega, by omega, ⟨⟨slBase s.a 0 s.n 1, s.n, s.n⟩, rfl, this⟩, rfl⟩
attribute [local irreducible] made in
set_option maxRecDepth 100000 in
theorem gChunk_spec (seed : Int) (p : Po) (hp : okP p) (w : World) : Calls Tryd.prog n_gen_Chunk #[.int .i64 seed, pv p] w fun e w' => ∃ s' : Sl, e = .returned (.slice s'.a s'.n s'.c) ∧ OwR w.heap.size w' s' (ofC (made seed p)) ∧ Ext w w' := by
  apply gen_Chunk.vc
  intro w0 e0 w1 e1
  have z0 : w0.heap.size = w.heap.size + 1 := by rw [e0]; simp
  have z1 : w1.heap.size = w.heap.size + 2 := by rw [e1]; simp [z0]
  have x01 : Ext w w1 := ((Ext.rfl' w).of_alloc e0).of_alloc e1
  refine (gen_Cells_spec seed p w1).mono ?_
  rintro e w2 ⟨rfl, hbp, hbs, x2⟩
  have hlt := hbp.lt
  have xx := x01.tr x2
  have zz := xx.size
  refine ⟨_, rfl, x2.heap (by omega), x2.heap (by omega), ?_⟩
  refine ⟨madeX seed p, genRd (w1.heap.size + 1) w1.heap.size, fun _ => False, fun n F s w' => (∀ i, F i ↔ s.blk = some i) ∧ OwC (w2.heap.size + 2) w' s ((made seed p).take n) ∧ Ext w w' ∧ w2.heap.size + 2 ≤ w'.heap.size, fun _ _ _ _ => False,
    ?_, ?_, fun _ _ _ _ _ h => h.elim, ?_, fun _ _ _ _ h => h.elim, fun i hi => ⟨by rcases hi with h | h <;> omega, id, by rcases hi with h | h <;> omega, by rcases hi with h | h <;> omega, trivial⟩, ?_, ?_, ?_, trivial⟩
  · intro x hx
    obtain ⟨b, _, rfl⟩ := List.mem_map.1 hx
    exact ⟨b, rfl⟩
  · rintro n F s w3 w4 ⟨hF, ho, hbl, hz⟩ hbl2 hsame
    exact ⟨hF, OwnK.keep ho fun i hi => hsame i ((hF i).2 hi), hbl.trans (Below.mono hbl2 zz), by have := hbl2.size; omega⟩
  · rintro n F s w3 ⟨hF, ho, hbl, hz⟩ i hi
    have := ho.own.lt ((hF i).1 hi)
    omega
  · intro w3 hbeg
    have hbel : Below w2.heap.size w2 w3 := hbeg.ext
    refine ⟨gen_Cells_iter seed p hp _ _ w3 (hbp.ext hbel) (hbs.ext hbel), rfl, ?_, ?_, xx.trans (Below.mono hbel zz), by have := hbeg.size; omega⟩
    · intro i; simp [Sl.blk]
    · rw [List.take_zero]; exact OwnK.nil
  · rintro n F us o y w3 hx hI
    have hy : (made seed p)[n]? = some y := by
      unfold madeX at hx
      rw [List.getElem?_map, Option.map_eq_some_iff] at hx
      obtain ⟨b, hb, e⟩ := hx
      have : b = y := by simpa using e
      rw [← this]; exact hb
    refine ⟨Below.refl _ _, fun w4 hrec hI3 => ?_⟩
    obtain ⟨hF, ho, hbl, hz⟩ := hI3
    intro w5 e5
    have x5 : Ext w4 w5 := (Ext.rfl' _).of_alloc e5
    have z5 : w5.heap.size = w4.heap.size + 1 := by rw [e5]; simp
    have hnl : n < 8192 := by have := (List.getElem?_eq_some_iff.1 hy).1; rw [made_len] at this; exact this
    have hon := RdC.len ho.rdc
    rw [List.length_take, made_len] at hon
    obtain ⟨hp1, hres⟩ := (OwnK.ext ho x5).append (bytes := 8) (news := iv y) (by omega) rfl (one_i _ _) (by omega) (by omega)
    refine ⟨hp1, fun s5 w6 hr => ?_⟩
    obtain ⟨ho5, hn5, xb, hkp, hblk⟩ := hres s5 w6 hr
    have hob : ∀ i, o.blk = some i → w2.heap.size + 2 ≤ i ∧ i < w4.heap.size := fun i hi => ho.own.lt hi
    have hz6 := xb.size
    refine ⟨hkp _ (fun hb => by have := hob _ hb; omega) (by omega), hkp _ (fun hb => by have := hob _ hb; omega) (by omega), hkp _ (fun hb => by have := hob _ hb; omega) (by omega), ?_⟩
    intro w7 hw7
    have e7 : ∀ i, i ≠ w0.heap.size → w7.heap[i]? = w6.heap[i]? := fun i hi => by rw [hw7]; exact setRow_other _ _ _ _ hi
    have z7 : w7.heap.size = w6.heap.size := by rw [hw7, setRow_size]
    have hb5 : ∀ i, s5.blk = some i → w2.heap.size + 2 ≤ i := fun i hi => by
      rcases hblk with h | h
      · exact (hob i (by rw [← h]; exact hi)).1
      · rw [h] at hi; simp at hi; omega
    refine ⟨fun i => s5.blk = some i, ⟨rfl, fun i => Iff.rfl, ?_, ?_, by omega⟩, ⟨?_, by omega, ?_⟩⟩
    · have e : (made seed p).take (n + 1) = (made seed p).take n ++ [y] := by rw [List.take_add_one, hy]; rfl
      rw [e]
      have h5 : OwC (w2.heap.size + 2) w6 s5 ((made seed p).take n ++ [y]) := by
        show OwnK _ _ 1 _ _ (((made seed p).take n ++ [y]).map iv)
        rw [List.map_append]; exact ho5
      exact OwnK.keep h5 fun i hi => e7 i (by have := hb5 i hi; omega)
    · have h5 : Ext w w6 := (hbl.tr x5).trans (Below.mono xb (by omega))
      rw [hw7]; exact h5.setRow (by omega) _
    · rintro i (hi | hi)
      · rcases hblk with h | h
        · exact .inl (.inl ((hF i).2 (by rw [← h]; exact hi)))
        · rw [h] at hi; simp at hi; exact .inr (by omega)
      · exact .inl (.inr hi)
    · intro i hi hni
      have h1 : i ≠ w0.heap.size := fun e => hni (.inr (by simp [e]))
      rw [e7 i h1, hkp i (fun hb => hni (.inl ((hF i).2 hb))) (by omega)]
      exact x5.heap hi
  · rintro F us o w3 ⟨hF, ho, hbl, hz⟩ hD
    rw [madeX_len, List.take_of_length_le (by rw [made_len]; exact Nat.le_refl _)] at ho
    refine (clip_spec o (made seed p) w3 (OwnK.low ho (Nat.zero_le _))).mono ?_
    rintro e w4 ⟨⟨s4, rfl, hs4⟩, rfl⟩
    refine ⟨s4, rfl, rfl, rfl, (runs_Of_spec s4 (made seed p) w4 hs4 (by rw [made_len]; decide)).mono ?_⟩
    rintro e w5 ⟨s5, rfl, ho5, x5⟩
    refine ⟨s5, rfl, x5.heap (by omega), x5.heap (by omega), (x5.heap (by omega)).trans hD, fun w6 hrec => ?_⟩
    have hz5 := x5.size
    have ho6 : OwR w.heap.size w6 s5 (ofC (made seed p)) := OwnK.low (OwnK.keep ho5 fun i hi => hrec.same i (by have := (ho5.own.lt hi).1; omega)) (by omega)
    exact ⟨s5, rfl, ho6, (hbl.tr x5).trans (Below.mono (hrec.below (Nat.le_refl _)) (by omega))⟩
end Go.Proofs.YtfipllblcnahdaaDoor
