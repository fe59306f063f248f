import Derived.Test.YtbphdgiepimmkaaDoorQGGF
set_option linter.all false
namespace Go.Proofs.YtbphdgiepimmkaaDoor
open Go Go.Vc Go.RowKit Go.Proofs Go.Runs

theorem allRd_lt {b : Nat} {s : Sl} {l : List Rn} {w : World} (hs : RdR w s l) {i : Nat} (h : allRd b s l i) : i = b ∨ i < w.heap.size := by
  rcases h with h | ⟨h1, h2⟩
  · exact .inl h
  · exact .inr (RdK.blk_lt hs (by omega) (by simpa using h1) h2)
theorem runs_Cells_spec (s : Sl) (l : List Rn) (w : World) (hs : RdR w s l) (hn : Bd l.length) (hl : ∀ r ∈ l, 0 ≤ r.1) (hsum : sumR l ≤ 1099511627776) :
    Calls Tryd.prog n_runs_Cells #[.slice s.a s.n s.c] w fun e w' => ∃ s' : Sl, e = .returned (.slice s'.a s'.n s'.c) ∧ OwC w.heap.size w' s' (cellsR l) ∧ Ext w w' := by
  have hsn := RdR.len hs
  have hcl := sumR_cells hl
  apply runs_Cells.vc
  rintro w0 rfl
  have x0 := Ext.al w (.cells #[.slice none 0 0] 32)
  have hz0 : (w.alloc (.cells #[.slice none 0 0] 32)).heap.size = w.heap.size + 1 := by simp
  have hrow0 := Row.new w [.slice none 0 0] 32
  refine (runs_All_spec s _).mono ?_
  rintro e w1 ⟨rfl, hb1, x1⟩
  rw [hz0] at hb1 ⊢
  have hlt1 := hb1.lt
  have xx := x0.tr x1
  have hs1 := hs.ext xx
  refine ⟨_, rfl, x1.heap (by omega), ?_⟩
  have hd : ∀ i, allRd (w.heap.size + 1) s l i → i < w1.heap.size ∧ i ≠ w.heap.size := fun i hi => by
    rcases allRd_lt hs hi with h | h <;> omega
  refine ⟨allX l, allRd (w.heap.size + 1) s l, fun _ => False, fun n F s w' => (∀ i, F i ↔ s.blk = some i) ∧ OwC (w1.heap.size + 2) w' s ((cellsR l).take n) ∧ Ext w w' ∧ w1.heap.size + 2 ≤ w'.heap.size, fun _ _ _ _ => False,
    allX_shape l, ?_, fun _ _ _ _ _ h => h.elim, ?_, fun _ _ _ _ h => h.elim, fun i hi => ⟨(hd i hi).1, id, (hd i hi).2, trivial⟩, ?_, ?_, ?_, trivial⟩
  · rintro n F s w3 w4 ⟨hF, ho, hbl, hz⟩ hbl2 hsame
    exact ⟨hF, OwnK.keep ho fun i hi => hsame i ((hF i).2 hi), hbl.trans (Below.mono hbl2 (by have := xx.size; omega)), by have := hbl2.size; omega⟩
  · rintro n F s w3 ⟨hF, ho, hbl, hz⟩ i hi
    have := ho.own.lt ((hF i).1 hi)
    omega
  · intro w2 hbeg
    have hbel : Below w1.heap.size w1 w2 := hbeg.ext
    refine ⟨runs_All_iter s l (w.heap.size + 1) w2 (hs1.ext hbel) (hb1.ext hbel) hn hl hsum, ?_, ?_, xx.trans (Below.mono hbel (by have := xx.size; omega)), by have := hbeg.size; omega⟩
    · intro i; simp [Sl.blk]
    · rw [List.take_zero]; exact OwnK.nil
  · rintro n F us o x y w2 hx hI
    obtain ⟨rfl, hy⟩ := allX_inv hx
    refine ⟨Below.refl _ _, fun w3 hrec hI3 => ?_⟩
    obtain ⟨hF, ho, hbl, hz⟩ := hI3
    rintro w4 rfl
    have hnl : n < (cellsR l).length := (List.getElem?_eq_some_iff.1 hy).1
    have hon := RdC.len ho.rdc
    rw [List.length_take] at hon
    obtain ⟨hp, hres⟩ := OwnK.app1 ho (bytes := 8) (news := iv y) (.cells #[.int .i64 y] tInt) hz rfl (one_i _ _) (by omega) (by omega)
    refine ⟨hp, fun s5 w5 hr => ?_⟩
    obtain ⟨k1, ho5, hn5, xb, hkp, hblk⟩ := hres s5 w5 hr
    have hob : ∀ i, o.blk = some i → w1.heap.size + 2 ≤ i := fun i hi => (ho.own.lt hi).1
    have hz5 := xb.size
    have hz3 : (w3.alloc (.cells #[.int .i64 y] tInt)).heap.size = w3.heap.size + 1 := by simp
    refine ⟨?_, k1, ?_⟩
    · rw [hkp _ (fun hb => by have := hob _ hb; omega) (by omega)]
      symm; exact (Ext.al w3 _).heap (by omega)
    rintro w6 hw6
    have e6 : ∀ i, i ≠ w.heap.size → w6.heap[i]? = w5.heap[i]? := fun i hi => by rw [hw6]; exact setRow_other _ _ _ _ hi
    have z6 : w6.heap.size = w5.heap.size := by rw [hw6, setRow_size]
    have hb5 : ∀ i, s5.blk = some i → w1.heap.size + 2 ≤ i := fun i hi => by
      rcases hblk with h | h
      · exact hob i (by rw [← h]; exact hi)
      · rw [h] at hi; simp at hi; omega
    refine ⟨fun i => s5.blk = some i, ⟨fun i => Iff.rfl, ?_, ?_, by omega⟩, ⟨?_, by omega, ?_⟩⟩
    · have e : (cellsR l).take (n + 1) = (cellsR l).take n ++ [y] := by rw [List.take_add_one, hy]; rfl
      rw [e]
      have h5 : OwC (w1.heap.size + 2) w5 s5 ((cellsR l).take n ++ [y]) := by
        show OwnK _ _ 1 _ _ (((cellsR l).take n ++ [y]).map iv)
        rw [List.map_append]; exact ho5
      exact OwnK.keep h5 fun i hi => e6 i (by have := hb5 i hi; omega)
    · have xb' := Below.mono xb (show w.heap.size ≤ w1.heap.size + 2 by have := xx.size; omega)
      have h5 : Ext w w5 := hbl.trans xb'
      rw [hw6]; exact h5.setRow (Nat.le_refl _) _
    · rintro i (hi | hi)
      · rcases hblk with h | h
        · exact .inl (.inl ((hF i).2 (by rw [← h]; exact hi)))
        · rw [h] at hi; simp at hi; exact .inr (by omega)
      · exact .inl (.inr hi)
    · intro i hi hni
      have h1 : i ≠ w.heap.size := fun e => hni (.inr (by simp [e]))
      rw [e6 i h1, hkp i (fun hb => hni (.inl ((hF i).2 hb))) hi]
  · rintro F us o w2 ⟨hF, ho, hbl, hz⟩ hD
    refine ⟨hD, fun w3 hrec => ?_⟩
    rw [allX_len, List.take_length] at ho
    have ho3 : OwC w.heap.size w3 o (cellsR l) := OwnK.low (OwnK.keep ho fun i hi => hrec.same i (by have := (ho.own.lt hi).1; omega)) (by have := xx.size; omega)
    exact ⟨o, rfl, ho3, hbl.trans (Below.mono (hrec.below (Nat.le_refl _)) (by have := xx.size; omega))⟩
end Go.Proofs.YtbphdgiepimmkaaDoor
