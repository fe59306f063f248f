import Derived.Test.YtfipllblcnahdaaDoorW
import Derived.Test.YtfipllblcnahdaaDoorQRN
set_option linter.all false
namespace Go.Proofs.YtfipllblcnahdaaDoor
open Go Go.Vc Go.RowKit Go.Proofs Go.Runs

/-- All cells of runs, with their places. -/
def allX (l : List Rn) : List (List Value) := (cellsR l).mapIdx fun i b => [.int .i64 (i : Nat), .int .i64 b]
theorem allX_get {l : List Rn} {i : Nat} {b : Int} (h : (cellsR l)[i]? = some b) : (allX l)[i]? = some [.int .i64 (i : Nat), .int .i64 b] := by
  unfold allX; rw [List.getElem?_mapIdx, h]; rfl
theorem allX_inv {l : List Rn} {i : Nat} {x y : Int} (h : (allX l)[i]? = some [.int .i64 x, .int .i64 y]) : x = (i : Nat) ∧ (cellsR l)[i]? = some y := by
  unfold allX at h
  rw [List.getElem?_mapIdx] at h
  cases hb : (cellsR l)[i]? with
  | none => rw [hb] at h; cases h
  | some b => rw [hb] at h; simp at h; exact ⟨h.1.symm, by rw [h.2]⟩
theorem allX_len (l : List Rn) : (allX l).length = (cellsR l).length := by simp [allX]
theorem allX_shape (l : List Rn) : ∀ x ∈ allX l, ∃ (a b : Int), x = [.int .i64 a, .int .i64 b] := by
  intro x hx
  obtain ⟨i, hi⟩ := List.getElem?_of_mem hx
  unfold allX at hi
  rw [List.getElem?_mapIdx] at hi
  cases hb : (cellsR l)[i]? with
  | none => rw [hb] at hi; cases hi
  | some b => rw [hb] at hi; simp at hi; exact ⟨_, _, hi.symm⟩
theorem cells_at {l : List Rn} {k : Nat} {r : Rn} (hr : l[k]? = some r) {j : Nat} (hj : j < r.1.toNat) : (cellsR l)[(cellsR (l.take k)).length + j]? = some r.2 := by
  have e : l = l.take k ++ r :: l.drop (k + 1) := by
    have := List.take_append_drop k l
    rw [List.drop_eq_getElem_cons (List.getElem?_eq_some_iff.1 hr).1] at this
    rw [← (List.getElem?_eq_some_iff.1 hr).2]
    exact this.symm
  have e2 : cellsR l = cellsR (l.take k) ++ (List.replicate r.1.toNat r.2 ++ cellsR (l.drop (k + 1))) := by
    conv => lhs; rw [e]
    rw [cellsR_app]
    simp [cellsR]
  rw [e2, List.getElem?_append_right (by omega), Nat.add_sub_cancel_left, List.getElem?_append_left (by rw [List.length_replicate]; exact hj), List.getElem?_replicate, if_pos hj]
abbrev tSlR : TypeId := 36
/-- What all cells of runs are read from: the box that holds them; their own block. -/
abbrev allRd (b : Nat) (s : Sl) (l : List Rn) : Nat → Prop := fun i => i = b ∨ (l ≠ [] ∧ s.blk = some i)
abbrev allFn (b : Nat) : Value := .func (.func 74) #[] #[.pointer (some ⟨b, 0, none⟩)]
set_option maxRecDepth 100000 in
theorem runs_All_iter (s : Sl) (l : List Rn) (b : Nat) (W0 : World) (hs : RdR W0 s l) (hb : Row W0 b [.slice s.a s.n s.c] tSlR) (hn : Bd l.length) (hl : ∀ r ∈ l, 0 ≤ r.1) (hsum : sumR l ≤ 1099511627776) :
    Iter Tryd.prog (allFn b) W0 (allRd b s l) (allX l) := by
  have hsn := RdR.len hs
  unfold Bd at hn
  refine ⟨⟨_, _, _, rfl, by kernel_rfl⟩, ?_⟩
  intro y B J Jx F0 W hB hsJ hsX hbd hRd hround h0
  refine callV_of (by kernel_rfl) (by rfl) ?_
  apply runs_All_1.vc
  have same : ∀ {w : World} {F : Nat → Prop}, (∀ i, allRd b s l i → ¬ F i ∧ i < w.heap.size ∧ w.heap[i]? = W0.heap[i]?) → Row w b [.slice s.a s.n s.c] tSlR ∧ RdR w s l := fun {w F} h =>
    ⟨hb.same (h b (.inl rfl)).2.2, RdK.same' hs fun hne i hi => (h i (.inr ⟨fun e => hne (by rw [e]; rfl), hi⟩)).2.2⟩
  refine ⟨s, by rw [(same hRd).1.ld]; rfl, ?_⟩
  refine ⟨fun n x z w => ∃ (k : Nat) (F : Nat → Prop), x = k ∧ k + n = l.length ∧ z = sumR (l.take k) ∧ B ≤ w.heap.size ∧ J (cellsR (l.take k)).length F w ∧ (∀ i, allRd b s l i → ¬ F i ∧ i < w.heap.size ∧ w.heap[i]? = W0.heap[i]?), ⟨l.length, 0, F0, rfl, by omega, rfl, hB, h0, hRd⟩, ?_⟩
  rintro n us x z w6 ⟨k, F, rfl, hk, rfl, hB6, hJ, hK⟩
  refine Br.mk (fun h => ?_) (fun h => ?_) <;> simp only [decide_eq_true_eq, decide_eq_false_iff_not] at h
  · obtain ⟨r, hr⟩ := get_lt (l := l) (i := k) (by omega)
    obtain ⟨_, hrd⟩ := same hK
    have hr0 := hl r (List.mem_of_getElem? hr)
    refine ⟨RdR.inB hrd (by omega), r.1, r.2, RdR.ll hrd hr, ?_⟩
    rintro w10 rfl
    rintro w11 hw11
    have x11 : Ext w6 w11 := by rw [hw11]; exact (Ext.al w6 (.cells #[.int .i64 0, .int .i64 0] tRun)).setRow (Nat.le_refl _) _
    have z11 : w6.heap.size < w11.heap.size := by rw [hw11, setRow_size]; simp
    clear hw11
    have hFs := hbd _ _ _ hJ
    have hJ11 : J (cellsR (l.take k)).length F w11 := hsJ _ _ _ _ hJ (Below.mono x11 hB6) fun i hi => x11.heap (hFs i hi)
    have hK11 : ∀ i, allRd b s l i → ¬ F i ∧ i < w11.heap.size ∧ w11.heap[i]? = W0.heap[i]? := fun i hi => by
      obtain ⟨h1, h2, h3⟩ := hK i hi
      exact ⟨h1, by omega, (x11.heap h2).trans h3⟩
    have hw1 := sumR_take_succ hr
    have hle := sumR_take_le hl k
    have hle1 := sumR_take_le hl (k + 1)
    have hle2 := (sumR_take_le hl (k + 1)).2
    have hlen : ((cellsR (l.take k)).length : Int) = sumR (l.take k) := (sumR_cells fun q hq => hl q (List.mem_of_mem_take hq)).symm
    have ek := wrap_in (n := (k : Int) + 1) (by unfold inI; omega)
    have es := wrap_in (n := sumR (l.take k) + r.1) (by unfold inI; omega)
    rw [ek, es]
    refine ⟨fun m x w => ∃ (j : Nat) (F : Nat → Prop), x = j ∧ j + m = r.1.toNat ∧ B ≤ w.heap.size ∧ w6.heap.size < w.heap.size ∧ ¬ F w6.heap.size ∧ J ((cellsR (l.take k)).length + j) F w ∧ (∀ i, allRd b s l i → ¬ F i ∧ i < w.heap.size ∧ w.heap[i]? = W0.heap[i]?),
      ⟨r.1.toNat, rfl, 0, F, rfl, by omega, by omega, z11, fun hf => by have := hFs _ hf; omega, hJ11, hK11⟩, ?_⟩
    rintro m us' x w16 ⟨j, F', rfl, hj, hB16, hz16, hnF, hJ16, hK16⟩
    refine Br.mk (fun h2 => ?_) (fun h2 => ?_) <;> simp only [decide_eq_true_eq, decide_eq_false_iff_not] at h2
    · have ej := wrap_in (n := (j : Int) + 1) (by unfold inI; omega)
      have ea := wrap_in (n := sumR (l.take k) + (j : Int)) (by unfold inI; omega)
      rw [ej, ea]
      have hx := allX_get (cells_at hr (j := j) (by omega))
      rw [show (((cellsR (l.take k)).length + j : Nat) : Int) = sumR (l.take k) + (j : Int) from by omega] at hx
      refine callV_mono (hround _ _ _ _ hx hJ16) ?_
      rintro e w18 (⟨rfl, F2, hJ2, hst⟩ | ⟨rfl, F2, hJ2, hst⟩)
      · refine ⟨true, rfl, hst.same _ hz16 hnF, Br.mk (fun h => by cases h) (fun _ => ⟨m - 1, by omega, rfl, j + 1, F2, by omega, by omega, by have := hst.size; omega, by have := hst.size; omega, ?_, hJ2, ?_⟩)⟩
        · intro hf
          rcases hst.sub _ hf with hf | hf
          · exact hnF hf
          · omega
        · intro i hi
          obtain ⟨h1, h2, h3⟩ := hK16 i hi
          refine ⟨fun hf => ?_, by have := hst.size; omega, (hst.same i h2 h1).trans h3⟩
          rcases hst.sub _ hf with hf | hf
          · exact h1 hf
          · omega
      · exact ⟨false, rfl, hst.same _ hz16 hnF, Br.mk (fun _ => ⟨⟨_, rfl⟩, .inr ⟨F2, hJ2⟩⟩) (fun h => by cases h)⟩
    · refine ⟨n - 1, by omega, k + 1, F', by omega, by omega, hw1.symm, hB16, ?_, hK16⟩
      have e : (cellsR (l.take (k + 1))).length = (cellsR (l.take k)).length + j := by
        rw [cells_take_succ hr, List.length_append, List.length_replicate]; omega
      rw [e]; exact hJ16
  · have hkl : k = l.length := by omega
    subst hkl
    rw [List.take_length] at hJ
    exact ⟨⟨_, rfl⟩, .inl ⟨F, by rw [allX_len]; exact hJ⟩⟩
theorem runs_All_spec (s : Sl) (w : World) :
    Calls Tryd.prog n_runs_All #[.slice s.a s.n s.c] w fun e w' => e = .returned (allFn w.heap.size) ∧ Row w' w.heap.size [.slice s.a s.n s.c] tSlR ∧ Ext w w' := by
  apply runs_All.vc
  rintro w0 rfl
  exact ⟨rfl, Row.new w [.slice s.a s.n s.c] tSlR, Ext.al _ _⟩
end Go.Proofs.YtfipllblcnahdaaDoor
