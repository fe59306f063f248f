import Derived.Test.YtfipllblcnahdaaDoorKD
set_option linter.all false
namespace Go.Proofs.YtfipllblcnahdaaDoor
open Go Go.Vc Go.RowKit Go.Proofs Go.Chk Go.Runs

/-- The ground of a chunk's columns, k of which are known. -/
def grV (seed : Int) (p : Po) (k : Nat) : List Value := (List.range 256).map fun i : Nat => .int .i64 (if i < k then ground seed (cellAt p i).1 (cellAt p i).2.2 else 0)
theorem grV_len (seed : Int) (p : Po) (k : Nat) : (grV seed p k).length = 256 := by simp [grV]
theorem grV_get (seed : Int) (p : Po) (k : Nat) {i : Nat} (hi : i < 256) : (grV seed p k)[i]? = some (.int .i64 (if i < k then ground seed (cellAt p i).1 (cellAt p i).2.2 else 0)) := by
  unfold grV
  rw [List.getElem?_map, List.getElem?_range hi]; rfl
theorem grV_set (seed : Int) (p : Po) {k : Nat} (hk : k < 256) : (grV seed p k).set k (.int .i64 (ground seed (cellAt p k).1 (cellAt p k).2.2)) = grV seed p (k + 1) := by
  apply List.ext_getElem?
  intro i
  rw [List.getElem?_set]
  rcases Nat.lt_or_ge i 256 with h | h
  · rw [grV_get _ _ (k + 1) h]
    split
    · rename_i e
      subst e
      rw [if_pos (by rw [grV_len]; exact h), if_pos (by omega)]
    · rename_i e
      rw [grV_get _ _ k h]
      congr 3
      exact propext ⟨fun h => by omega, fun h => by omega⟩
  · rw [List.getElem?_eq_none (by rw [grV_len]; exact h), List.getElem?_eq_none (by rw [grV_len]; exact h), if_neg (by omega)]
theorem grV_zero (seed : Int) (p : Po) : grV seed p 0 = List.replicate 256 (.int .i64 0) := by
  apply List.ext_getElem?
  intro i
  rcases Nat.lt_or_ge i 256 with h | h
  · rw [grV_get _ _ 0 h, List.getElem?_replicate, if_pos h, if_neg (by omega)]
  · rw [List.getElem?_eq_none (by rw [grV_len]; exact h), List.getElem?_eq_none (by rw [List.length_replicate]; exact h)]
def madeX (seed : Int) (p : Po) : List (List Value) := (made seed p).map fun b => [.int .i64 b]
theorem madeX_len (seed : Int) (p : Po) : (madeX seed p).length = 8192 := by unfold madeX; rw [List.length_map, made_len]
theorem made_gr (seed : Int) (p : Po) {k : Nat} (hk : k < 8192) : (made seed p)[k]? = some (ofG ((k : Int) / 256) (ground seed (cellAt p ((k % 256 : Nat) : Int)).1 (cellAt p ((k % 256 : Nat) : Int)).2.2)) := by
  rw [made_get seed p hk]
  have e1 : (cellAt p ((k % 256 : Nat) : Int)).1 = (cellAt p k).1 := by unfold cellAt; simp only; omega
  have e2 : (cellAt p ((k % 256 : Nat) : Int)).2.2 = (cellAt p k).2.2 := by unfold cellAt; simp only; omega
  rw [e1, e2]; rfl
abbrev genRd (bp bs : Nat) : Nat → Prop := fun i => i = bp ∨ i = bs
abbrev genFn (bp bs : Nat) : Value := .func (.func 84) #[] #[.pointer (some ⟨bp, 0, none⟩), .pointer (some ⟨bs, 0, none⟩)]
attribute [local irreducible] made grV in
set_option maxRecDepth 100000 in
theorem gen_Cells_iter (seed : Int) (p : Po) (hp : okP p) (bp bs : Nat) (W0 : World) (hbp : Row W0 bp [.int .i64 p.1, .int .i64 p.2] tPo) (hbs : Row W0 bs [.int .i64 seed] tInt) :
    Iter Tryd.prog (genFn bp bs) W0 (genRd bp bs) (madeX seed p) := by
  refine ⟨⟨_, _, _, rfl, by kernel_rfl⟩, ?_⟩
  intro y B J Jx F0 W hB hsJ hsX hbd hRd hround h0
  refine callV_of (by kernel_rfl) (by rfl) ?_
  apply gen_Cells_1.vc
  have same : ∀ {w : World} {F : Nat → Prop}, (∀ i, genRd bp bs i → ¬ F i ∧ i < w.heap.size ∧ w.heap[i]? = W0.heap[i]?) → Row w bp [.int .i64 p.1, .int .i64 p.2] tPo ∧ Row w bs [.int .i64 seed] tInt := fun {w F} h =>
    ⟨hbp.same (h bp (.inl rfl)).2.2, hbs.same (h bs (.inr rfl)).2.2⟩
  intro w0 e0
  have x0 : Ext W w0 := (Ext.rfl' W).of_alloc e0
  have z0 : w0.heap.size = W.heap.size + 1 := by rw [e0]; simp
  have hg0 : Row w0 W.heap.size (grV seed p 0) 118 := by rw [e0, grV_zero]; exact Row.new W (List.replicate 256 (.int .i64 0)) _
  clear e0
  have hF0 := hbd _ _ _ h0
  have bel : ∀ {w : World}, Ext W w → J 0 F0 w ∧ ∀ i, genRd bp bs i → ¬ F0 i ∧ i < w.heap.size ∧ w.heap[i]? = W0.heap[i]? := fun {w} x =>
    ⟨hsJ _ _ _ _ h0 (Below.mono x hB) fun i hi => x.heap (hF0 i hi), fun i hi => by
      obtain ⟨h1, h2, h3⟩ := hRd i hi
      exact ⟨h1, by have := x.size; omega, (x.heap h2).trans h3⟩⟩
  refine ⟨fun n x wr => Ext W wr ∧ W.heap.size < wr.heap.size ∧ ∃ k : Nat, x = k ∧ k + n = 256 ∧ Row wr W.heap.size (grV seed p k) 118, ⟨256, x0, by omega, 0, rfl, by omega, hg0⟩, ?_⟩
  rintro n us x wr ⟨xr, zr, k, rfl, hk, hg⟩
  refine Br.mk (fun hc => ?_) (fun hc => ?_)
  · simp only [decide_eq_true_eq] at hc
    obtain ⟨hb1, hb2⟩ := same (bel xr).2
    refine ⟨p.1, p.2, hb1.loadL (fun j hj => by rw [Nat.zero_add]), (cFrom_spec p hp k (by omega) wr).mono ?_⟩
    rintro e w9 ⟨rfl, x9⟩
    refine ⟨_, _, _, _, rfl, ?_⟩
    intro w14 e14 w15 e15
    have x15 : Ext w9 w15 := ((Ext.rfl' _).of_alloc e14).of_setRow e15 (Nat.le_refl _)
    have z15 : w15.heap.size = w9.heap.size + 1 := by rw [e15, setRow_size, e14]; simp
    have z9 := x9.size
    have hb15 := hb2.ext (x9.tr x15)
    refine ⟨seed, by rw [hb15.ld]; rfl, ?_⟩
    have hok := okC_at hp k ⟨by omega, by omega⟩
    refine (gGround_spec seed _ _ hok.1 hok.2.2 w15).mono ?_
    rintro e w17 ⟨rfl, x17⟩
    have z17 := x17.size
    have hg17 := hg.ext ((x9.tr x15).tr x17)
    have hk1 : ((k : Int).toNat * 1) = k := by omega
    rw [hk1]
    obtain ⟨p1, p2⟩ := hg17.put1 (j := k) (v := .int .i64 (ground seed (cellAt p k).1 (cellAt p k).2.2)) (by rw [grV_len]; omega) rfl
    refine ⟨_, rfl, x17.heap (by omega), by omega, by omega, ⟨rfl, p1⟩, ?_, fun w19 e19 => ?_⟩
    · rw [pblk_padd]
      intro e
      have : W.heap.size = w9.heap.size := by simpa [pblk] using e
      omega
    · obtain ⟨q1, q2⟩ := p2 w19 e19
      have hwk : IntKind.wrap .i64 ((k : Int) + 1) = ((k + 1 : Nat) : Int) := by rw [wrap_in (by unfold inI; omega)]; omega
      have hput : putCells (grV seed p k) k [.int .i64 (ground seed (cellAt p k).1 (cellAt p k).2.2)] = grV seed p (k + 1) := by rw [← grV_set seed p (by omega)]; rfl
      rw [hput] at q1
      exact ⟨n - 1, by omega, q2.ext (xr.tr ((x9.tr x15).tr x17)) (fun i hi => by omega), by have := q2.size; omega, k + 1, hwk, by omega, q1⟩
  · simp only [decide_eq_false_iff_not] at hc
    have hk256 : k = 256 := by omega
    subst hk256
    obtain ⟨hJr, hKr⟩ := bel xr
    refine ⟨fun n x wr => ∃ (k : Nat) (F : Nat → Prop), x = k ∧ k + n = 8192 ∧ B ≤ wr.heap.size ∧ W.heap.size < wr.heap.size ∧ ¬ F W.heap.size ∧ J k F wr ∧ Row wr W.heap.size (grV seed p 256) 118,
      ⟨8192, 0, F0, rfl, by omega, by omega, zr, fun hf => by have := hF0 _ hf; omega, hJr, hg⟩, ?_⟩
    rintro n us x wq ⟨k, F, rfl, hk, hBq, hzq, hnF, hJq, hgq⟩
    refine Br.mk (fun hc => ?_) (fun hc => ?_)
    · simp only [decide_eq_true_eq] at hc
      have t1 : Int.tmod (k : Int) 256 = ((k % 256 : Nat) : Int) := by rw [Int.tmod_eq_emod_of_nonneg (by omega)]; omega
      have t2 : IntKind.wrap .i64 (Int.tdiv (k : Int) 256) = (k : Int) / 256 := by rw [Int.tdiv_eq_ediv_of_nonneg (by omega), wrap_in (by unfold inI; omega)]
      rw [t1, t2]
      have hk1 : (((k % 256 : Nat) : Int).toNat * 1) = k % 256 := by omega
      rw [hk1]
      have hget := grV_get seed p 256 (i := k % 256) (by omega)
      rw [if_pos (by omega)] at hget
      refine ⟨by omega, by omega, _, hgq.at _ hget, (gOf_spec _ _ (ground_in _ _ _) wq).mono ?_⟩
      rintro e w27 ⟨rfl, rfl⟩
      refine ⟨_, rfl, ?_⟩
      have hx : (madeX seed p)[k]? = some [.int .i64 (ofG ((k : Int) / 256) (ground seed (cellAt p ((k % 256 : Nat) : Int)).1 (cellAt p ((k % 256 : Nat) : Int)).2.2))] := by
        unfold madeX; rw [List.getElem?_map, made_gr seed p (by omega)]; rfl
      refine callV_mono (hround _ _ _ _ hx hJq) ?_
      have hwk : IntKind.wrap .i64 ((k : Int) + 1) = ((k + 1 : Nat) : Int) := by rw [wrap_in (by unfold inI; omega)]; omega
      rintro e w29 (⟨rfl, F2, hJ2, hst⟩ | ⟨rfl, F2, hJ2, hst⟩)
      · refine ⟨true, rfl, Br.mk (fun h => by cases h) (fun _ => ⟨n - 1, by omega, k + 1, F2, hwk, by omega, by have := hst.size; omega, by have := hst.size; omega, fun hf => ?_, hJ2, hgq.same (hst.same _ hzq hnF)⟩)⟩
        rcases hst.sub _ hf with hf | hf
        · exact hnF hf
        · omega
      · exact ⟨false, rfl, Br.mk (fun _ => ⟨⟨_, rfl⟩, .inr ⟨F2, hJ2⟩⟩) (fun h => by cases h)⟩
    · simp only [decide_eq_false_iff_not] at hc
      have hk8 : k = 8192 := by omega
      subst hk8
      exact ⟨⟨_, rfl⟩, .inl ⟨F, by rw [madeX_len]; exact hJq⟩⟩
theorem gen_Cells_spec (seed : Int) (p : Po) (w : World) : Calls Tryd.prog n_gen_Cells #[.int .i64 seed, pv p] w fun e w' => e = .returned (genFn (w.heap.size + 1) w.heap.size) ∧ Row w' (w.heap.size + 1) [.int .i64 p.1, .int .i64 p.2] tPo ∧ Row w' w.heap.size [.int .i64 seed] tInt ∧ Ext w w' := by
  apply gen_Cells.vc
  intro w0 e0 w1 e1
  have z0 : w0.heap.size = w.heap.size + 1 := by rw [e0]; simp
  have x1 : Ext w0 w1 := (Ext.rfl' _).of_alloc e1
  have hb : Row w0 w.heap.size [.int .i64 seed] tInt := by rw [e0]; exact Row.new w [_] _
  refine ⟨by rw [z0], ?_, hb.ext x1, ((Ext.rfl' w).of_alloc e0).tr x1⟩
  rw [← z0, e1]; exact Row.new w0 [_, _] _
end Go.Proofs.YtfipllblcnahdaaDoor
