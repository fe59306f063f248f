import Derived.Test.YtfipllblcnahdaaDoorKB
set_option linter.all false
namespace Go.Proofs.YtfipllblcnahdaaDoor
open Go Go.Vc Go.RowKit Go.Proofs Go.Chk Go.Runs

theorem made_get (seed : Int) (p : Po) {k : Nat} (hk : k < 8192) : (made seed p)[k]? = some (ofG (cellAt p k).2.1 (ground seed (cellAt p k).1 (cellAt p k).2.2)) := by
  unfold made
  rw [List.getElem?_map, List.getElem?_range hk]; rfl
theorem okC_at {p : Po} (hp : okP p) (i : Int) (hi : 0 ≤ i ∧ i < 8192) : okC (cellAt p i) := by
  obtain ⟨⟨p1, p2⟩, p3, p4⟩ := hp
  unfold okC cellAt inI
  simp only
  omega
attribute [local irreducible] made in
set_option maxRecDepth 100000 in
theorem rChunk10_spec (seed : Int) (p : Po) (hp : okP p) (w : World) : Calls Tryd.prog n_ref10_Chunk #[.int .i64 seed, pv p] w fun e w' => ∃ s' : Sl, e = .returned (.slice s'.a s'.n s'.c) ∧ OwR w.heap.size w' s' (ofC (made seed p)) ∧ Ext w w' := by
  apply ref10_Chunk.vc
  intro w0 e0
  have x0 : Ext w w0 := (Ext.rfl' w).of_alloc e0
  have z0 : w0.heap.size = w.heap.size + 1 := by rw [e0]; simp
  refine ⟨fun n x s wr => Ext w0 wr ∧ ∃ k : Nat, x = k ∧ k + n = 8192 ∧ OwC w0.heap.size wr s ((made seed p).take k), ⟨8192, rfl, Ext.rfl' _, 0, rfl, by omega, by rw [List.take_zero]; exact OwnK.nil⟩, ?_⟩
  rintro n us x s wr ⟨xr, k, rfl, hk, ho⟩
  have zr := xr.size
  refine Br.mk (fun hc => ?_) (fun hc => ?_)
  · simp only [decide_eq_true_eq] at hc
    have hi : 0 ≤ (k : Int) ∧ (k : Int) < 8192 := by omega
    refine (rFrom_spec p hp k hi wr).mono ?_
    rintro e w8 ⟨rfl, x8⟩
    refine ⟨_, _, _, _, rfl, x8.heap (by omega), ?_⟩
    have z8 := x8.size
    intro w13 e13 w14 e14
    have x14 : Ext w8 w14 := ((Ext.rfl' _).of_alloc e13).of_setRow e14 (Nat.le_refl _)
    have z14 : w14.heap.size = w8.heap.size + 1 := by rw [e14, setRow_size, e13]; simp
    refine (rBlock_spec seed (cellAt p k) (okC_at hp k hi) w14).mono ?_
    rintro e w15 ⟨rfl, x15⟩
    have z15 := x15.size
    refine ⟨_, rfl, x15.heap (by omega), x15.heap (by omega), ?_⟩
    intro w17 e17
    have x17 : Ext w15 w17 := (Ext.rfl' _).of_alloc e17
    have z17 : w17.heap.size = w15.heap.size + 1 := by rw [e17]; simp
    have xall : Ext wr w17 := ((x8.tr x14).tr x15).tr x17
    have hlen : s.n = k := by rw [RdC.len ho.rdc, List.length_take, made_len]; omega
    obtain ⟨c1, c2⟩ := (OwnK.ext ho xall).append (bytes := 8) (news := iv (ofG (cellAt p k).2.1 (ground seed (cellAt p k).1 (cellAt p k).2.2))) (by omega) rfl (one_i _ _) (by omega) (by omega)
    refine ⟨c1, fun s18 w19 hres => ?_⟩
    obtain ⟨d1, d2, d3, d4, d5⟩ := c2 s18 w19 hres
    have hsb : ∀ j, wr.heap.size ≤ j → s.blk ≠ some j := fun j hj e => by have := (ho.own.lt e).2; omega
    have hsw : s.blk ≠ some w.heap.size := fun e => by have := (ho.own.lt e).1; omega
    have hwk : IntKind.wrap .i64 ((k : Int) + 1) = ((k + 1 : Nat) : Int) := by rw [wrap_in (by unfold inI; omega)]; omega
    refine ⟨d4 _ hsw (by omega), d4 _ (hsb _ (by omega)) (by omega), d4 _ (hsb _ (by omega)) (by omega), n - 1, by omega, rfl, (xr.tr xall).trans d3, k + 1, hwk, by omega, ?_⟩
    rw [List.take_add_one, made_get seed p (by omega)]
    show OwnK _ _ _ _ _ _
    rw [List.map_append]; exact d1
  · simp only [decide_eq_false_iff_not] at hc
    have : k = 8192 := by omega
    subst this
    rw [List.take_of_length_le (by rw [made_len]; exact Nat.le_refl _)] at ho
    refine (ref05_Of_spec s (made seed p) wr ho.rdc (by rw [made_len]; decide)).mono ?_
    rintro e w20 ⟨s', rfl, ho', x'⟩
    exact ⟨s', rfl, x'.heap (by omega), s', rfl, OwnK.low ho' (by omega), (x0.tr xr).tr x'⟩
end Go.Proofs.YtfipllblcnahdaaDoor
