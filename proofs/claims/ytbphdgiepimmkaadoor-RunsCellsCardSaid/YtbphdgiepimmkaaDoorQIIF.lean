import Derived.Test.YtbphdgiepimmkaaDoorQHHF
import Derived.Test.YtbphdgiepimmkaaDoorX
set_option linter.all false
namespace Go.Proofs.YtbphdgiepimmkaaDoor
open Go Go.Vc Go.RowKit Go.Proofs Go.Runs
set_option maxRecDepth 20000

theorem ref05_Blocks_spec (s : Sl) (c : List Int) (w : World) (hs : RdC w s c) (hc : ∀ b ∈ c, inI b) :
    Calls Tryd.prog n_ref05_Blocks #[.slice s.a s.n s.c, .int .i64 300] w fun e w' => ∃ s' : Sl, e = .returned (.slice s'.a s'.n s'.c) ∧ OwC w.heap.size w' s' ((c.take 300).map bGood) ∧ Ext w w' := by
  have hsn := RdC.len hs
  apply ref05_Blocks.vc
  refine ⟨fun n x o wr => ∃ k : Nat, x = k ∧ k + n = min c.length 300 ∧ Ext w wr ∧ OwC w.heap.size wr o ((c.take k).map bGood), ⟨min c.length 300, 0, rfl, by omega, Ext.rfl' w, OwnK.nil⟩, ?_⟩
  rintro n us x o wr ⟨k, rfl, hk, xr, ho⟩
  have hon := RdC.len ho.rdc
  rw [List.length_map, List.length_take] at hon
  have hw := wrap_in (n := (k : Int) + 1) (by unfold inI; omega)
  refine Br.mk (fun h1 => Br.mk (fun h2 => ?_) (fun h2 => ?_)) (fun h1 => ?_)
  · simp only [decide_eq_true_eq] at h1 h2
    obtain ⟨b, hb⟩ := get_lt (l := c) (i := k) (by omega)
    refine ⟨RdC.inB hs (by omega), b, RdC.c0 (hs.ext xr) hb, (ref04_Good_spec b wr (hc b (List.mem_of_getElem? hb))).mono ?_⟩
    rintro e w8 ⟨rfl, rfl⟩
    refine ⟨_, rfl, ?_⟩
    rintro w10 rfl
    obtain ⟨hp, hres⟩ := OwnK.app1 ho (bytes := 8) (news := iv (bGood b)) (.cells #[.int .i64 (bGood b)] tInt) xr.size rfl (one_i _ _) (by omega) (by omega)
    refine ⟨hp, fun s11 w12 hr => ?_⟩
    obtain ⟨k1, ho', _, xb, _, _⟩ := hres s11 w12 hr
    refine ⟨k1, n - 1, by omega, k + 1, by omega, by omega, xr.trans xb, ?_⟩
    have e : (c.take (k + 1)).map bGood = (c.take k).map bGood ++ [bGood b] := by rw [List.take_add_one, hb, List.map_append]; rfl
    rw [e]
    show OwnK _ _ 1 _ _ (((c.take k).map bGood ++ [bGood b]).map iv)
    rw [List.map_append]; exact ho'
  · simp only [decide_eq_true_eq, decide_eq_false_iff_not] at h1 h2
    have : c.take k = c.take 300 := by rw [show k = 300 from by omega]
    rw [this] at ho
    exact ⟨o, rfl, ho, xr⟩
  · simp only [decide_eq_false_iff_not] at h1
    have : c.take k = c.take 300 := by rw [List.take_of_length_le (by omega), List.take_of_length_le (by omega)]
    rw [this] at ho
    exact ⟨o, rfl, ho, xr⟩
theorem ref05_SameCells_spec (s t : Sl) (c : List Int) (w : World) (hs : RdC w s c) (ht : RdC w t c) (hb : Bd c.length) :
    Calls Tryd.prog n_ref05_SameCells #[.slice s.a s.n s.c, .slice t.a t.n t.c] w fun e w' => e = .returned (.bool true) ∧ Ext w w' := by
  have hsn := RdC.len hs
  have htn := RdC.len ht
  unfold Bd at hb
  apply ref05_SameCells.vc
  refine Br.mk (fun h => by simp at h; omega) (fun _ => ?_)
  refine ⟨fun n x wr => ∃ k : Nat, x = k ∧ k + n = c.length ∧ Ext w wr, ⟨c.length, 0, rfl, by omega, Ext.rfl' w⟩, ?_⟩
  rintro n us x wr ⟨k, rfl, hk, xr⟩
  have hw := wrap_in (n := (k : Int) + 1) (by unfold inI; omega)
  refine Br.mk (fun h1 => ?_) (fun h1 => ⟨rfl, xr⟩)
  simp only [decide_eq_true_eq] at h1
  obtain ⟨b, hbk⟩ := get_lt (l := c) (i := k) (by omega)
  refine ⟨RdC.inB hs (by omega), b, RdC.c0 (hs.ext xr.drew) hbk, RdC.inB ht (by omega), b, RdC.c0 (ht.ext xr.drew) hbk, Br.mk (fun h => by simp at h) (fun _ => ⟨n - 1, by omega, k + 1, by omega, by omega, xr.drew⟩)⟩
theorem RunsCells_good (s t : Sl) (c : List Int) (l : List Rn) (w : World) (hs : RdC w s c) (ht : RdR w t l) (hc : ∀ b ∈ c, inI b) (hl : ∀ r ∈ l, inI r.1 ∧ inI r.2) :
    Calls Tryd.prog n_law05_RunsCells #[.slice s.a s.n s.c, .slice t.a t.n t.c] w (Good w) := by
  have hgl := goodC_len l
  have hgr := ofC_len (goodC l)
  apply law05_RunsCells.vc
  rintro w0 rfl
  have x0 := Ext.al w (.cells #[.bool false] 4)
  have hlt0 : w.heap.size < (w.alloc (.cells #[.bool false] 4)).heap.size := by simp
  refine (ref05_Blocks_spec s c _ (hs.ext x0) hc).mono ?_
  rintro e w1 ⟨o, rfl, oo, x1⟩
  have hol : ((c.take 300).map bGood).length ≤ 300 := by rw [List.length_map, List.length_take]; omega
  generalize (c.take 300).map bGood = own at *
  have hor := ofC_len own
  have z1 := x1.size
  refine ⟨o, rfl, x1.heap hlt0, (runs_Of_spec o own w1 oo.rdc (by unfold Bd; omega)).mono ?_⟩
  rintro e w3 ⟨q, rfl, oq, x3⟩
  have z3 := x3.size
  have oo3 := OwnK.ext oo x3
  refine ⟨q, rfl, x3.heap (by omega), (ref05_Of_spec o own w3 (OwC.rdc oo3) (by unfold Bd; omega)).mono ?_⟩
  rintro e w5 ⟨q', rfl, oq', x5⟩
  have z5 := x5.size
  refine ⟨q', rfl, x5.heap (by omega), (ref05_Same_spec q q' _ _ w5 (RdK.ext oq.rdr x5) oq'.rdr (by unfold Bd; omega)).mono ?_⟩
  rintro e w7 ⟨rfl, x7⟩
  have z7 := x7.size
  rw [decide_eq_true rfl]
  have oq7 : RdR w7 q (ofC own) := RdK.ext oq.rdr (x5.tr x7)
  refine ⟨_, rfl, x7.heap (by omega), Br.mk (fun h => by cases h) (fun _ => ?_)⟩
  have hsum := sumR_ofC own
  have hpos : ∀ c : List Int, ∀ r ∈ ofC c, 0 ≤ r.1 := fun c r hr => by have := (Nm_ofC c).pos r hr; omega
  refine (runs_Cells_spec q (ofC own) w7 oq7 (by unfold Bd; omega) (hpos own) (by omega)).mono ?_
  rintro e w10 ⟨d, rfl, od, x10⟩
  have z10 := x10.size
  rw [cells_ofC] at od
  refine ⟨d, rfl, x10.heap (by omega), (ref05_SameCells_spec d o own w10 od.rdc (RdK.ext (OwC.rdc oo3) ((x5.tr x7).tr x10)) (by unfold Bd; omega)).mono ?_⟩
  rintro e w12 ⟨rfl, x12⟩
  have z12 := x12.size
  refine ⟨_, rfl, x12.heap (by omega), Br.mk (fun h => by cases h) (fun _ => ?_)⟩
  refine (runs_Len_spec q (ofC own) w12 (oq7.ext (x10.tr x12)) (by unfold Bd; omega) (hpos own) (by omega)).mono ?_
  rintro e w15 ⟨rfl, x15⟩
  have z15 := x15.size
  have hon := RdC.len oo.rdc
  refine ⟨_, rfl, x15.heap (by omega), Br.mk (fun h => by simp [hsum, hon] at h) (fun _ => ?_)⟩
  have xw12 : Ext w w15 := ((((((x0.tr x1).tr x3).tr x5).tr x7).tr x10).tr x12).tr x15
  refine (ref05_Good_spec t l w15 (ht.ext xw12) hl).mono ?_
  rintro e w18 ⟨g, rfl, og, x18⟩
  have z18 := x18.size
  have hgs := sumR_ofC (goodC l)
  have hgc := cells_ofC (goodC l)
  refine ⟨g, rfl, x18.heap (by omega), (runs_All_spec g w18).mono ?_⟩
  rintro e w20 ⟨rfl, hb20, x20⟩
  have z20 := x20.size
  have hb18 := hb20.lt
  refine ⟨_, rfl, x20.heap (by omega), ?_⟩
  rw [fnC_func, isNilF_func, AndL_nil]
  have og20 := OwnK.ext og x20
  refine Br.mk (fun h => by cases h) (fun _ => (ref05_Cells_spec g _ w20 (OwR.rdr og20) (by unfold Bd; omega) (hpos _) (by omega)).mono ?_)
  rintro e w23 ⟨v, rfl, ov, x23⟩
  rw [hgc] at ov
  have z23 := x23.size
  have hvn := RdC.len ov.rdc
  refine ⟨v, rfl, x23.heap (by omega), ?_⟩
  rintro w25 rfl w26 hw26 w27 rfl w28 hw28
  have x26 : Ext w23 w26 := by rw [hw26]; exact (Ext.al w23 (.cells #[.slice none 0 0] 32)).setRow (Nat.le_refl _) _
  have z26 : w26.heap.size = w23.heap.size + 1 := by rw [hw26, setRow_size]; simp
  clear hw26
  have x28 : Ext w26 w28 := by rw [hw28]; exact (Ext.al w26 (.cells #[.int .i64 0] 3)).setRow (Nat.le_refl _) _
  have z28 : w28.heap.size = w26.heap.size + 1 := by rw [hw28, setRow_size]; simp
  clear hw28
  have x2328 := x26.tr x28
  have xw28 : Ext w w28 := (((xw12.tr x18).tr x20).tr x23).tr x2328
  have ov28 := OwnK.ext ov x2328
  have og28 := OwnK.ext (OwnK.ext og20 x23) x2328
  have hb28 := hb20.ext (x23.tr x2328)
  have hgne : ofC (goodC l) ≠ [] := by
    intro e; rw [e] at hgs
    have : sumR ([] : List Rn) = 0 := rfl
    omega
  have hgblk : ∀ i, allRd w18.heap.size g (ofC (goodC l)) i → w.heap.size < i ∧ i < w20.heap.size := fun i hi => by
    rcases hi with h | ⟨_, h⟩
    · omega
    · have := og.own.lt h
      omega
  have hvblk : ∀ i, v.blk = some i → w20.heap.size ≤ i ∧ i < w23.heap.size := fun i hi => ov.own.lt hi
  refine ⟨allX (ofC (goodC l)), allRd w18.heap.size g (ofC (goodC l)), fun _ => False,
    fun n F b x w' => (∀ i, ¬ F i) ∧ x = (n : Nat) ∧ Mod (fun i => i = w.heap.size ∨ i = w26.heap.size ∨ w28.heap.size ≤ i) w28 w', fun _ _ _ _ _ => False,
    allX_shape _, ?_, fun _ _ _ _ _ _ h => h.elim, fun n F b x w' h i hi => (h.1 i hi).elim, fun _ _ _ _ _ h => h.elim, fun i hi => ?_, fun w58 hbeg => ?_, ?_, ?_, fun _ _ _ _ _ h => h.elim⟩
  · rintro n F b x w3 w4 ⟨h1, h2, h3⟩ hbl _
    refine ⟨h1, h2, h3.tr ⟨hbl.os, hbl.tape, hbl.output, hbl.size, fun i hi hn => hbl.block i (Nat.lt_of_not_le hn)⟩ fun i hi => .inl (.inr (.inr hi))⟩
  · have := hgblk i hi
    exact ⟨by omega, id, by omega, by omega, by omega, trivial⟩
  · refine ⟨runs_All_iter g _ w18.heap.size w58 (RdK.below' (OwR.rdr og28) hbeg.ext) (hb28.same (hbeg.ext.block _ (by omega))) (by unfold Bd; omega) (hpos _) (by omega), rfl, fun i h => h, rfl, Mod.of_ext hbeg.ext⟩
  · rintro n F us b x y z w66 hx hI
    obtain ⟨rfl, hz⟩ := allX_inv hx
    rw [hgc] at hz
    have hnl : n < (goodC l).length := (List.getElem?_eq_some_iff.1 hz).1
    refine ⟨Below.refl _ _, fun w67 hrec hI7 => ?_⟩
    obtain ⟨hF, rfl, hM⟩ := hI7
    have hw := wrap_in (n := (n : Int) + 1) (by unfold inI; omega)
    refine Br.mk (fun h => by simp at h; omega) (fun _ => Br.mk (fun h => by simp at h) (fun _ => ?_))
    have hrd : RdC w67 v (goodC l) := RdK.same (OwC.rdc ov28) fun i hi => by
      have := hvblk i hi
      exact hM.same i (by omega) (by omega)
    refine ⟨RdC.inB hrd (by omega), z, RdC.c0 hrd hz, Br.mk (fun h => by simp at h) (fun _ => ?_)⟩
    rintro w75 hw75
    have e75 : ∀ i, i ≠ w26.heap.size → w75.heap[i]? = w67.heap[i]? := fun i hi => by rw [hw75]; exact setRow_other _ _ _ _ hi
    have z75 : w75.heap.size = w67.heap.size := by rw [hw75, setRow_size]
    have m75 : Mod (fun i => i = w26.heap.size) w67 w75 := ⟨by rw [hw75]; rfl, by rw [hw75]; rfl, by rw [hw75]; rfl, by omega, fun i _ hn => e75 i hn⟩
    refine ⟨F, ⟨rfl, hF, hw, hM.tr m75 fun i hi => .inl (.inr (.inl hi))⟩, ⟨fun i hi => .inl hi, by omega, fun i _ hn => e75 i fun e => hn (.inr (by simp [e]))⟩⟩
  · rintro F us b x w81 ⟨hF, hx, hM⟩ hD
    rw [allX_len, hgc] at hx
    have mx : Ext w w81 := hM.ext xw28 fun i hi => by omega
    have z81 := hM.size
    have hD' := (Array.getElem?_eq_some_iff.1 hD).1
    refine Br.mk (fun _ => ?_) (fun h => by simp [hx, hvn] at h)
    have hrg : RdR w81 g (ofC (goodC l)) := RdK.same' (OwR.rdr og28) fun hne i hi => by
      have := hgblk i (.inr ⟨fun e => hne (by rw [e]; rfl), hi⟩)
      exact hM.same i (by omega) (by omega)
    refine (runs_Cells_spec g _ w81 hrg (by unfold Bd; omega) (hpos _) (by omega)).mono ?_
    rintro e w82 ⟨d2, rfl, od2, x82⟩
    have z82 := x82.size
    rw [hgc] at od2
    refine ⟨d2, rfl, x82.heap (by omega), x82.heap (by omega), x82.heap (by omega), (runs_Of_spec d2 _ w82 od2.rdc (by unfold Bd; omega)).mono ?_⟩
    rintro e w84 ⟨q2, rfl, oq2, x84⟩
    have z84 := x84.size
    refine ⟨q2, rfl, x84.heap (by omega), x84.heap (by omega), x84.heap (by omega), (ref05_Same_spec q2 g _ _ w84 oq2.rdr (hrg.ext (x82.tr x84)) (by unfold Bd; omega)).mono ?_⟩
    rintro e w86 ⟨rfl, x86⟩
    have z86 := x86.size
    rw [decide_eq_true rfl]
    refine ⟨_, rfl, x86.heap (by omega), x86.heap (by omega), x86.heap (by omega), Br.mk (fun _ => (law05_lives_spec w86).mono ?_) (fun h => by cases h)⟩
    rintro e w88 ⟨rfl, x88⟩
    have z88 := x88.size
    refine ⟨_, rfl, x88.heap (by omega), x88.heap (by omega), x88.heap (by omega), ?_⟩
    rintro w90 hw90
    have x88' := (((mx.tr x82).tr x84).tr x86).tr x88
    have xd := ((x82.tr x84).tr x86).tr x88
    have x90 : Ext w w90 := by rw [hw90]; exact x88'.setRow (Nat.le_refl _) _
    refine ⟨?_, fun w91 hr => ⟨rfl, x90.trans (hr.below (by have := xw28.size; omega))⟩⟩
    rw [hw90, setRow_other _ _ _ _ (by have := xw28.size; omega), xd.heap (i := w28.heap.size) (by omega)]
    exact hD
end Go.Proofs.YtbphdgiepimmkaaDoor
