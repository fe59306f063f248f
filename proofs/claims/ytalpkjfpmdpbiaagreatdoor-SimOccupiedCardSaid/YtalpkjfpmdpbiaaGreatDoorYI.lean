import Derived.Test.YtalpkjfpmdpbiaaGreatDoorYD
import Derived.Test.YtalpkjfpmdpbiaaGreatDoorWB
import Derived.Test.YtalpkjfpmdpbiaaGreatDoorRF
import Derived.Test.YtalpkjfpmdpbiaaGreatDoorGC
set_option linter.all false
namespace Go.Proofs.YtalpkjfpmdpbiaaGreatDoor
open Go Go.Vc Go.RowKit Go.Proofs Go.Chk Go.Runs Go.Code Go.Que Go.Flw
set_option maxRecDepth 100000
abbrev tR13 : TypeId := 33
abbrev tP5 : TypeId := 89
abbrev tS19 : TypeId := 39
theorem ld_new (seed limit room : Int) {l : List En} (hl : (l.length : Int) < limit) {p : Po} (hp : inT p) (hn : ∀ e ∈ l, e.1 ≠ p) : ldE seed limit (dk0 room) l p = ((dk0 room, l ++ [(p, made seed p, false, 0)]), 0) := by
 have hr : roomE limit (dk0 room) l = ((dk0 room, l), 0) := by unfold roomE; rw [if_pos hl]
 have hd : (ldS (dk0 room) (idK p)).1 = [] := by unfold dk0; rw [ldS_new]
 have hf : firstI (fun e : En => e.1 == p) l = -1 := firstI_none fun y hy => by simpa using hn y hy
 unfold ldE
 rw [if_neg (by simpa using hp), if_neg (by rw [hf]; decide), hr, if_neg (by simp)]
 simp only [hd, cellsB_nil]
theorem l5_len (seed : Int) {k : Nat} (hk : k ≤ 5) : (l5 seed k).length = k := by
 unfold l5
 rw [List.length_map, List.length_take]
 have : fiveK.length = 5 := rfl
 omega
theorem l5_next (seed : Int) {k : Nat} {p : Po} (hp : fiveK[k]? = some p) : l5 seed (k + 1) = l5 seed k ++ [(p, made seed p, false, 0)] := by
 unfold l5
 rw [List.take_add_one, hp, List.map_append]
 rfl
theorem five_in {k : Nat} {p : Po} (hp : fiveK[k]? = some p) : inT p ∧ p ∉ fiveK.take k := by
 have hk : k < 5 := (List.getElem?_eq_some_iff.1 hp).1
 have : k = 0 ∨ k = 1 ∨ k = 2 ∨ k = 3 ∨ k = 4 := by omega
 rcases this with rfl | rfl | rfl | rfl | rfl <;> (cases hp; decide)
theorem l5_not (seed : Int) {k : Nat} {p : Po} (hp : fiveK[k]? = some p) : ∀ e ∈ l5 seed k, e.1 ≠ p := fun e he q => by
 obtain ⟨x, hx, rfl⟩ := List.mem_map.1 he
 exact (five_in hp).2 (q ▸ hx)
theorem l5_ld (seed : Int) {k : Nat} {p : Po} (hp : fiveK[k]? = some p) : ldE seed 5 (dk0 0) (l5 seed k) p = ((dk0 0, l5 seed (k + 1)), 0) := by
 have hk : k < 5 := (List.getElem?_eq_some_iff.1 hp).1
 rw [ld_new seed 5 0 (by rw [l5_len seed (by omega)]; omega) (five_in hp).1 (l5_not seed hp), l5_next seed hp]
theorem ref17New_spec (w : World) : Calls Tryz.prog n_ref17_New #[.int .i64 4096] w fun e w' => e = .returned (.agg #[.int .i64 4096, .int .i64 0, .slice none 0 0]) ∧ Ext w w' := by
 apply ref17_New.vc
 intro w0 e0 w1 e1
 exact ⟨rfl, ((Ext.rfl' w).of_alloc e0).of_setRow e1 (Nat.le_refl _)⟩
abbrev xvL (seed cap : Int) (d : Dk) (s1 s2 s3 s4 : Sl) (b : Int) : List Value := [.int .i64 seed, .int .i64 cap, .int .i64 d.room, .int .i64 d.fails, .int .i64 d.wait, .slice s1.a s1.n s1.c, .slice s2.a s2.n s2.c, .slice s3.a s3.n s3.c, .slice s4.a s4.n s4.c, .int .i64 4096, .int .i64 0, .slice none 0 0, .int .i64 (min (max b 1) 64), .int .i64 0, .slice none 0 0, .slice none 0 0]
theorem ref19New_spec (seed cap : Int) (d : Dk) (s1 s2 s3 s4 : Sl) (b : Int) (w : World) : Calls Tryz.prog n_ref19_New #[wvR seed cap d s1 s2 s3 s4, .int .i64 b] w fun e w' => e = .returned (.agg (xvL seed cap d s1 s2 s3 s4 b).toArray) ∧ Ext w w' := by
 apply (ref19_New.vc (a0_5 := s1) (a0_6 := s2) (a0_7 := s3) (a0_8 := s4))
 intro w0 e0 w1 e1
 have x1 : Ext w w1.drew := (((Ext.rfl' _).of_alloc e0).of_alloc e1).tr (Ext.dr w1)
 have z0 : w0.heap.size = w.heap.size + 1 := by rw [e0]; simp
 have z1 : w1.drew.heap.size = w.heap.size + 2 := by show w1.heap.size = _; rw [e1]; simp [z0]
 have r1 : Row w1.drew w.heap.size (wvL seed cap d s1 s2 s3 s4) tR13 := ((by rw [e0]; exact Row.new w [_, _, _, _, _, _, _, _, _] _ : Row w0 w.heap.size _ tR13).ext ((Ext.rfl' _).of_alloc e1)).ext (Ext.dr w1)
 clear e0 e1
 refine (ref17New_spec w1.drew).mono ?_
 rintro e w2 ⟨rfl, x2⟩
 have eb : (if 64 < (if 1 > b then 1 else b) then 64 else (if 1 > b then 1 else b)) = min (max b 1) 64 := by
  split <;> split <;> omega
 refine ⟨_, _, ⟨none, 0, 0⟩, rfl, x2.heap (by omega), x2.heap (by omega), Lo.wv (r1.ext x2), fun w6 e6 => ?_⟩
 rw [eb]
 exact ⟨rfl, (x1.tr x2).of_setRow e6 (by omega)⟩
theorem begin1_spec (c : Ce) {g : Nat} {w : World} {τ : TypeId} (hr : Row w g [.slice none 0 0] τ) : Calls Tryz.prog n_law19_begin_1 #[cev c, .pointer (some ⟨g, 0, none⟩)] w fun e w' => e = .returned (.bool false) ∧ Ext w w' := by
 apply law19_begin_1.vc
 intro w0 e0
 have x0 : Ext w w0 := (Ext.rfl' _).of_alloc e0
 clear e0
 refine ⟨fun n x w' => n = 0 ∧ x = 0 ∧ w' = w0, ⟨0, rfl, rfl, rfl, rfl⟩, ?_⟩
 rintro n us x w5 ⟨rfl, rfl, rfl⟩
 have h1 := (hr.ext x0).at 0 rfl
 rw [padd_zero] at h1
 exact ⟨⟨none, 0, 0⟩, h1, Br.mk (fun q => by simp at q) (fun _ => ⟨rfl, x0⟩)⟩
abbrev M5 (seed budget : Int) : Sm := ⟨seed, 5, (dk0 0, l5 seed 5), [], ⟨4096, 0, []⟩, min (max budget 1) 64, 0, []⟩
abbrev posV : List Value := [.int .i64 0, .int .i64 0, .int .i64 (-1), .int .i64 0, .int .i64 1, .int .i64 0, .int .i64 0, .int .i64 (-1), .int .i64 0, .int .i64 1]
theorem five_row {w : World} {g : Nat} {τ : TypeId} (hr : Row w g posV τ) {k : Nat} {p : Po} (hp : fiveK[k]? = some p) : LoadL w (padd (some ⟨g, 0, none⟩) (((k : Nat) : Int).toNat * 2)) 0 [.int .i64 p.1, .int .i64 p.2] := by
 have hk : k < 5 := (List.getElem?_eq_some_iff.1 hp).1
 have h2 : posV[k * 2]? = some (.int .i64 p.1) ∧ posV[k * 2 + 1]? = some (.int .i64 p.2) := by
  have : k = 0 ∨ k = 1 ∨ k = 2 ∨ k = 3 ∨ k = 4 := by omega
  rcases this with rfl | rfl | rfl | rfl | rfl <;> (cases hp; exact ⟨rfl, rfl⟩)
 refine LoadL_of fun i u hu => ?_
 rw [padd_padd, Nat.zero_add]
 match i, hu with
 | 0, hu => exact hr.at _ (by rw [← hu]; exact h2.1)
 | 1, hu => exact hr.at _ (by rw [← hu]; exact h2.2)
theorem begin_spec (seed budget : Int) (sl : Sl) (hsl : sl.n = 0) (w : World) : Calls Tryz.prog n_law19_begin #[.int .i64 seed, .int .i64 budget, .slice sl.a sl.n sl.c] w fun e w' =>
  ∃ (s o t : Nat) (F : Nat → Prop) (occ : Value) (s1 s2 s3 : Sl), e = .returned (.tuple #[.pointer (some ⟨s, 0, none⟩), .agg (xvL seed 5 (dk0 0) s1 s2 s3 ⟨none, 0, 0⟩ budget).toArray]) ∧ SF F w' s o t (M5 seed budget) occ ∧ Oc occ (fun _ => false) F w' ∧ RT (fun i => ¬ F i) w' (dk0 0, l5 seed 5) s1 s2 s3 ∧ Ext w w' ∧ ∀ i, F i → w.heap.size ≤ i := by
 apply (law19_begin.vc (a2 := sl))
 intro w0 e0
 have x0 : Ext w w0 := (Ext.rfl' _).of_alloc e0
 have z0 : w0.heap.size = w.heap.size + 1 := by rw [e0]; simp
 have ra0 : ∃ cs, Row w0 w.heap.size cs tS19 := ⟨_, by rw [e0]; exact Row.new w [_, _, _, _, _, _, _, _, _, _, _, _, _, _, _, _] _⟩
 clear e0
 obtain ⟨csa, ra0⟩ := ra0
 refine (wNew_spec seed 5 0 w0).mono ?_
 rintro e w1 ⟨o, t, F0, rfl, hF0, x1, fF0⟩
 have hlim : (min (max (5 : Int) 1) 16) = 5 := by decide
 rw [hlim] at hF0
 have z1 := x1.size
 refine ⟨_, rfl, x1.heap (by omega), (rNew13_spec (P := fun i => ¬ F0 i ∧ i ≠ w.heap.size) seed 5 0 w1).mono ?_⟩
 rw [hlim]
 rintro e w3 ⟨sa0, sb0, sc0, rfl, h3, x3⟩
 have z3 := x3.size
 refine ⟨_, _, _, _, _, sa0, sb0, sc0, ⟨none, 0, 0⟩, rfl, x3.heap (by omega), fun w13 e13 w14 e14 => ?_⟩
 have x14 : Ext w3 w14 := ((Ext.rfl' _).of_alloc e13).of_setRow e14 (Nat.le_refl _)
 have z14 : w14.heap.size = w3.heap.size + 1 := by rw [e14, e13]; simp
 have rr14 : Row w14 w3.heap.size (wvL seed 5 (dk0 0) sa0 sb0 sc0 ⟨none, 0, 0⟩) tR13 := by rw [e14]; exact Row.set (by rw [e13]; exact Row.new w3 [_, _, _, _, _, _, _, _, _] _) _
 clear e13 e14
 refine nope rfl ((wTable_spec (hF0.ext (x3.tr x14))).mono ?_)
 rintro e w16 ⟨rfl, hw⟩
 subst hw
 refine ⟨_, rfl, rfl, rfl, nope rfl fun w19 e19 => ?_⟩
 have x19 : Ext w16 w19 := (Ext.rfl' _).of_alloc e19
 have z19 : w19.heap.size = w16.heap.size + 1 := by rw [e19]; simp
 have rp19 : Row w19 w16.heap.size posV tP5 := by rw [e19]; exact Row.new w16 [_, _, _, _, _, _, _, _, _, _] _
 clear e19
 have x119 := x3.tr (x14.tr x19)
 have hR19 : RT (Nf (fun i => i ≠ w3.heap.size ∧ i ≠ w.heap.size) F0) w19 (dk0 0, l5 seed 0) sa0 sb0 sc0 := h3.same fun i hp hi => ⟨(x14.tr x19).heap hi, hp.1, by omega, hp.2⟩
 refine ⟨fun n x sd cp ro fl wt sa sb sc sdd wr => ∃ (k : Nat) (F : Nat → Prop), x = k ∧ k + n = 5 ∧ sd = seed ∧ cp = 5 ∧ ro = (dk0 0).room ∧ fl = (dk0 0).fails ∧ wt = (dk0 0).wait ∧ sdd = ⟨none, 0, 0⟩ ∧ WF F wr o t seed 5 (dk0 0, l5 seed k) [] ∧ RT (Nf (fun i => i ≠ w3.heap.size ∧ i ≠ w.heap.size) F) wr (dk0 0, l5 seed k) sa sb sc ∧ Ext w wr ∧ (∀ i, F i → w.heap.size ≤ i) ∧ Row wr w.heap.size csa tS19 ∧ (∃ cs, Row wr w3.heap.size cs tR13) ∧ Row wr w16.heap.size posV tP5, ⟨5, rfl, rfl, 0, F0, rfl, rfl, rfl, rfl, rfl, rfl, rfl, rfl, hF0.ext x119, hR19, x0.tr (x1.tr x119), fun i hi => by have := fF0 i hi; omega, ra0.ext (x1.tr x119), ⟨_, rr14.ext x19⟩, rp19⟩, ?_⟩
 clear hR19 hF0 fF0 h3 ra0 rr14 rp19
 rintro n us x sd cp ro fl wt sa sb sc sdd wr ⟨k, F, rfl, hkn, rfl, rfl, rfl, rfl, rfl, rfl, hT, hR, xw, fF, hra, ⟨csr, hrr⟩, hrp⟩
 have l1 := hra.lt
 have l2 := hrr.lt
 have l3 := hrp.lt
 have i33 : offT tS19 ∧ offT tR13 ∧ offT tP5 := by decide
 refine Br.mk (fun hb => ?_) (fun hb => ?_)
 ·simp only [decide_eq_true_eq] at hb
  have hk : k < 5 := by omega
  obtain ⟨p, hp⟩ := get_lt (l := fiveK) (i := k) (by have : fiveK.length = 5 := rfl; omega)
  have hld := l5_ld sd hp
  have hl5 := l5_len sd (k := k) (by omega)
  have wk : IntKind.wrap .i64 ((k : Int) + 1) = ((k + 1 : Nat) : Int) := by rw [wrap_in (by unfold inI; omega)]; omega
  refine ⟨⟨rfl, by omega, hb⟩, p.1, p.2, five_row hrp hp, (wfLoad_spec hT (Nat.zero_le _) p).mono ?_⟩
  rintro e w37 ⟨rfl, hr⟩
  rw [hld] at hr
  obtain ⟨F', h', ht⟩ := hr
  have kp : ∀ {j : Nat} {cs : List Value} {τ : TypeId}, Row wr j cs τ → offT τ → τ ≠ tWorld → τ ≠ tChg → w37.heap[j]? = wr.heap[j]? := fun hr q1 q2 q3 => ht.mod.same _ hr.lt (hT.no_row hr q1 q2 q3)
  have ka := kp hra i33.1 (by decide) (by decide)
  have kr := kp hrr i33.2.1 (by decide) (by decide)
  have kp5 := kp hrp i33.2.2 (by decide) (by decide)
  have ra37 := hra.same ka
  have rr37 := hrr.same kr
  have rp37 := hrp.same kp5
  have z37 := ht.mod.size
  have hR37 : RT (Nf (fun i => i ≠ w3.heap.size ∧ i ≠ w.heap.size) F') w37 (dk0 0, l5 sd k) sa sb sc := hR.same fun i hp hi => ⟨ht.mod.same i hi hp.1, fun q => (ht.sub i q).elim hp.1 (by omega), hp.2⟩
  obtain ⟨xw37, fF37⟩ := ht.fresh xw fF
  have xd := Ext.dr w37
  have zd : w37.drew.heap.size = w37.heap.size := rfl
  have ho : Okt (dk0 0, l5 sd k) := hT.okt (m := 0) (n := 0) ⟨Nat.zero_le _, (fun e he => by
   obtain ⟨x, hx, rfl⟩ := List.mem_map.1 he
   exact ⟨Int.le_refl _, Int.le_refl _⟩), (by
   have h5 := l5_nod sd
   unfold nodL at h5 ⊢
   have e5 : (l5 sd 5).map (·.1) = (l5 sd k).map (·.1) ++ ((fiveK.drop k).map fun p : Po => ((p, made sd p, false, (0 : Int)) : En)).map (·.1) := by
    rw [← List.map_append, l5, l5, ← List.map_append, List.take_append_drop]
    rfl
   rw [e5] at h5
   exact (List.nodup_append.1 h5).1)⟩ (by omega)
  have hin5 : inI 5 := by unfold inI; omega
  refine ⟨_, rfl, ka, kr, kp5, ⟨rfl, by omega, hb⟩, p.1, p.2, five_row (rp37.ext xd) hp, ?_, fun w54 e54 => ?_⟩
  ·refine (rLoadFew_spec (seed := sd) (cap := 5) (hR37.ext xd) ((h'.fw (N := fun i => i ≠ w3.heap.size ∧ i ≠ w.heap.size) (fun i hi => ⟨by omega, by omega⟩)).ext xd) ho (Nat.zero_le _) hin5 p (by simp only; omega) (l5_not sd hp)).mono ?_
   rintro e w41 ⟨ta, tb, tc, rfl, h41, x41⟩
   rw [hld] at h41 ⊢
   have z41 := x41.size
   refine ⟨_, _, _, _, _, ta, tb, tc, _, rfl, x41.heap (by omega), x41.heap (by omega), x41.heap (by omega), fun w51 e51 w52 e52 w53 e53 => ?_⟩
   have x52 : Ext w41 w52 := ((Ext.rfl' _).of_alloc e51).of_setRow e52 (Nat.le_refl _)
   clear e51 e52
   have xx := xd.tr (x41.tr x52)
   have rr52 := rr37.ext xx
   have h52 := h'.ext xx
   have hnw : ¬ F' w3.heap.size := h52.no_row rr52 i33.2.1 (by decide) (by decide)
   have n1 : w.heap.size ≠ w3.heap.size := by omega
   have n3 : w16.heap.size ≠ w3.heap.size := by omega
   exact ⟨n - 1, by omega, rfl, rfl, k + 1, F', wk, by omega, rfl, rfl, rfl, rfl, rfl, rfl, h52.same fun i hi => by rw [e53, setRow_other _ _ _ _ (fun q => hnw (by rw [← q]; exact hi))], (h41.ext x52).same fun i hp _ => ⟨by rw [e53, setRow_other _ _ _ _ hp.2.1], hp⟩, (xw37.tr xx).of_setRow e53 (by omega), fF37, (ra37.ext xx).same (by rw [e53, setRow_other _ _ _ _ n1]), ⟨_, by rw [e53]; exact Row.set rr52 _⟩, (rp37.ext xx).same (by rw [e53, setRow_other _ _ _ _ n3])⟩
  ·have x54 : Ext w37 w54 := xd.of_alloc e54
   have z54 : w54.heap.size = w37.heap.size + 1 := by rw [e54]; simp
   clear e54
   refine (rLoadFew_spec (seed := sd) (cap := 5) (P := Nf (fun i => i ≠ w3.heap.size ∧ i ≠ w.heap.size ∧ i ≠ w37.drew.heap.size) F') (hR37.same fun i hp hi => ⟨x54.heap hi, hp.1, hp.2.1, hp.2.2, by omega⟩) (fun i hi => ⟨fun q => by have := h'.lt q; omega, by omega, by omega, by omega⟩) ho (Nat.zero_le _) hin5 p (by simp only; omega) (l5_not sd hp)).mono ?_
   rintro e w55 ⟨ta, tb, tc, rfl, h55, x55⟩
   rw [hld] at h55 ⊢
   have z55 := x55.size
   refine ⟨_, _, _, _, _, ta, tb, tc, _, rfl, x55.heap (by omega), x55.heap (by omega), x55.heap (by omega), x55.heap (by omega), fun w65 e65 w66 e66 => ?_⟩
   have xx := x54.tr x55
   have x65 : Ext w37 w65 := xx.of_setRow e65 (by omega)
   have h65 : RT (Nf (fun i => i ≠ w3.heap.size ∧ i ≠ w.heap.size) F') w65 (dk0 0, l5 sd (k + 1)) ta tb tc := h55.same fun i hp _ => ⟨by rw [e65, setRow_other _ _ _ _ hp.2.2.2], hp.1, hp.2.1, hp.2.2.1⟩
   clear e65
   have rr65 := rr37.ext x65
   have h65' := h'.ext x65
   have hnw : ¬ F' w3.heap.size := h65'.no_row rr65 i33.2.1 (by decide) (by decide)
   have n1 : w.heap.size ≠ w3.heap.size := by omega
   have n3 : w16.heap.size ≠ w3.heap.size := by omega
   exact ⟨n - 1, by omega, rfl, rfl, k + 1, F', wk, by omega, rfl, rfl, rfl, rfl, rfl, rfl, h65'.same fun i hi => by rw [e66, setRow_other _ _ _ _ (fun q => hnw (by rw [← q]; exact hi))], h65.same fun i hp _ => ⟨by rw [e66, setRow_other _ _ _ _ hp.2.1], hp⟩, (xw37.tr x65).of_setRow e66 (by omega), fF37, (ra37.ext x65).same (by rw [e66, setRow_other _ _ _ _ n1]), ⟨_, by rw [e66]; exact Row.set rr65 _⟩, (rp37.ext x65).same (by rw [e66, setRow_other _ _ _ _ n3])⟩
 simp only [decide_eq_false_iff_not] at hb
 have hk5 : k = 5 := by omega
 subst hk5
 refine (simNew_spec hT budget).mono ?_
 rintro e w67 ⟨s, Fs, rfl, hS, x67, fFs⟩
 have z67 := x67.size
 refine ⟨_, rfl, x67.heap (by omega), x67.heap (by omega), x67.heap (by omega), (ref19New_spec sd 5 (dk0 0) sa sb sc ⟨none, 0, 0⟩ budget w67).mono ?_⟩
 rintro e w69 ⟨rfl, x69⟩
 have z69 := x69.size
 refine ⟨_, _, _, _, _, sa, sb, sc, ⟨none, 0, 0⟩, _, _, ⟨none, 0, 0⟩, _, _, ⟨none, 0, 0⟩, ⟨none, 0, 0⟩, rfl, x69.heap (by omega), x69.heap (by omega), x69.heap (by omega), fun w86 e86 w87 e87 => ?_⟩
 have x87 : Ext w69 w87 := ((Ext.rfl' _).of_alloc e86).of_setRow e87 (Nat.le_refl _)
 have z87 : w87.heap.size = w69.heap.size + 1 := by rw [e87, e86]; simp
 have rx87 : ∃ cs, Row w87 w69.heap.size cs tS19 := ⟨_, by rw [e87]; exact Row.set (by rw [e86]; exact Row.new w69 [_, _, _, _, _, _, _, _, _, _, _, _, _, _, _, _] _) _⟩
 obtain ⟨csx, rx87⟩ := rx87
 clear e86 e87
 have xx := x67.tr (x69.tr x87)
 refine ⟨fun a b c d e f g h i j k l m n o' p w' => a = sd ∧ b = 5 ∧ c = (dk0 0).room ∧ d = (dk0 0).fails ∧ e = (dk0 0).wait ∧ f = ⟨sa.a, sa.n, sa.c⟩ ∧ g = ⟨sb.a, sb.n, sb.c⟩ ∧ h = ⟨sc.a, sc.n, sc.c⟩ ∧ i = ⟨none, 0, 0⟩ ∧ j = 4096 ∧ k = 0 ∧ l = ⟨none, 0, 0⟩ ∧ m = min (max budget 1) 64 ∧ n = 0 ∧ o' = ⟨none, 0, 0⟩ ∧ p = ⟨none, 0, 0⟩ ∧ w' = w87, ⟨fun q x a b c d e f g h i j k l m n o' p w' => x = 0 ∧ a = sd ∧ b = 5 ∧ c = (dk0 0).room ∧ d = (dk0 0).fails ∧ e = (dk0 0).wait ∧ f = ⟨sa.a, sa.n, sa.c⟩ ∧ g = ⟨sb.a, sb.n, sb.c⟩ ∧ h = ⟨sc.a, sc.n, sc.c⟩ ∧ i = ⟨none, 0, 0⟩ ∧ j = 4096 ∧ k = 0 ∧ l = ⟨none, 0, 0⟩ ∧ m = min (max budget 1) 64 ∧ n = 0 ∧ o' = ⟨none, 0, 0⟩ ∧ p = ⟨none, 0, 0⟩ ∧ w' = w87, ⟨0, rfl, rfl, rfl, rfl, rfl, rfl, rfl, rfl, rfl, rfl, rfl, rfl, rfl, rfl, rfl, rfl, rfl, rfl, rfl, rfl, rfl⟩, ?_⟩, ?_⟩
 ·rintro q us x a b c d e f g h i j k l m n o' p w' ⟨rfl, rfl, rfl, rfl, rfl, rfl, rfl, rfl, rfl, rfl, rfl, rfl, rfl, rfl, rfl, rfl, rfl, rfl⟩
  refine Br.mk (fun q => by rw [hsl] at q; simp at q) (fun _ => ⟨rfl, rfl, rfl, rfl, rfl, rfl, rfl, rfl, rfl, rfl, rfl, rfl, rfl, rfl, rfl, rfl, rfl, rfl, rfl, rfl⟩)
 rintro us a b c d e f g h i j k l m n' o' p w' ⟨rfl, rfl, rfl, rfl, rfl, rfl, rfl, rfl, rfl, rfl, rfl, rfl, rfl, rfl, rfl, rfl, rfl⟩
 refine yes rfl fun w140 e140 w141 e141 => ?_
 have x141 : Ext w' w141 := ((Ext.rfl' _).of_alloc e140).of_setRow e141 (Nat.le_refl _)
 have z141 : w141.heap.size = w'.heap.size + 1 := by rw [e141, e140]; simp
 have rb141 : ∃ τ, Row w141 w'.heap.size [.slice none 0 0] τ ∧ offT τ ∧ τ ≠ tWorld ∧ τ ≠ tChg ∧ τ ≠ tSim ∧ τ ≠ Q.tQueue ∧ τ ≠ Q.tItem ∧ τ ≠ tCe := ⟨37, by rw [e141]; exact Row.set (by rw [e140]; exact Row.new w' [_] _) _, by decide⟩
 clear e140 e141
 obtain ⟨τb, rb141, ob⟩ := rb141
 have xx141 := xx.tr x141
 have hS141 := hS.ext (x69.tr (x87.tr x141))
 refine (sOccupy_spec hS141 (.func 42) #[] #[.pointer (some ⟨w'.heap.size, 0, none⟩)]).mono ?_
 rintro e w142 ⟨rfl, ⟨F2, hS2, hT2⟩, hm2⟩
 obtain ⟨gS, sdS, hrS, -, hsF, -, -⟩ := hS141.row
 have hra141 := (hra.ext xx141)
 have hrr141 := (hrr.ext xx141)
 have hrp141 := (hrp.ext xx141)
 have hrx141 := rx87.ext x141
 have hsl : wr.heap.size ≤ s ∨ F s := (fFs s hsF).symm
 have hsw := hS.lt hsF
 have od : tS19 ≠ tSim ∧ tR13 ≠ tSim ∧ tP5 ≠ tSim ∧ tS19 ≠ Q.tQueue ∧ tS19 ≠ Q.tItem ∧ tS19 ≠ tCe := by decide
 have z142 := hm2.size
 refine ⟨rfl, hm2.same _ hra141.lt (hra141.ne hrS od.1), hm2.same _ hrr141.lt (hrr141.ne hrS od.2.1), hm2.same _ hrp141.lt (hrp141.ne hrS od.2.2.1), hm2.same _ hrx141.lt (hrx141.ne hrS od.1), fun w143 e143 => ?_⟩
 have xd142 := Ext.dr w142
 have zd142 : w142.drew.heap.size = w142.heap.size := rfl
 have hra142 := (hm2.row hra141 (hra141.ne hrS od.1)).ext xd142
 have rb142 := (hm2.row rb141 (rb141.ne hrS ob.2.2.2.1)).ext xd142
 have hS142 := hS2.ext xd142
 have hnw : ¬ F2 w.heap.size := hS142.no_row2 hra142 i33.1 (by decide) (by decide) od.1 od.2.2.2.1 od.2.2.2.2.1 od.2.2.2.2.2
 have hnb : ¬ F2 w'.heap.size := hS142.no_row2 rb142 ob.1 ob.2.1 ob.2.2.1 ob.2.2.2.1 ob.2.2.2.2.1 ob.2.2.2.2.2.1 ob.2.2.2.2.2.2
 have hS143 : SF F2 w143 s o t (M5 a budget) (.func (.func 42) #[] #[.pointer (some ⟨w'.heap.size, 0, none⟩)]) := hS142.same fun i hi => by rw [e143, setRow_other _ _ _ _ (fun q => hnw (by rw [← q]; exact hi))]
 have nbw : w'.heap.size ≠ w.heap.size := by have := xx.size; omega
 have rb143 : Row w143 w'.heap.size [.slice none 0 0] τb := rb142.same (by rw [e143, setRow_other _ _ _ _ nbw])
 have z143 : w143.heap.size = w142.heap.size := by rw [e143]; simp
 have hF2 : ∀ i, F2 i → w.heap.size ≤ i := fun i hi => by
  rcases hT2.sub i hi with q | q
  ·rcases fFs i q with q | q
   ·exact fF i q
   ·omega
  ·have := xx141.size; omega
 have hFr : ∀ i, ¬ F i → i < wr.heap.size → ¬ F2 i := fun i hn hi q => by
  have hx := xx141.size
  rcases hT2.sub i q with q | q
  ·exact (fFs i q).elim hn (by omega)
  ·omega
 refine ⟨s, o, t, F2, _, sa, sb, sc, rfl, hS143, ⟨fun i => i = w'.heap.size, fun i hi => ⟨by rw [hi]; exact rb143.lt, by rw [hi]; exact hnb⟩, fun w2 hk c hc => ?_⟩, hR.same fun i hp hi => ⟨?_, hFr i hp.1 hi⟩, ?_, hF2⟩
 ·exact callV_of (by kernel_rfl) rfl (begin1_spec c (rb143.same (hk _ rfl)))
 ·rw [e143, setRow_other _ _ _ _ hp.2.2]
  have hx := xx141.size
  have hix : i ≠ s := fun q => by
   rcases fFs s hsF with q2 | q2
   ·exact hp.1 (q ▸ q2)
   ·omega
  exact (hm2.same i (by omega) hix).trans (xx141.heap hi)
 ·have hsw' : w.heap.size ≤ s := by
   rcases fFs s hsF with q2 | q2
   ·exact fF s q2
   ·omega
  exact ((hm2.ext (xw.tr xx141) fun i hi => hi ▸ hsw').tr xd142).of_setRow e143 (Nat.le_refl _)
end Go.Proofs.YtalpkjfpmdpbiaaGreatDoor
namespace Go.Proofs.YtalpkjfpmdpbiaaGreatDoor
open Go Go.Vc Go.RowKit Go.Proofs Go.Chk Go.Runs Go.Code Go.Que Go.Flw
set_option maxRecDepth 100000
theorem nb_ne {c n : Ce} (h : n ∈ nbK c) : n ≠ c := by
 unfold nbK lowK overK at h
 simp only [List.mem_cons, List.not_mem_nil, or_false] at h
 intro q
 subst q
 rcases h with h | h | h | h | h | h <;> (have h1 := congrArg (·.1) h; have h2 := congrArg (·.2.1) h; have h3 := congrArg (·.2.2) h; simp only at h1 h2 h3; omega)
theorem updV_same (V : Ce → Int) (c : Ce) (b : Int) : updV V c b c = b := if_pos rfl
theorem updV_ne {V : Ce → Int} {c c' : Ce} {b : Int} (h : c' ≠ c) : updV V c b c' = V c' := if_neg h
theorem may0 : bMay 0 = true := by decide +kernel
theorem may3 : bMay 3 = true := by decide +kernel
section
variable {M : Sm} {V : Ce → Int} {c : Ce} {O : Ce → Bool}
theorem five0 {c : Ce} (hp : pos c = (0, 0)) : pos c ∈ fiveK := by rw [hp]; decide
theorem edit_sand (hs : Hs M.T.2 V) (hp : pos c = (0, 0)) (hy : inY c) (hn : ∀ n ∈ nbK c, delayK (V n) = 0) :
  ∃ l' ch', (setE M.T.2 c 3).2 = 0 ∧ editM M c 3 = { M with T := (M.T.1, l'), ch := ch', q := (qadd M.q c (M.now + 2)).1 } ∧ Hs l' (updV V c 3) ∧ ch'.length ≤ M.ch.length + 1 := by
 obtain ⟨e1, h1⟩ := hs.set (five0 hp) hy may3
 have hf : atE (setE M.T.2 c 3).1 = updV V c 3 := funext h1.v
 have hw : wakesK (updV V c 3) c = [c] := wakesK_own (by rw [updV_same, delay_sand]; decide) fun n hm => by rw [updV_ne (nb_ne hm)]; exact hn n hm
 refine ⟨_, _, e1, ?_, h1, wsC_len' M.T.2 M.ch c 3⟩
 unfold editM
 rw [if_pos e1, hf]
 unfold wakeQ
 rw [hw]
 show _ = ({ M with T := _, ch := _, q := _ } : Sm)
 simp only [List.foldl_cons, List.foldl_nil, updV_same, delay_sand]
theorem edit_air (hs : Hs M.T.2 V) (hp : pos c = (0, 0)) (hy : inY c) (hn : ∀ n ∈ nbK c, delayK (V n) = 0) :
  ∃ l', (setE M.T.2 c 0).2 = 0 ∧ editM M c 0 = { M with T := (M.T.1, l'), ch := wsC M.T.2 M.ch c 0 } ∧ Hs l' (updV V c 0) := by
 obtain ⟨e1, h1⟩ := hs.set (five0 hp) hy may0
 have hf : atE (setE M.T.2 c 0).1 = updV V c 0 := funext h1.v
 have hw : wakesK (updV V c 0) c = [] := wakesK_none (by rw [updV_same]; exact delay_air) fun n hm => by rw [updV_ne (nb_ne hm)]; exact hn n hm
 refine ⟨_, e1, ?_, h1⟩
 unfold editM
 rw [if_pos e1, hf]
 unfold wakeQ
 rw [hw]
 rfl
theorem edit_none (hs : Hs M.T.2 V) (hp : pos c = (0, 0)) (hy : inY c) (hn : ∀ n ∈ nbK c, delayK (V n) = 0) (h0 : V c = 0) :
  ∃ l', (setE M.T.2 c 0).2 = 0 ∧ editM M c 0 = { M with T := (M.T.1, l') } ∧ Hs l' V := by
 obtain ⟨l', e1, e2, h1⟩ := edit_air hs hp hy hn
 have ev : updV V c 0 = V := funext fun x => by
  unfold updV
  split
  ·rename_i q; rw [q, h0]
  ·rfl
 have ec : wsC M.T.2 M.ch c 0 = M.ch := by unfold wsC; rw [if_neg fun q => q.2 (by rw [hs.v, h0])]
 rw [ev] at h1
 exact ⟨l', e1, by rw [e2, ec], h1⟩
theorem low_ne (c : Ce) : lowK c ≠ c := nb_ne (by simp [nbK])
theorem upd_fall (hs : Hs M.T.2 V) (hp : pos c = (0, 0)) (hy : inY c) (hy2 : inY (lowK c)) (hV : V c = 3) (hl : V (lowK c) = 0) (hn : ∀ n ∈ nbK c, delayK (V n) = 0) (hn2 : ∀ n ∈ nbK (lowK c), n ≠ c → delayK (V n) = 0) (hO : O (lowK c) = false) :
  ∃ l' ch', updM O M c = { M with T := (M.T.1, l'), ch := ch', q := (qadd M.q (lowK c) (M.now + 2)).1 } ∧ Hs l' (updV (updV V c 0) (lowK c) 3) ∧ ch'.length ≤ M.ch.length + 2 := by
 have hf : atE M.T.2 = V := funext hs.v
 have hr := ready5 hs hp
 have hnx : nextK (atE M.T.2) c = [(c, 0), (lowK c, 3)] := by rw [hf]; exact next_air hV hl
 have hh : ¬ heldM O M c = true := by unfold heldM; rw [hO, Bool.and_false, Bool.and_false]; decide
 obtain ⟨l1, a1, a2, a3⟩ := edit_air hs hp hy hn
 have hc1 : changeM M (c, 0) = editM M c 0 := by unfold changeM; rw [if_neg (by simp only; rw [hf, hV]; decide)]
 have e1 : changeM M (c, 0) = { M with T := (M.T.1, l1), ch := wsC M.T.2 M.ch c 0 } := hc1.trans a2
 have hn2' : ∀ n ∈ nbK (lowK c), delayK (updV V c 0 n) = 0 := fun n hm => by
  by_cases q : n = c
  ·rw [q, updV_same]; exact delay_air
  ·rw [updV_ne q]; exact hn2 n hm q
 obtain ⟨l2, ch2, b1, b2, b3, b4⟩ := edit_sand (M := { M with T := (M.T.1, l1), ch := wsC M.T.2 M.ch c 0 }) (c := lowK c) a3 hp hy2 hn2'
 have hc2 : changeM { M with T := (M.T.1, l1), ch := wsC M.T.2 M.ch c 0 } (lowK c, 3) = editM { M with T := (M.T.1, l1), ch := wsC M.T.2 M.ch c 0 } (lowK c) 3 := by
  unfold changeM
  rw [if_neg (by simp only; rw [a3.v, updV_ne (low_ne c), hl]; decide)]
 refine ⟨l2, ch2, ?_, b3, by have := wsC_len' M.T.2 M.ch c 0; simp only at b4; omega⟩
 unfold updM
 rw [if_neg (by rw [hr]; decide), if_neg hh, hnx]
 show changeM (changeM M (c, 0)) (lowK c, 3) = _
 rw [e1, hc2, b2]
theorem upd_held (hs : Hs M.T.2 V) (hp : pos c = (0, 0)) (hy : inY c) (hV : V c = 3) (hl : V (lowK c) = 0) (hn : ∀ n ∈ nbK c, delayK (V n) = 0) (hO : O (lowK c) = true) :
  ∃ l' ch', updM O M c = { M with T := (M.T.1, l'), ch := ch', drops := M.drops ++ [lowK c] } ∧ Hs l' (updV V c 0) ∧ ch'.length ≤ M.ch.length + 1 := by
 have hf : atE M.T.2 = V := funext hs.v
 have hr := ready5 hs hp
 have hnx : nextK (atE M.T.2) c = [(c, 0), (lowK c, 3)] := by rw [hf]; exact next_air hV hl
 have hh : heldM O M c = true := by unfold heldM; rw [hO, hnx, hf, hV]; rfl
 obtain ⟨l1, a1, a2, a3⟩ := edit_air (M := { M with drops := M.drops ++ [lowK c] }) hs hp hy hn
 have hc1 : changeM { M with drops := M.drops ++ [lowK c] } (c, 0) = editM { M with drops := M.drops ++ [lowK c] } c 0 := by unfold changeM; rw [if_neg (by simp only; rw [hf, hV]; decide)]
 refine ⟨l1, _, ?_, a3, wsC_len' M.T.2 M.ch c 0⟩
 unfold updM
 rw [if_neg (by rw [hr]; decide), if_pos hh, hc1, a2]
end
end Go.Proofs.YtalpkjfpmdpbiaaGreatDoor
namespace Go.Proofs.YtalpkjfpmdpbiaaGreatDoor
open Go Go.Vc Go.RowKit Go.Proofs Go.Chk Go.Runs Go.Code Go.Que Go.Flw
set_option maxRecDepth 100000
def midK (c : Ce) : Ce := (5 + c.1 % 6, 14 + c.2.1 % 9, 5 + c.2.2 % 6)
theorem midK_in (c : Ce) : (5 ≤ (midK c).1 ∧ (midK c).1 ≤ 10) ∧ (14 ≤ (midK c).2.1 ∧ (midK c).2.1 ≤ 22) ∧ 5 ≤ (midK c).2.2 ∧ (midK c).2.2 ≤ 10 := by
 unfold midK
 simp only
 omega
theorem Middle_spec (c : Ce) (w : World) : Calls Tryz.prog n_ref19_Middle #[cev c] w fun e w' => e = .returned (cev (midK c)) ∧ Ext w w' := by
 apply ref19_Middle.vc
 intro w0 e0 w1 e1
 have x1 : Ext w w1.drew := (((Ext.rfl' _).of_alloc e0).of_alloc e1).tr (Ext.dr w1)
 have z0 : w0.heap.size = w.heap.size + 1 := by rw [e0]; simp
 have z1 : w1.drew.heap.size = w.heap.size + 2 := by show w1.heap.size = _; rw [e1]; simp [z0]
 have r1 : Row w1.drew w.heap.size (clv c) tCe := ((by rw [e0]; exact Row.new w [_, _, _] _ : Row w0 w.heap.size _ tCe).ext ((Ext.rfl' _).of_alloc e1)).ext (Ext.dr w1)
 clear e0 e1
 have hb := midK_in c
 unfold midK at hb ⊢
 simp only at hb
 refine (rMod_spec c.1 6 (by decide) (by decide) w1.drew).mono ?_
 rintro e w2 ⟨rfl, h2⟩
 have x2 : Ext w1.drew w2 := by rw [h2]; exact Ext.rfl' _
 have z2 := x2.size
 refine ⟨_, rfl, x2.heap (by omega), x2.heap (by omega), (r1.ext x2).loadL (o := 2) (fun j hj => by
  match j, hj with
  | 0, _ => rfl), (r1.ext x2).loadL (o := 1) (fun j hj => by
  match j, hj with
  | 0, _ => rfl), (rMod_spec c.2.1 9 (by decide) (by decide) w2).mono ?_⟩
 rintro e w4 ⟨rfl, h4⟩
 have x4 : Ext w2 w4 := by rw [h4]; exact Ext.rfl' _
 have z4 := x4.size
 have x24 := x2.tr x4
 refine ⟨_, rfl, x4.heap (by omega), x4.heap (by omega), (r1.ext x24).loadL (o := 2) (fun j hj => by
  match j, hj with
  | 0, _ => rfl), (rMod_spec c.2.2 6 (by decide) (by decide) w4).mono ?_⟩
 rintro e w6 ⟨rfl, h6⟩
 have x6 : Ext w4 w6 := by rw [h6]; exact Ext.rfl' _
 have z6 := x6.size
 have q1 : IntKind.wrap .i64 (5 + c.1 % 6) = 5 + c.1 % 6 := wrap_in (by unfold inI; omega)
 have q2 : IntKind.wrap .i64 (14 + c.2.1 % 9) = 14 + c.2.1 % 9 := wrap_in (by unfold inI; omega)
 have q3 : IntKind.wrap .i64 (5 + c.2.2 % 6) = 5 + c.2.2 % 6 := wrap_in (by unfold inI; omega)
 refine ⟨_, rfl, x6.heap (by omega), x6.heap (by omega), fun w8 e8 => ?_⟩
 rw [q1, q2, q3]
 exact ⟨rfl, (x1.tr (x24.tr x6)).of_setRow e8 (by omega)⟩
def V0 (seed : Int) : Ce → Int := atE (l5 seed 5)
def up0 (c : Ce) : Prop := (1 ≤ c.1 ∧ c.1 ≤ 14) ∧ (15 ≤ c.2.1 ∧ c.2.1 ≤ 30) ∧ 1 ≤ c.2.2 ∧ c.2.2 ≤ 14
theorem up0.pos {c : Ce} (h : up0 c) : pos c = (0, 0) := by
 unfold up0 at h
 unfold Go.Chk.pos
 exact Prod.ext (by show c.1 / 16 = 0; omega) (by show c.2.2 / 16 = 0; omega)
theorem up0.y {c : Ce} (h : up0 c) : inY c := by unfold up0 at h; unfold inY; omega
theorem up0.sml {c : Ce} (h : up0 c) : smlC c := by unfold up0 at h; unfold smlC; omega
theorem up0.air {c : Ce} (h : up0 c) (seed : Int) : V0 seed c = 0 := l5_air seed (by unfold up0 at h; omega) (five0 h.pos)
theorem up0.near {c : Ce} (h : up0 c) (seed : Int) : ∀ n ∈ nbK c, V0 seed n = 0 := fun n hn => by
 unfold up0 at h
 unfold nbK lowK overK at hn
 simp only [List.mem_cons, List.not_mem_nil, or_false] at hn
 have key : ∀ n : Ce, (0 ≤ n.1 ∧ n.1 ≤ 15) → (14 ≤ n.2.1 ∧ n.2.1 < 32) → (0 ≤ n.2.2 ∧ n.2.2 ≤ 15) → V0 seed n = 0 := fun n h1 h2 h3 => l5_air seed h2 (five0 (Prod.ext (by show n.1 / 16 = 0; omega) (by show n.2.2 / 16 = 0; omega)))
 rcases hn with rfl | rfl | rfl | rfl | rfl | rfl <;> exact key _ (by simp only; omega) (by simp only; omega) (by simp only; omega)
theorem b11 : (1 : Int) ≤ 1 ∧ (1 : Int) ≤ 64 := by decide
theorem n00 : (0 : Int) ≤ 0 ∧ (0 : Int) ≤ ((0 : Nat) : Int) := by decide
theorem n0t : (0 : Int) ≤ 0 ∧ (0 : Int) ≤ 1099511627776 := by decide
theorem n1t : (0 : Int) ≤ 1 ∧ (1 : Int) ≤ 1099511627776 := by decide
theorem n2t : (0 : Int) ≤ 2 ∧ (2 : Int) ≤ 1099511627776 := by decide
theorem sok5 (seed budget : Int) : Sok (M5 seed budget) 0 := ⟨n00, Nat.le_refl _, n0t, Nat.le_refl _⟩
section
variable {F F' : Nat → Prop} {w w' : World} {s o t : Nat} {M M' : Sm} {occ : Value} {O : Ce → Bool}
theorem sfTake_spec (h : SF F w s o t M occ) : Calls Tryz.prog n_world_World_Take #[.pointer (some ⟨o, 0, none⟩)] w fun e w' => ∃ sc : Sl, e = .returned (.slice sc.a sc.n sc.c) ∧ OwnK 0 tChg 4 w' sc (M.ch.map cgv) ∧ SmRes F w s o t { M with ch := [] } occ w' := by
 obtain ⟨Fw, hW, hsub, hres⟩ := h.world
 refine (wTake_spec hW).mono ?_
 rintro e w' ⟨sc, F', rfl, ho, hW', hs, hm⟩
 exact ⟨sc, rfl, ho, hres ⟨F', hW', hm.mono fun i _ q => q ▸ hW.hasO, fun i hi => .inl (hs i hi)⟩⟩
end
theorem up5 : up0 (5, 20, 5) ∧ up0 (7, 20, 5) ∧ up0 (5, 19, 5) := by unfold up0; decide
set_option maxHeartbeats 1000000 in
theorem lives19_spec (w : World) : Calls Tryz.prog n_law19_lives #[] w fun e w' => e = .returned (.bool true) ∧ Ext w w' := by
 apply law19_lives.vc
 refine (begin_spec 1 1 ⟨none, 0, 0⟩ rfl w).mono ?_
 rintro e w0 ⟨s, o, t, F, occ, s1, s2, s3, rfl, hS, hO, -, x0, fF⟩
 have z0 := x0.size
 refine ⟨_, _, _, _, _, _, s1, s2, s3, ⟨none, 0, 0⟩, _, _, ⟨none, 0, 0⟩, _, _, ⟨none, 0, 0⟩, ⟨none, 0, 0⟩, rfl, fun w18 e18 w19 e19 => nope rfl ?_⟩
 have x19 : Ext w0 w19 := ((Ext.rfl' _).of_alloc e18).of_setRow e19 (Nat.le_refl _)
 have z19 : w19.heap.size = w0.heap.size + 1 := by rw [e19, e18]; simp
 clear e18 e19
 have nf : ∀ {F1 F2 : Nat → Prop} {a b : World}, Turned F F1 w19 a → Turned F1 F2 a b → b.heap[w0.heap.size]? = a.heap[w0.heap.size]? := fun ta tb => tb.mod.same _ (by have := ta.mod.size; omega) fun hf => by
  rcases ta.sub _ hf with q | q
  ·have := hS.lt q; omega
  ·omega
 have hs0 : Hs (M5 1 1).T.2 (V0 1) := l5_hs 1
 obtain ⟨u1, u2, u3⟩ := up5
 have d1 : ∀ n ∈ nbK (5, 20, 5), delayK (V0 1 n) = 0 := fun n hn => by rw [u1.near 1 n hn]; exact delay_air
 obtain ⟨l1, ch1, a1, a2, a3, a4⟩ := edit_sand hs0 u1.pos u1.y d1
 refine (sEdit_spec (hS.ext x19) (5, 20, 5) u1.sml.wide 3 ((sok5 1 1).mono (by omega))).mono ?_
 rintro e w20 ⟨rfl, F1, hS1, t1⟩
 rw [a2] at hS1
 have d2 : ∀ n ∈ nbK (7, 20, 5), delayK (updV (V0 1) (5, 20, 5) 3 n) = 0 := fun n hn => by
  rw [updV_ne (by
   rintro rfl
   revert hn
   decide), u2.near 1 n hn]
  exact delay_air
 obtain ⟨l2, ch2, b1, b2, b3, b4⟩ := edit_sand (M := { M5 1 1 with T := (dk0 0, l1), ch := ch1, q := (qadd (M5 1 1).q (5, 20, 5) ((M5 1 1).now + 2)).1 }) a3 u2.pos u2.y d2
 refine ⟨_, rfl, nf (Turned.refl _ _) t1, ?_⟩
 have k1 : Sok { M5 1 1 with T := (dk0 0, l1), ch := ch1, q := (qadd (M5 1 1).q (5, 20, 5) ((M5 1 1).now + 2)).1 } 10 := by
  have := (sok5 1 1).edit (5, 20, 5) 3
  rw [a2] at this
  exact this.mono (by omega)
 refine (sEdit_spec hS1 (7, 20, 5) u2.sml.wide 3 (k1.mono (by omega))).mono ?_
 rintro e w22 ⟨rfl, F2, hS2, t2⟩
 have k2 := k1.edit (7, 20, 5) 3
 have T2 := t1.trans t2
 refine ⟨_, rfl, nf t1 t2, ?_⟩
 have e2 : editM { M5 1 1 with T := (dk0 0, l1), ch := ch1, q := (qadd (M5 1 1).q (5, 20, 5) ((M5 1 1).now + 2)).1 } (7, 20, 5) 3 = ⟨1, 5, (dk0 0, l2), ch2, ⟨4096, 0, [(2, (5, 20, 5)), (2, (7, 20, 5))]⟩, 1, 0, []⟩ := by rw [b2]; rfl
 rw [e2] at hS2 k2
 have k2 := k2.mono (show 10 + 7 ≤ 100 by decide)
 have hO2 := (hO.ext x19).turned T2
 have c12 : ((5, 20, 5) : Ce) ≠ (7, 20, 5) := by decide
 have g1 : dueM ⟨1, 5, (dk0 0, l2), ch2, ⟨4096, 0, [(2, (5, 20, 5)), (2, (7, 20, 5))]⟩, 1, 0, []⟩ = [] := rfl
 have g2 : tickM (fun _ => false) ⟨1, 5, (dk0 0, l2), ch2, ⟨4096, 0, [(2, (5, 20, 5)), (2, (7, 20, 5))]⟩, 1, 0, []⟩ = ⟨1, 5, (dk0 0, l2), ch2, ⟨4096, 0, [(2, (5, 20, 5)), (2, (7, 20, 5))]⟩, 1, 1, []⟩ := by
  unfold tickM; rw [g1]; rfl
 refine (tick_spec hS2 hO2 (by rw [g1]; intro k y hk; simp at hk) (k2.mono (by omega)) b11).mono ?_
 rw [g2]
 rintro e w24 ⟨rfl, F3, hS3, t3⟩
 have T3 := T2.trans t3
 have hO3 := hO2.turned t3
 refine ⟨_, rfl, nf T2 t3, ?_⟩
 have g3 : dueM ⟨1, 5, (dk0 0, l2), ch2, ⟨4096, 0, [(2, (5, 20, 5)), (2, (7, 20, 5))]⟩, 1, 1, []⟩ = [(5, 20, 5)] := rfl
 have g4 : startM ⟨1, 5, (dk0 0, l2), ch2, ⟨4096, 0, [(2, (5, 20, 5)), (2, (7, 20, 5))]⟩, 1, 1, []⟩ = ⟨1, 5, (dk0 0, l2), ch2, ⟨4096, 0, [(2, (7, 20, 5))]⟩, 1, 2, []⟩ := rfl
 have v1 : updV (updV (V0 1) (5, 20, 5) 3) (7, 20, 5) 3 (5, 20, 5) = 3 := by rw [updV_ne c12, updV_same]
 have vl : updV (updV (V0 1) (5, 20, 5) 3) (7, 20, 5) 3 (5, 19, 5) = 0 := by rw [updV_ne (by decide), updV_ne (by decide)]; exact u3.air 1
 have far : ∀ {n : Ce}, n ≠ (5, 20, 5) → n ≠ (7, 20, 5) → V0 1 n = 0 → delayK (updV (updV (V0 1) (5, 20, 5) 3) (7, 20, 5) 3 n) = 0 := fun h1 h2 h3 => by rw [updV_ne h2, updV_ne h1, h3]; exact delay_air
 have k3 : Sok ⟨1, 5, (dk0 0, l2), ch2, ⟨4096, 0, [(2, (5, 20, 5)), (2, (7, 20, 5))]⟩, 1, 1, []⟩ 100 := ⟨k2.l, k2.c, n1t, k2.d⟩
 have k3s : Sok ⟨1, 5, (dk0 0, l2), ch2, ⟨4096, 0, [(2, (7, 20, 5))]⟩, 1, 2, []⟩ 100 := ⟨k2.l, k2.c, n2t, k2.d⟩
 obtain ⟨l4, ch4, f1, f2, f3⟩ := upd_fall (M := ⟨1, 5, (dk0 0, l2), ch2, ⟨4096, 0, [(2, (7, 20, 5))]⟩, 1, 2, []⟩) (O := fun _ => false) (c := (5, 20, 5)) b3 u1.pos u1.y u3.y v1 vl (fun n hn => far (nb_ne hn) (by
  rintro rfl
  revert hn
  decide) (u1.near 1 n hn)) (fun n hn hne => far hne (by
  rintro rfl
  revert hn
  decide) (u3.near 1 n hn)) rfl
 have f1 : updM (fun _ => false) ⟨1, 5, (dk0 0, l2), ch2, ⟨4096, 0, [(2, (7, 20, 5))]⟩, 1, 2, []⟩ (5, 20, 5) = ⟨1, 5, (dk0 0, l4), ch4, ⟨4096, 0, [(2, (7, 20, 5)), (4, (5, 19, 5))]⟩, 1, 2, []⟩ := f1
 have g5 : tickM (fun _ => false) ⟨1, 5, (dk0 0, l2), ch2, ⟨4096, 0, [(2, (5, 20, 5)), (2, (7, 20, 5))]⟩, 1, 1, []⟩ = ⟨1, 5, (dk0 0, l4), ch4, ⟨4096, 0, [(2, (7, 20, 5)), (4, (5, 19, 5))]⟩, 1, 2, []⟩ := by
  unfold tickM
  rw [g3, g4]
  exact f1
 refine (tick_spec hS3 hO3 (by
  rw [g3, g4]
  intro k y hk
  match k, hk with
  | 0, hk =>
    cases hk
    refine ⟨u1.sml, ?_⟩
    show wetK (atE l2 (5, 20, 5)) = false
    rw [b3.v, v1]
    decide) (k3.mono (by omega)) b11).mono ?_
 rw [g5, g3]
 rintro e w26 ⟨rfl, F4, hS4, t4⟩
 have T4 := T3.trans t4
 have hO4 := hO3.turned t4
 have k4 := k3s.upd (fun _ => false) (5, 20, 5)
 rw [f1] at k4
 refine ⟨_, rfl, nf T3 t4, yes rfl ?_⟩
 have g6 : dueM ⟨1, 5, (dk0 0, l4), ch4, ⟨4096, 0, [(2, (7, 20, 5)), (4, (5, 19, 5))]⟩, 1, 2, []⟩ = [(7, 20, 5)] := rfl
 refine (tick_spec hS4 hO4 (by
  rw [g6]
  intro k y hk
  match k, hk with
  | 0, hk =>
    cases hk
    refine ⟨u2.sml, ?_⟩
    show wetK (atE l4 (7, 20, 5)) = false
    rw [f2.v, updV_ne (by decide), updV_ne (by decide), updV_same]
    decide) (k4.mono (by omega)) b11).mono ?_
 rw [g6]
 rintro e w28 ⟨rfl, F5, hS5, t5⟩
 have T5 := T4.trans t5
 refine ⟨_, rfl, nf T4 t5, rfl, ?_⟩
 exact (T5.fresh (x0.tr x19) fF).1
end Go.Proofs.YtalpkjfpmdpbiaaGreatDoor
