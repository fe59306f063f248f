import Derived.Test.YtalpkjfpmdpbiaaGreatDoorKT
import Derived.Test.YtalpkjfpmdpbiaaGreatDoorGF
import Derived.Test.YtalpkjfpmdpbiaaGreatDoorP
import Derived.Test.YtalpkjfpmdpbiaaGreatDoorWA
import Derived.Test.YtalpkjfpmdpbiaaGreatDoorQA
set_option linter.all false
namespace Go.Proofs.YtalpkjfpmdpbiaaGreatDoor
open Go Go.Vc Go.RowKit Go.Proofs Go.Chk Go.Runs Go.Code Go.Flw
def wideC (c : Ce) : Prop := (-2000000000 ≤ c.1 ∧ c.1 ≤ 2000000000) ∧ (-2000000000 ≤ c.2.1 ∧ c.2.1 ≤ 2000000000) ∧ -2000000000 ≤ c.2.2 ∧ c.2.2 ≤ 2000000000
def smlC (c : Ce) : Prop := (-1000000000 ≤ c.1 ∧ c.1 ≤ 1000000000) ∧ (-1000000000 ≤ c.2.1 ∧ c.2.1 ≤ 1000000000) ∧ -1000000000 ≤ c.2.2 ∧ c.2.2 ≤ 1000000000
theorem wideC.ok {c : Ce} (h : wideC c) : okC c := by unfold wideC at h; unfold okC inI; omega
theorem smlC.wide {c : Ce} (h : smlC c) : wideC c := by unfold smlC at h; unfold wideC; omega
theorem nb_ok {c : Ce} (h : wideC c) {n : Ce} (hn : n ∈ nbK c) : okC n := by
 unfold wideC at h
 unfold nbK lowK overK at hn
 simp only [List.mem_cons, List.not_mem_nil, or_false] at hn
 rcases hn with rfl | rfl | rfl | rfl | rfl | rfl <;> (unfold okC inI; simp only; omega)
theorem nb_wide {c : Ce} (h : smlC c) {n : Ce} (hn : n ∈ nbK c) : wideC n := by
 unfold smlC at h
 unfold nbK lowK overK at hn
 simp only [List.mem_cons, List.not_mem_nil, or_false] at hn
 rcases hn with rfl | rfl | rfl | rfl | rfl | rfl <;> (unfold wideC; simp only; omega)
theorem cut_spec (n : Int) (h : -2147483648 ≤ n ∧ n ≤ 2147483648) (w : World) : Calls Tryz.prog n_cell_cut #[.int .i64 n] w fun e w' => e = .returned (.int .i64 n) ∧ w' = w := by
 apply cell_cut.vc
 unfold cell_cut.pre
 have e1 : (if (-2147483648) > n then (-2147483648) else n) = n := if_neg (by omega)
 rw [e1, if_neg (by omega)]
 exact ⟨rfl, rfl⟩
theorem Cut_spec (c : Ce) (h : (-2147483648 ≤ c.1 ∧ c.1 ≤ 2147483648) ∧ (-2147483648 ≤ c.2.1 ∧ c.2.1 ≤ 2147483648) ∧ -2147483648 ≤ c.2.2 ∧ c.2.2 ≤ 2147483648) (w : World) : Calls Tryz.prog n_cell_Cut #[cev c] w fun e w' => e = .returned (cev c) ∧ Ext w w' := by
 apply cell_Cut.vc
 intro w0 e0 w1 e1
 have x1 : Ext w w1 := ((Ext.rfl' _).of_alloc e0).of_alloc e1
 have z0 : w0.heap.size = w.heap.size + 1 := by rw [e0]; simp
 have r0 : Row w1 w.heap.size [.int .i64 c.1, .int .i64 c.2.1, .int .i64 c.2.2] tCe := (by rw [e0]; exact Row.new w [_, _, _] _ : Row w0 w.heap.size _ _).ext ((Ext.rfl' _).of_alloc e1)
 clear e0 e1
 have xd := Ext.dr w1
 have r1 := r0.ext xd
 refine (cut_spec c.1 h.1 w1.drew).mono ?_
 rintro e w2 ⟨rfl, rfl⟩
 refine ⟨_, rfl, rfl, rfl, r1.loadL (o := 2) (fun j hj => by
  match j, hj with
  | 0, _ => rfl), r1.loadL (o := 1) (fun j hj => by
  match j, hj with
  | 0, _ => rfl), (cut_spec c.2.1 h.2.1 w1.drew).mono ?_⟩
 rintro e w4 ⟨rfl, rfl⟩
 refine ⟨_, rfl, rfl, rfl, r1.loadL (o := 2) (fun j hj => by
  match j, hj with
  | 0, _ => rfl), (cut_spec c.2.2 h.2.2 w1.drew).mono ?_⟩
 rintro e w6 ⟨rfl, rfl⟩
 exact ⟨_, rfl, rfl, rfl, fun w8 e8 => ⟨rfl, (x1.tr xd).of_setRow e8 (by omega)⟩⟩
theorem Near1_spec (a b d : Int) (c c' : Ce) (he : c' = (c.1 + a, c.2.1 + b, c.2.2 + d)) (hc : wideC c) (ha : (-1 ≤ a ∧ a ≤ 1) ∧ (-1 ≤ b ∧ b ≤ 1) ∧ -1 ≤ d ∧ d ≤ 1) {g : Nat} {w : World} (hr : Row w g [.int .i64 c.1, .int .i64 c.2.1, .int .i64 c.2.2] tCe) :
  Calls Tryz.prog n_cell_Near_1 #[.int .i64 a, .int .i64 b, .int .i64 d, .pointer (some ⟨g, 0, none⟩)] w fun e w' => e = .returned (cev c') ∧ Ext w w' := by
 subst he
 apply cell_Near_1.vc
 obtain ⟨⟨h1, h2⟩, ⟨h3, h4⟩, h5, h6⟩ := id hc
 intro w0 e0
 have x0 : Ext w w0 := (Ext.rfl' _).of_alloc e0
 have z0 : w0.heap.size = w.heap.size + 1 := by rw [e0]; simp
 clear e0
 have xd := x0.tr (Ext.dr w0)
 have zd : w0.drew.heap.size = w0.heap.size := rfl
 have r1 := hr.ext xd
 have q1 : IntKind.wrap .i64 (c.1 + a) = c.1 + a := wrap_in (by unfold inI; omega)
 have q2 : IntKind.wrap .i64 (c.2.1 + b) = c.2.1 + b := wrap_in (by unfold inI; omega)
 have q3 : IntKind.wrap .i64 (c.2.2 + d) = c.2.2 + d := wrap_in (by unfold inI; omega)
 refine ⟨c.1, r1.at 0 rfl, c.2.1, r1.at 1 rfl, c.2.2, r1.at 2 rfl, (cut_spec c.1 (by omega) w0.drew).mono ?_⟩
 rintro e w4 ⟨rfl, rfl⟩
 refine ⟨_, rfl, rfl, loadL1 (r1.at 2 rfl), loadL1 (r1.at 1 rfl), (cut_spec c.2.1 (by omega) w0.drew).mono ?_⟩
 rintro e w6 ⟨rfl, rfl⟩
 refine ⟨_, rfl, rfl, loadL1 (r1.at 2 rfl), (cut_spec c.2.2 (by omega) w0.drew).mono ?_⟩
 rintro e w8 ⟨rfl, rfl⟩
 refine ⟨_, rfl, rfl, ?_⟩
 rw [q1, q2, q3]
 refine (Cut_spec (c.1 + a, c.2.1 + b, c.2.2 + d) (by simp only; omega) w0.drew).mono ?_
 rintro e w10 ⟨rfl, x10⟩
 exact ⟨_, _, _, rfl, x10.heap (by omega), fun w14 e14 => ⟨rfl, (xd.tr x10).of_setRow e14 (Nat.le_refl _)⟩⟩
abbrev clv (c : Ce) : List Value := [.int .i64 c.1, .int .i64 c.2.1, .int .i64 c.2.2]
theorem one_cl (c : Ce) : One (clv c) := by
 intro v hv; simp at hv; rcases hv with rfl | rfl | rfl <;> rfl
abbrev nbV (c : Ce) : List Value := [.int .i64 (c.1 - 1), .int .i64 c.2.1, .int .i64 c.2.2, .int .i64 (c.1 + 1), .int .i64 c.2.1, .int .i64 c.2.2, .int .i64 c.1, .int .i64 (c.2.1 - 1), .int .i64 c.2.2, .int .i64 c.1, .int .i64 (c.2.1 + 1), .int .i64 c.2.2, .int .i64 c.1, .int .i64 c.2.1, .int .i64 (c.2.2 - 1), .int .i64 c.1, .int .i64 c.2.1, .int .i64 (c.2.2 + 1)]
theorem one_nb (c : Ce) : One (nbV c) := by
 intro v hv
 simp only [nbV, List.mem_cons, List.not_mem_nil, or_false] at hv
 rcases hv with rfl | rfl | rfl | rfl | rfl | rfl | rfl | rfl | rfl | rfl | rfl | rfl | rfl | rfl | rfl | rfl | rfl | rfl <;> rfl
theorem nbV_rows (c : Ce) : nbV c = ((nbK c).map clv).flatten := rfl
theorem putCells_all {cs vs : List Value} (h : vs.length = cs.length) : putCells cs 0 vs = vs := by
 rw [putCells_eq _ _ _ (by omega)]
 simp [← h]
theorem ce_eq {a b c a' b' c' : Int} (h1 : a = a') (h2 : b = b') (h3 : c = c') : ((a, b, c) : Ce) = (a', b', c') := by rw [h1, h2, h3]
set_option maxRecDepth 100000 in
theorem Near_spec (c : Ce) (hc : wideC c) (w : World) : Calls Tryz.prog n_cell_Near #[cev c] w fun e w' => e = .returned (.agg (nbV c).toArray) ∧ Ext w w' := by
 apply cell_Near.vc
 intro w0 e0 w1 e1
 have x1 : Ext w w1 := ((Ext.rfl' _).of_alloc e0).of_alloc e1
 have z0 : w0.heap.size = w.heap.size + 1 := by rw [e0]; simp
 have r0 : Row w1 w.heap.size [.int .i64 c.1, .int .i64 c.2.1, .int .i64 c.2.2] tCe := (by rw [e0]; exact Row.new w [_, _, _] _ : Row w0 w.heap.size _ _).ext ((Ext.rfl' _).of_alloc e1)
 have rb : Row w1 w0.heap.size [.int .i64 0, .int .i64 0, .int .i64 0, .int .i64 0, .int .i64 0, .int .i64 0, .int .i64 0, .int .i64 0, .int .i64 0, .int .i64 0, .int .i64 0, .int .i64 0, .int .i64 0, .int .i64 0, .int .i64 0, .int .i64 0, .int .i64 0, .int .i64 0] 161 := by rw [e1]; exact Row.new w0 [_, _, _, _, _, _, _, _, _, _, _, _, _, _, _, _, _, _] _
 clear e0 e1
 refine (Near1_spec (-1) 0 0 c (c.1 - 1, c.2.1, c.2.2) (ce_eq (by omega) (by omega) (by omega)) hc (by decide) r0).mono ?_
 rintro e w2 ⟨rfl, x2⟩
 refine ⟨_, _, _, rfl, (Near1_spec 1 0 0 c (c.1 + 1, c.2.1, c.2.2) (ce_eq (by omega) (by omega) (by omega)) hc (by decide) (r0.ext x2)).mono ?_⟩
 rintro e w6 ⟨rfl, x6⟩
 have y6 := x2.tr x6
 refine ⟨_, _, _, rfl, (Near1_spec 0 (-1) 0 c (c.1, c.2.1 - 1, c.2.2) (ce_eq (by omega) (by omega) (by omega)) hc (by decide) (r0.ext y6)).mono ?_⟩
 rintro e w10 ⟨rfl, x10⟩
 have y10 := y6.tr x10
 refine ⟨_, _, _, rfl, (Near1_spec 0 1 0 c (c.1, c.2.1 + 1, c.2.2) (ce_eq (by omega) (by omega) (by omega)) hc (by decide) (r0.ext y10)).mono ?_⟩
 rintro e w14 ⟨rfl, x14⟩
 have y14 := y10.tr x14
 refine ⟨_, _, _, rfl, (Near1_spec 0 0 (-1) c (c.1, c.2.1, c.2.2 - 1) (ce_eq (by omega) (by omega) (by omega)) hc (by decide) (r0.ext y14)).mono ?_⟩
 rintro e w18 ⟨rfl, x18⟩
 have y18 := y14.tr x18
 refine ⟨_, _, _, rfl, (Near1_spec 0 0 1 c (c.1, c.2.1, c.2.2 + 1) (ce_eq (by omega) (by omega) (by omega)) hc (by decide) (r0.ext y18)).mono ?_⟩
 rintro e w22 ⟨rfl, x22⟩
 have y22 := y18.tr x22
 have r22 := rb.ext y22
 refine ⟨_, _, _, rfl, ⟨rfl, r22.wr (by simp)⟩, fun w26 e26 => ?_⟩
 have e26 : w26 = setP w22 (some ⟨w0.heap.size, 0, none⟩) (nbV c) := e26
 rw [r22.setP (vs := nbV c) (by simp) (one_nb c), putCells_all (by simp)] at e26
 have hr' : Row w26 w0.heap.size (nbV c) 161 := by rw [e26]; exact r22.set _
 exact ⟨_, _, _, _, _, _, _, _, _, _, _, _, _, _, _, _, _, _, hr'.loadL (fun j hj => by rw [Nat.zero_add]), rfl, (x1.tr y22).of_setRow e26 (by omega)⟩
theorem Falls_spec (b : Int) (w : World) : Calls Tryz.prog n_block_Falls #[.int .i64 b] w fun e w' => e = .returned (.bool (b == 3)) ∧ w' = w := by
 apply block_Falls.vc
 exact ⟨rfl, rfl⟩
theorem Wet_spec (b : Int) (w : World) : Calls Tryz.prog n_block_Wet #[.int .i64 b] w fun e w' => e = .returned (.bool (wetK b)) ∧ w' = w := by
 apply block_Wet.vc
 unfold wetK
 refine Br.mk (fun h => ⟨?_, rfl⟩) (fun h => ⟨?_, rfl⟩)
 ·have h1 : (8 : Int) ≤ b := by simpa using h
  rw [decide_eq_true h1, Bool.true_and]
 ·have h1 : ¬ (8 : Int) ≤ b := by simpa using h
  rw [decide_eq_false h1, Bool.false_and]
theorem Yields_spec (b : Int) (w : World) : Calls Tryz.prog n_block_Yields #[.int .i64 b] w fun e w' => e = .returned (.bool (yieldsK b)) ∧ w' = w := by
 apply block_Yields.vc
 unfold yieldsK
 refine Br.mk (fun h => ⟨?_, rfl⟩) (fun h => (Wet_spec b w).mono ?_)
 ·have h1 : b = 0 := by simpa using h
  rw [decide_eq_true h1, Bool.true_or]
 ·rintro e w' ⟨rfl, rfl⟩
  have h1 : ¬ b = 0 := by simpa using h
  rw [decide_eq_false h1, Bool.false_or]
  exact ⟨_, rfl, rfl, rfl⟩
theorem Delay_spec (b : Int) (w : World) : Calls Tryz.prog n_flow_Delay #[.int .i64 b] w fun e w' => e = .returned (.int .i64 (delayK b)) ∧ w' = w := by
 apply flow_Delay.vc
 refine (Falls_spec b w).mono ?_
 rintro e w0 ⟨rfl, rfl⟩
 unfold delayK
 refine ⟨_, rfl, Br.mk (fun h => ?_) (fun h => (Wet_spec b w0).mono ?_)⟩
 ·rw [if_pos (by simpa using h)]; exact ⟨rfl, rfl⟩
 ·rintro e w2 ⟨rfl, rfl⟩
  rw [if_neg (by simpa using h)]
  refine ⟨_, rfl, Br.mk (fun h => ?_) (fun h => ?_)⟩
  ·rw [if_pos h]; exact ⟨rfl, rfl⟩
  ·rw [if_neg (by rw [h]; decide)]; exact ⟨rfl, rfl⟩
end Go.Proofs.YtalpkjfpmdpbiaaGreatDoor
namespace Go.Proofs.YtalpkjfpmdpbiaaGreatDoor
open Go Go.Vc Go.RowKit Go.Proofs Go.Chk Go.Runs Go.Code Go.Flw
def Tl (v : Value) (V : Ce → Int) (w : World) : Prop := ∃ D : Nat → Prop, (∀ i, D i → i < w.heap.size) ∧ ∀ w', (∀ i, D i → w'.heap[i]? = w.heap[i]?) → ∀ c, okC c → callV Tryz.prog v [cev c] w' fun e w'' => e = .returned (.int .i64 (V c)) ∧ Ext w' w''
theorem Tl.ext {v : Value} {V : Ce → Int} {w w' : World} (h : Tl v V w) (x : Ext w w') : Tl v V w' := by
 obtain ⟨D, h1, h2⟩ := h
 exact ⟨D, fun i hi => Nat.lt_of_lt_of_le (h1 i hi) x.size, fun w'' hk => h2 w'' fun i hi => (hk i hi).trans (x.heap (h1 i hi))⟩
theorem Tl.at {v : Value} {V : Ce → Int} {w : World} (h : Tl v V w) {c : Ce} (hc : okC c) : callV Tryz.prog v [cev c] w fun e w' => e = .returned (.int .i64 (V c)) ∧ Ext w w' := by
 obtain ⟨D, h1, h2⟩ := h
 exact h2 w (fun _ _ => rfl) c hc
theorem callV_mono' {v : Value} {l : List Value} {w : World} {R R' : Ending → World → Prop} (h : callV Tryz.prog v l w R) (k : ∀ e w', R e w' → R' e w') : callV Tryz.prog v l w R' := callV_mono h k
abbrev cgv' (x : Go.Flw.Cg) : List Value := [.int .i64 x.1.1, .int .i64 x.1.2.1, .int .i64 x.1.2.2, .int .i64 x.2]
theorem app_grow {E k n : Nat} {w w' : World} {s s' : Sl} {news : List Value} (h : AppRes E k w s n news s' w') (hc : s.c < s.n + n) : Ext w w' := by
 cases h with
 | fits hf => omega
 | grows => exact (Ext.dr w).tr (Ext.al _ _)
set_option maxRecDepth 100000 in
theorem Wakes_spec {v : Value} {V : Ce → Int} {w : World} (hV : Tl v V w) (c : Ce) (hc : wideC c) :
  Calls Tryz.prog n_flow_Wakes #[v, cev c] w fun e w' => ∃ s : Sl, e = .returned (.slice s.a s.n s.c) ∧ OwnK w.heap.size tCe 3 w' s ((wakesK V c).map clv) ∧ Ext w w' := by
 apply flow_Wakes.vc
 intro w0 e0
 have x0 : Ext w w0 := (Ext.rfl' _).of_alloc e0
 have z0 : w0.heap.size = w.heap.size + 1 := by rw [e0]; simp
 clear e0
 refine (Near_spec c hc w0).mono ?_
 rintro e w1 ⟨rfl, x1⟩
 have z1 := x1.size
 refine ⟨_, _, _, _, _, _, _, _, _, _, _, _, _, _, _, _, _, _, rfl, x1.heap (by omega), fun w20 e20 => ?_⟩
 have x20 : Ext w1 w20 := (Ext.rfl' _).of_alloc e20
 have z20 : w20.heap.size = w1.heap.size + 1 := by rw [e20]; simp
 have hr : Row w20 w1.heap.size [.int .i64 0, .int .i64 0, .int .i64 0, .int .i64 0, .int .i64 0, .int .i64 0, .int .i64 0, .int .i64 0, .int .i64 0, .int .i64 0, .int .i64 0, .int .i64 0, .int .i64 0, .int .i64 0, .int .i64 0, .int .i64 0, .int .i64 0, .int .i64 0] 161 := by rw [e20]; exact Row.new w1 [_, _, _, _, _, _, _, _, _, _, _, _, _, _, _, _, _, _] _
 clear e20
 refine ⟨⟨rfl, hr.wr (by simp)⟩, fun e => by
  have : w1.heap.size = w.heap.size := by simpa [pblk] using e
  omega, fun w21 e21 w22 e22 => ?_⟩
 have e21 : w21 = setP w20 (some ⟨w1.heap.size, 0, none⟩) (nbV c) := e21
 rw [hr.setP (vs := nbV c) (by simp) (one_nb c), putCells_all (by simp)] at e21
 have hr2 : Row w21 w1.heap.size (nbV c) 161 := by rw [e21]; exact hr.set _
 have x21 : Ext w w21 := (x0.tr (x1.tr x20)).of_setRow e21 (by omega)
 have z21 : w21.heap.size = w20.heap.size := by rw [e21]; simp
 clear e21
 have xd := Ext.dr w21
 have zd : w21.drew.heap.size = w21.heap.size := rfl
 have x22 : Ext w21.drew w22 := (Ext.rfl' _).of_alloc e22
 have z22 : w22.heap.size = w21.heap.size + 1 := by rw [e22]; simp
 have hc22 : Row w22 w21.drew.heap.size (clv c) tCe := by rw [e22]; exact Row.new w21.drew [_, _, _] _
 clear e22
 have x022 := x21.tr (xd.tr x22)
 have hr22 := hr2.ext (xd.tr x22)
 have ho : OwnK w.heap.size tCe 3 w22 ⟨some ⟨w21.drew.heap.size, 0, none⟩, 1, 1⟩ [clv c] := OwnK.of_row (by omega) hc22 (by simp) (Nat.le_refl _) rfl (by simp)
 have ha := ho.appN (bytes := 24) (more := (nbK c).map clv) (by omega) (fun r hr => by obtain ⟨y, -, rfl⟩ := List.mem_map.1 hr; rfl) (fun r hr => by obtain ⟨y, -, rfl⟩ := List.mem_map.1 hr; exact one_cl y) (by simp [nbK]) (by simp [nbK])
 obtain ⟨hp, hres⟩ := ha
 refine ⟨((nbK c).map clv).flatten, ?_, hp, fun s24 w25 hr25 => ?_⟩
 ·rw [slBase_zero]
  intro i u hu
  exact hr22.at i (by rw [nbV_rows]; exact hu)
 obtain ⟨ho25, hn25, -, -, -⟩ := hres s24 w25 hr25
 have x25 : Ext w22 w25 := app_grow hr25 (show (1 : Nat) < 1 + (6 - 0) by decide)
 have z25 := x25.size
 have x025 : Ext w w25 := x022.tr x25
 have ho25 : OwnK w.heap.size tCe 3 w25 s24 ((c :: nbK c).map clv) := ho25
 have hrd := ho25.rd (show 0 < 3 by decide)
 have hn24 : s24.n = 7 := hrd.n
 refine ⟨x25.heap (by omega), x25.heap (by omega), fun n x s30 w31 => ∃ j : Nat, x = j ∧ j + n = 7 ∧ OwnK w25.heap.size tCe 3 w31 s30 ((((c :: nbK c).take j).filter fun n => decide (0 < delayK (V n))).map clv) ∧ Ext w25 w31, ⟨7, rfl, rfl, 0, rfl, rfl, OwnK.nil, Ext.rfl' _⟩, ?_⟩
 rintro n us x s30 w31 ⟨j, rfl, hj, ho31, x31⟩
 have z31 := x31.size
 refine Br.mk (fun hb => ?_) (fun hb => ?_)
 ·simp only [decide_eq_true_eq] at hb
  obtain ⟨y, hy⟩ := get_lt (l := c :: nbK c) (i := j) (by have : (c :: nbK c).length = 7 := rfl; omega)
  have hym : y ∈ c :: nbK c := List.mem_of_getElem? hy
  have oky : okC y := by
   rcases List.mem_cons.1 hym with rfl | h
   ·exact hc.ok
   ·exact nb_ok hc h
  have hy' : ((c :: nbK c).map clv)[j]? = some (clv y) := by rw [List.getElem?_map, hy]; rfl
  have htk : (c :: nbK c).take (j + 1) = (c :: nbK c).take j ++ [y] := by rw [List.take_add_one, hy]; rfl
  refine ⟨hrd.inB (i := (j : Int)) (by decide) (by omega) hb, _, _, _, (hrd.ext x31).loadL hy', fun w36 e36 w37 e37 => ?_⟩
  have x37 : Ext w31 w37 := ((Ext.rfl' _).of_alloc e36).of_setRow e37 (Nat.le_refl _)
  have z37 : w37.heap.size = w31.heap.size + 1 := by rw [e37, e36]; simp
  clear e36 e37
  refine callV_mono' ((hV.ext (x025.tr (x31.tr x37))).at oky) ?_
  rintro e w38 ⟨rfl, x38⟩
  have z38 := x38.size
  refine ⟨_, rfl, x38.heap (by omega), x38.heap (by omega), x38.heap (by omega), (Delay_spec (V y) w38).mono ?_⟩
  rintro e w40 ⟨rfl, rfl⟩
  have wk : IntKind.wrap .i64 ((j : Int) + 1) = ((j + 1 : Nat) : Int) := by rw [wrap_in (by unfold inI; omega)]; omega
  refine ⟨_, rfl, rfl, rfl, rfl, ?_⟩
  have ho40 := ho31.ext (x37.tr x38)
  refine Br.mk (fun hd => ?_) (fun hd => ?_)
  ·intro w42 e42
   subst e42
   have hn30 : s30.n ≤ 7 := by
    have h1 := (ho31.rd (show 0 < 3 by decide)).n
    have h2 := List.length_filter_le (fun n => decide (0 < delayK (V n))) ((c :: nbK c).take j)
    rw [List.length_map] at h1
    rw [List.length_take] at h2
    omega
   obtain ⟨hp8, hres8⟩ := ho40.app1 (bytes := 24) (news := clv y) (.cells #[.int .i64 y.1, .int .i64 y.2.1, .int .i64 y.2.2] tCe) (by omega) rfl (one_cl y) (by omega) (by omega)
   refine ⟨hp8, fun s43 w44 hr44 => ?_⟩
   obtain ⟨f8, ho8, hn8, x8, hk8, -⟩ := hres8 s43 w44 hr44
   have xa := Ext.al w40 (.cells #[.int .i64 y.1, .int .i64 y.2.1, .int .i64 y.2.2] tCe)
   have hb30 : ∀ b, s30.blk = some b → w25.heap.size ≤ b ∧ b < w31.heap.size := fun b hb => ho31.own.lt hb
   have kp : ∀ j, (j < w25.heap.size ∨ w31.heap.size ≤ j) → j < w40.heap.size → w44.heap[j]? = (w40.alloc (.cells #[.int .i64 y.1, .int .i64 y.2.1, .int .i64 y.2.2] tCe)).heap[j]? := fun j hj hj2 => by
    rw [hk8 j (fun hb => by have := hb30 j hb; omega) hj2, xa.heap hj2]
   refine ⟨kp _ (.inl (by omega)) (by omega), kp _ (.inl (by omega)) (by omega), kp _ (.inr (by omega)) (by omega), f8, n - 1, by omega, rfl, rfl, j + 1, wk, by omega, ?_, (Below.trans (x31.tr (x37.tr x38)) x8 : Below w25.heap.size w25 w44)⟩
   rw [htk, List.filter_append, List.map_append, List.filter_cons_of_pos (by simpa using hd)]
   exact ho8
  ·refine ⟨n - 1, by omega, rfl, rfl, j + 1, wk, by omega, ?_, x31.tr (x37.tr x38)⟩
   rw [htk, List.filter_append, List.map_append, List.filter_cons_of_neg (by simpa using hd)]
   simpa using ho40
 ·simp only [decide_eq_false_iff_not] at hb
  have hj7 : (c :: nbK c).take j = c :: nbK c := List.take_of_length_le (by have : (c :: nbK c).length = 7 := rfl; omega)
  rw [hj7] at ho31
  exact ⟨s30, rfl, ho31.low (by omega), x025.tr x31⟩
theorem nb_low (c : Ce) : ((nbV c).drop ((2 : Int).toNat * 3)).take 3 = clv (lowK c) := rfl
set_option maxRecDepth 100000 in
theorem sand_spec {v : Value} {V : Ce → Int} {w : World} (hV : Tl v V w) (c : Ce) (hc : wideC c) :
  Calls Tryz.prog n_flow_sand #[v, cev c] w fun e w' => ∃ s : Sl, e = .returned (.slice s.a s.n s.c) ∧ OwnK w.heap.size tChg 4 w' s ((sandK V c).map cgv') ∧ Ext w w' := by
 apply flow_sand.vc
 intro w0 e0
 have x0 : Ext w w0 := (Ext.rfl' _).of_alloc e0
 have z0 : w0.heap.size = w.heap.size + 1 := by rw [e0]; simp
 clear e0
 refine (Near_spec c hc w0).mono ?_
 rintro e w1 ⟨rfl, x1⟩
 have z1 := x1.size
 have okl : okC (lowK c) := nb_ok hc (by simp [nbK])
 refine ⟨_, _, _, _, _, _, _, _, _, _, _, _, _, _, _, _, _, _, rfl, x1.heap (by omega), by decide, _, _, _, nb_low c, fun w23 e23 w24 e24 => ?_⟩
 have x24 : Ext w1 w24 := ((Ext.rfl' _).of_alloc e23).of_setRow e24 (Nat.le_refl _)
 have z24 : w24.heap.size = w1.heap.size + 1 := by rw [e24, e23]; simp
 clear e23 e24
 have x024 := x0.tr (x1.tr x24)
 refine callV_mono' ((hV.ext x024).at okl) ?_
 rintro e w25 ⟨rfl, x25⟩
 have z25 := x25.size
 refine ⟨_, rfl, x25.heap (by omega), x25.heap (by omega), (Yields_spec (V (lowK c)) w25).mono ?_⟩
 rintro e w27 ⟨rfl, rfl⟩
 unfold sandK
 refine ⟨_, rfl, rfl, rfl, Br.mk (fun h => ?_) (fun h => fun w29 e29 => ?_)⟩
 ·rw [if_neg (by simpa using h)]
  exact ⟨⟨none, 0, 0⟩, rfl, OwnK.nil, x024.tr x25⟩
 ·rw [if_pos (by simpa using h)]
  have hr : Row w29 w27.heap.size (([(c, V (lowK c)), (lowK c, 3)] : List Go.Flw.Cg).map cgv').flatten tChg := by rw [e29]; exact Row.new w27 [_, _, _, _, _, _, _, _] _
  exact ⟨⟨some ⟨w27.heap.size, 0, none⟩, 2, 2⟩, rfl, OwnK.of_row (by omega) hr (Nat.le_refl _) (Nat.le_refl _) rfl (by intro r hr; simp at hr; rcases hr with rfl | rfl <;> rfl), (x024.tr x25).of_alloc e29⟩
theorem Next_spec {v : Value} {V : Ce → Int} {w : World} (hV : Tl v V w) (c : Ce) (hc : wideC c) (hw : wetK (V c) = false) :
  Calls Tryz.prog n_flow_Next #[v, cev c] w fun e w' => ∃ s : Sl, e = .returned (.slice s.a s.n s.c) ∧ OwnK w.heap.size tChg 4 w' s ((nextK V c).map cgv') ∧ Ext w w' := by
 apply flow_Next.vc
 intro w0 e0
 have x0 : Ext w w0 := (Ext.rfl' _).of_alloc e0
 have z0 : w0.heap.size = w.heap.size + 1 := by rw [e0]; simp
 clear e0
 refine callV_mono' ((hV.ext x0).at hc.ok) ?_
 rintro e w1 ⟨rfl, x1⟩
 have z1 := x1.size
 have x01 := x0.tr x1
 refine ⟨_, rfl, x1.heap (by omega), (Falls_spec (V c) w1).mono ?_⟩
 rintro e w3 ⟨rfl, rfl⟩
 unfold nextK
 refine ⟨_, rfl, rfl, Br.mk (fun h => ?_) (fun h => (Wet_spec (V c) w3).mono ?_)⟩
 ·rw [if_pos (by simpa using h)]
  refine (sand_spec (hV.ext x01) c hc).mono ?_
  rintro e w5 ⟨s, rfl, ho, x5⟩
  exact ⟨s, rfl, x5.heap (by omega), s, rfl, ho.low (by omega), x01.tr x5⟩
 ·rintro e w7 ⟨rfl, rfl⟩
  rw [if_neg (by simpa using h), hw]
  exact ⟨_, rfl, rfl, Br.mk (fun h => by cases h) (fun _ => ⟨⟨none, 0, 0⟩, rfl, OwnK.nil, x01⟩)⟩
end Go.Proofs.YtalpkjfpmdpbiaaGreatDoor
namespace Go.Proofs.YtalpkjfpmdpbiaaGreatDoor
open Go Go.Vc Go.RowKit Go.Proofs Go.Chk Go.Runs Go.Code Go.Que Go.Flw
abbrev tSim : TypeId := 98
structure Sm where
 seed : Int
 cap : Int
 T : Tb
 ch : List Go.Flw.Cg
 q : QS
 budget : Int
 now : Int
 drops : List Ce
abbrev smC (g o : Nat) (M : Sm) (occ : Value) (sd : Sl) : List Value := [.pointer (some ⟨g, 0, none⟩), .pointer (some ⟨o, 0, none⟩), .int .i64 M.budget, .int .i64 M.now, occ, .slice sd.a sd.n sd.c]
def SF (F : Nat → Prop) (w : World) (s o t : Nat) (M : Sm) (occ : Value) : Prop :=
 ∃ g m qs Fw sd, Row w s (smC g o M occ sd) tSim ∧ Q.QIs w g m qs M.q ∧ QOk M.q ∧ WF Fw w o t M.seed M.cap M.T M.ch ∧ OwnK 0 tCe 3 w sd (M.drops.map clv) ∧ (∀ i, Q.Foot g m qs i → ¬ Fw i) ∧ F = fun i => i = s ∨ Q.Foot g m qs i ∨ Fw i ∨ sd.blk = some i
section
variable {F F' : Nat → Prop} {w w' : World} {s o t : Nat} {M M' : Sm} {occ : Value}
theorem SF.lt (h : SF F w s o t M occ) {i : Nat} (hi : F i) : i < w.heap.size := by
 obtain ⟨g, m, qs, Fw, sd, h1, h2, -, h3, h4, -, rfl⟩ := h
 rcases hi with rfl | hi | hi | hi
 ·exact h1.lt
 ·exact h2.lt i hi
 ·exact h3.lt hi
 ·exact (h4.own.lt hi).2
theorem SF.same (h : SF F w s o t M occ) (hk : ∀ i, F i → w'.heap[i]? = w.heap[i]?) : SF F w' s o t M occ := by
 obtain ⟨g, m, qs, Fw, sd, h1, h2, hq, h3, h4, h5, rfl⟩ := h
 obtain ⟨kvs, m1, m2⟩ := h2.map
 exact ⟨g, m, qs, Fw, sd, h1.same (hk _ (.inl rfl)), ⟨h2.row.same (hk _ (.inr (.inl (.inl rfl)))), OwnK.keep h2.own fun b hb => hk b (.inr (.inl (.inr (.inr hb)))), kvs, m1.same (hk _ (.inr (.inl (.inr (.inl rfl))))), m2⟩, hq, h3.same fun i hi => hk i (.inr (.inr (.inl hi))), OwnK.keep h4 fun b hb => hk b (.inr (.inr (.inr hb))), h5, rfl⟩
theorem SF.ext (h : SF F w s o t M occ) (x : Ext w w') : SF F w' s o t M occ := h.same fun _ hi => x.heap (h.lt hi)
theorem SF.no_row (h : SF F w s o t M occ) {j : Nat} {cs : List Value} {τ : TypeId} (hr : Row w j cs τ) (h1 : offT τ) (h2 : τ ≠ tWorld) (h3 : τ ≠ tChg) (h4 : τ ≠ tSim) (h5 : τ ≠ Q.tQueue) (h6 : τ ≠ Q.tItem) (hj : ∀ (g : Nat) (sd : Sl), Row w s (smC g o M occ sd) tSim → sd.blk ≠ some j) : ¬ F j := by
 obtain ⟨g, m, qs, Fw, sd, r1, r2, -, r3, r4, -, rfl⟩ := h
 rintro (hi | hi | hi | hi)
 ·exact hr.ne r1 h4 hi
 ·exact r2.no_row hr h5 h6 hi
 ·exact r3.no_row hr h1 h2 h3 hi
 ·exact hj g sd r1 hi
theorem SF.no_row2 (h : SF F w s o t M occ) {j : Nat} {cs : List Value} {τ : TypeId} (hr : Row w j cs τ) (h1 : offT τ) (h2 : τ ≠ tWorld) (h3 : τ ≠ tChg) (h4 : τ ≠ tSim) (h5 : τ ≠ Q.tQueue) (h6 : τ ≠ Q.tItem) (h7 : τ ≠ tCe) : ¬ F j := by
 obtain ⟨g, m, qs, Fw, sd, r1, r2, -, r3, r4, -, rfl⟩ := h
 rintro (hi | hi | hi | hi)
 ·exact hr.ne r1 h4 hi
 ·exact r2.no_row hr h5 h6 hi
 ·exact r3.no_row hr h1 h2 h3 hi
 ·obtain ⟨cs', hr'⟩ := own_row r4 (by decide) hi
  exact hr.ne hr' h7 rfl
abbrev SmRes (F : Nat → Prop) (w : World) (s o t : Nat) (M : Sm) (occ : Value) (w' : World) : Prop := ∃ F', SF F' w' s o t M occ ∧ Turned F F' w w'
theorem SF.world (h : SF F w s o t M occ) : ∃ Fw, WF Fw w o t M.seed M.cap M.T M.ch ∧ (∀ i, Fw i → F i) ∧ ∀ {w' : World} {T' : Tb} {ch' : List Go.Flw.Cg}, WRes Fw w o t M.seed M.cap T' ch' w' → SmRes F w s o t { M with T := T', ch := ch' } occ w' := by
 obtain ⟨g, m, qs, Fw, sd, h1, h2, hq, h3, h4, h5, rfl⟩ := h
 refine ⟨Fw, h3, fun i hi => .inr (.inr (.inl hi)), ?_⟩
 rintro w' T' ch' ⟨F', h', ht⟩
 have n1 := h3.no_row h1 (by decide) (by decide) (by decide)
 have n2 : ∀ i, Q.Foot g m qs i → ¬ Fw i := h5
 have n4 : ∀ b, sd.blk = some b → ¬ Fw b := fun b hb => by
  obtain ⟨cs', hr'⟩ := own_row h4 (by decide) hb
  exact h3.no_row hr' (by decide) (by decide) (by decide)
 refine ⟨_, ⟨g, m, qs, F', sd, ht.mod.row h1 n1, h2.keep ht.mod n2, hq, h', ht.mod.ownK h4 n4, ?_, rfl⟩, ht.mod.mono fun i _ hi => .inr (.inr (.inl hi)), fun i hi => ?_⟩
 ·exact fun i hi hf => ht.apart (G := Q.Foot g m qs) (fun i hi hg => h5 i hg hi) (fun i hi => h2.lt i hi) i hf hi
 ·rcases hi with hi | hi | hi | hi
  ·exact .inl (.inl hi)
  ·exact .inl (.inr (.inl hi))
  ·exact (ht.sub i hi).imp (fun h => .inr (.inr (.inl h))) id
  ·exact .inl (.inr (.inr (.inr hi)))
theorem SF.queue (h : SF F w s o t M occ) : ∃ g m qs, Q.QIs w g m qs M.q ∧ QOk M.q ∧ (∃ sd, Row w s (smC g o M occ sd) tSim) ∧ (∀ i, Q.Foot g m qs i → F i) ∧ ∀ {w' : World} {qs' : Sl} {q' : QS}, Q.QIs w' g m qs' q' → QOk q' → Turned (Q.Foot g m qs) (Q.Foot g m qs') w w' → SmRes F w s o t { M with q := q' } occ w' := by
 obtain ⟨g, m, qs, Fw, sd, h1, h2, hq, h3, h4, h5, rfl⟩ := h
 refine ⟨g, m, qs, h2, hq, ⟨sd, h1⟩, fun i hi => .inr (.inl hi), ?_⟩
 rintro w' qs' q' h' hq' ht
 have n1 := h2.no_row h1 (by decide) (by decide)
 have n3 : ∀ i, Fw i → ¬ Q.Foot g m qs i := fun i hi hf => h5 i hf hi
 have n4 := h2.no_own h4 (by decide) (by decide) (by decide)
 refine ⟨_, ⟨g, m, qs', Fw, sd, ht.mod.row h1 n1, h', hq', h3.keep ht.mod n3, ht.mod.ownK h4 n4, ?_, rfl⟩, ht.mod.mono fun i _ hi => .inr (.inl hi), fun i hi => ?_⟩
 ·exact fun i hi hf => ht.apart (G := Fw) (fun i hi hg => h5 i hi hg) (fun i hi => h3.lt hi) i hi hf
 ·rcases hi with hi | hi | hi | hi
  ·exact .inl (.inl hi)
  ·exact (ht.sub i hi).imp (fun h => .inr (.inl h)) id
  ·exact .inl (.inr (.inr (.inl hi)))
  ·exact .inl (.inr (.inr (.inr hi)))
theorem SF.row (h : SF F w s o t M occ) : ∃ g sd, Row w s (smC g o M occ sd) tSim ∧ OwnK 0 tCe 3 w sd (M.drops.map clv) ∧ F s ∧ (∀ b, sd.blk = some b → F b) ∧ ∀ {w' : World} {M' : Sm} {occ' : Value} {sd' : Sl}, M'.seed = M.seed → M'.cap = M.cap → M'.T = M.T → M'.ch = M.ch → M'.q = M.q → Mod (fun i => i = s ∨ sd.blk = some i) w w' → Row w' s (smC g o M' occ' sd') tSim → OwnK 0 tCe 3 w' sd' (M'.drops.map clv) → (∀ b, sd'.blk = some b → sd.blk = some b ∨ w.heap.size ≤ b) → SmRes F w s o t M' occ' w' := by
 obtain ⟨g, m, qs, Fw, sd, h1, h2, hq, h3, h4, h5, rfl⟩ := h
 refine ⟨g, sd, h1, h4, .inl rfl, fun b hb => .inr (.inr (.inr hb)), ?_⟩
 rintro w' M' occ' sd' e1 e2 e3 e4 e5 hm hr hd hsub
 have q1 := h2.no_row h1 (by decide) (by decide)
 have q2 := h2.no_own h4 (by decide) (by decide) (by decide)
 have r1 := h3.no_row h1 (by decide) (by decide) (by decide)
 have r2 : ∀ b, sd.blk = some b → ¬ Fw b := fun b hb => by
  obtain ⟨cs', hr'⟩ := own_row h4 (by decide) hb
  exact h3.no_row hr' (by decide) (by decide) (by decide)
 refine ⟨_, ⟨g, m, qs, Fw, sd', hr, by rw [e5]; exact h2.keep hm fun i hi hf => hf.elim (fun e => q1 (e ▸ hi)) (fun e => q2 _ e hi), by rw [e5]; exact hq, by rw [e1, e2, e3, e4]; exact h3.keep hm fun i hi hf => hf.elim (fun e => r1 (e ▸ hi)) (fun e => r2 _ e hi), hd, h5, rfl⟩, hm.mono fun i _ hi => hi.elim .inl (fun e => .inr (.inr (.inr e))), fun i hi => ?_⟩
 rcases hi with hi | hi | hi | hi
 ·exact .inl (.inl hi)
 ·exact .inl (.inr (.inl hi))
 ·exact .inl (.inr (.inr (.inl hi)))
 ·exact (hsub i hi).imp (fun h => .inr (.inr (.inr h))) id
end
end Go.Proofs.YtalpkjfpmdpbiaaGreatDoor
namespace Go.Proofs.YtalpkjfpmdpbiaaGreatDoor
open Go Go.Vc Go.RowKit Go.Proofs Go.Chk Go.Runs Go.Code Go.Que Go.Flw
def editM (M : Sm) (c : Ce) (b : Int) : Sm := { M with T := (M.T.1, (setE M.T.2 c b).1), ch := wsC M.T.2 M.ch c b, q := if (setE M.T.2 c b).2 = 0 then wakeQ (atE (setE M.T.2 c b).1) M.now M.q c else M.q }
def changeM (M : Sm) (x : Go.Flw.Cg) : Sm := if atE M.T.2 x.1 = x.2 then M else editM M x.1 x.2
def heldM (O : Ce → Bool) (M : Sm) (c : Ce) : Bool := decide (atE M.T.2 c = 3) && (!(nextK (atE M.T.2) c).isEmpty && O (lowK c))
def updM (O : Ce → Bool) (M : Sm) (c : Ce) : Sm :=
 if readyE M.T.2 c = false then { M with q := (qadd M.q c (M.now + 1)).1 }
 else if heldM O M c = true then changeM { M with drops := M.drops ++ [lowK c] } (c, 0)
 else (nextK (atE M.T.2) c).foldl changeM M
def nowM (M : Sm) : Int := min (M.now + 1) 1099511627776
def startM (M : Sm) : Sm := { M with now := nowM M, q := (qdue M.q (nowM M) M.budget).1 }
def dueM (M : Sm) : List Ce := (qdue M.q (nowM M) M.budget).2
def tickM (O : Ce → Bool) (M : Sm) : Sm := (dueM M).foldl (updM O) (startM M)
def fiveK : List Po := [(0, 0), (-1, 0), (1, 0), (0, -1), (0, 1)]
def l5 (seed : Int) (k : Nat) : List En := (fiveK.take k).map fun p => (p, made seed p, false, 0)
structure Hs (l : List En) (V : Ce → Int) : Prop where
 n : nodL l
 g : goodL l
 h : ∀ p, here1 l p ↔ p ∈ fiveK
 v : ∀ c, atE l c = V c
def updV (V : Ce → Int) (c : Ce) (b : Int) : Ce → Int := fun c' => if c' = c then b else V c'
theorem good_set {l : List En} (hg : goodL l) (c : Ce) (b : Int) : goodL (setE l c b).1 := by
 unfold setE
 split
 ·exact hg
 ·split
  ·exact hg
  ·split
   ·exact hg
   ·intro e he
    rcases List.mem_append.1 he with he | he
    ·exact hg e ((List.eraseIdx_sublist ..).subset he)
    ·simp only [Option.mem_toList, Option.map_eq_some_iff] at he
     obtain ⟨y, hy, rfl⟩ := he
     exact kSet_ok (hg y (List.mem_of_getElem? hy)).1 (hg y (List.mem_of_getElem? hy)).2 c b
theorem Hs.set {l : List En} {V : Ce → Int} (h : Hs l V) {c : Ce} (hp : pos c ∈ fiveK) (hy : inY c) {b : Int} (hb : bMay b = true) : (setE l c b).2 = 0 ∧ Hs (setE l c b).1 (updV V c b) := by
 obtain ⟨e1, e2, e3, e4⟩ := set_here h.n h.g ((h.h _).2 hp) hy hb
 exact ⟨e1, e2, good_set h.g c b, fun p => (e3 p).trans (h.h p), fun c' => by rw [e4, h.v]; rfl⟩
theorem ready5 {l : List En} {V : Ce → Int} (h : Hs l V) {c : Ce} (hc : pos c = (0, 0)) : readyE l c = true := by
 unfold readyE
 rw [hc, List.all_eq_true]
 intro q hq
 have hq : q ∈ fiveK := hq
 obtain ⟨e, he, rfl⟩ := (h.h q).2 hq
 exact decide_eq_true (List.mem_map.2 ⟨e, he, rfl⟩)
theorem ground_top (s x z : Int) : ground s x z ≤ 14 := by
 unfold ground
 have hu : 0 ≤ x % 8 ∧ x % 8 ≤ 8 := by omega
 have hv : 0 ≤ z % 8 ∧ z % 8 ≤ 8 := by omega
 generalize x % 8 = u at *
 generalize z % 8 = v at *
 have key : ∀ {c w : Int}, (0 ≤ c ∧ c ≤ 8) → 0 ≤ w → c * w ≤ 8 * w := fun h1 h2 => Int.mul_le_mul_of_nonneg_right h1.2 h2
 have w1 : 0 ≤ (8 - u) * (8 - v) := Int.mul_nonneg (by omega) (by omega)
 have w2 : 0 ≤ u * (8 - v) := Int.mul_nonneg (by omega) (by omega)
 have w3 : 0 ≤ (8 - u) * v := Int.mul_nonneg (by omega) (by omega)
 have w4 : 0 ≤ u * v := Int.mul_nonneg (by omega) (by omega)
 have a := key (corner_in s (x / 8) (z / 8)) w1
 have b := key (corner_in s (x / 8 + 1) (z / 8)) w2
 have c := key (corner_in s (x / 8) (z / 8 + 1)) w3
 have d := key (corner_in s (x / 8 + 1) (z / 8 + 1)) w4
 have e : (8 - u) * (8 - v) + u * (8 - v) + (8 - u) * v + u * v = 64 := by
  simp only [Int.sub_mul, Int.mul_sub]
  omega
 omega
theorem l5_pos (seed : Int) : (l5 seed 5).map (·.1) = fiveK := by
 unfold l5
 rw [List.map_map]
 rfl
theorem l5_nod (seed : Int) : nodL (l5 seed 5) := by
 unfold nodL
 rw [l5_pos]
 decide
theorem l5_at (seed : Int) {c : Ce} (hy : inY c) (hp : pos c ∈ fiveK) : atE (l5 seed 5) c = ofG c.2.1 (ground seed c.1 c.2.2) := by
 have hn := l5_nod seed
 have he : (pos c, made seed (pos c), false, (0 : Int)) ∈ l5 seed 5 := List.mem_map.2 ⟨pos c, hp, rfl⟩
 rw [at_here hn he rfl, if_neg (by unfold inY at hy; omega)]
 have hk : inK (pos c) c = true := (inK_iff _ _).2 ⟨hy, rfl⟩
 have hi := idx_in hy
 unfold kAt
 simp only
 rw [hk, if_pos rfl]
 have hg := made_get seed (pos c) (k := (idx c).toNat) (by omega)
 rw [Int.toNat_of_nonneg hi.1, cellAt_idx hy, atC_get (c := made seed (pos c)) (i := idx c) hi.1 (by rw [made_len]; omega)] at hg
 exact Option.some.inj hg
theorem l5_hs (seed : Int) : Hs (l5 seed 5) (atE (l5 seed 5)) := by
 refine ⟨l5_nod seed, fun e he => ?_, fun p => ⟨?_, fun hp => ⟨_, List.mem_map.2 ⟨p, hp, rfl⟩, rfl⟩⟩, fun c => rfl⟩
 ·obtain ⟨p, -, he2⟩ := List.mem_map.1 he
  have h1 := made_len seed p
  have h2 := made_may seed p
  generalize made seed p = m at *
  subst he2
  exact ⟨h1, h2⟩
 ·rintro ⟨e, he, rfl⟩
  obtain ⟨p, hp, rfl⟩ := List.mem_map.1 he
  exact hp
theorem l5_air (seed : Int) {c : Ce} (hy : 14 ≤ c.2.1 ∧ c.2.1 < 32) (hp : pos c ∈ fiveK) : atE (l5 seed 5) c = 0 := by
 rw [l5_at seed (by unfold inY; omega) hp]
 have := ground_top seed c.1 c.2.2
 have := ground_in seed c.1 c.2.2
 unfold ofG
 rw [if_neg (by omega), if_neg (by omega), if_neg (by omega), if_neg (by omega), if_neg (by omega)]
end Go.Proofs.YtalpkjfpmdpbiaaGreatDoor
