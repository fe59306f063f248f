import Derived.Test.YtkkkfkopcfdmaaaGreatDoorYD
import Derived.Test.YtkkkfkopcfdmaaaGreatDoorGE
import Derived.Test.YtkkkfkopcfdmaaaGreatDoorP
set_option linter.all false
namespace Go.Proofs.YtkkkfkopcfdmaaaGreatDoor
open Go Go.Vc Go.RowKit Go.Proofs Go.Chk Go.Runs Go.Code Go.Que Go.Flw Go.Eng
set_option maxRecDepth 100000
abbrev tVec : TypeId := 28
abbrev bxv (b : Bx) : Value := .agg #[.int .i64 b.1.1, .int .i64 b.1.2.1, .int .i64 b.1.2.2, .int .i64 b.2.1, .int .i64 b.2.2.1, .int .i64 b.2.2.2]
theorem cutE (n : Int) : (if 140737488355328 < (if (-140737488355328) > n then (-140737488355328) else n) then 140737488355328 else (if (-140737488355328) > n then (-140737488355328) else n)) = cutF n := by
 unfold cutF
 repeat' split
 all_goals omega
theorem fCut_spec (n : Int) (w : World) : Calls Tryz.prog n_fixed_Cut #[.int .i64 n] w fun e w' => e = .returned (.int .i64 (cutF n)) ∧ w' = w := by
 apply fixed_Cut.vc
 exact ⟨by rw [cutE], rfl⟩
theorem fAdd_spec (a b : Int) (w : World) : Calls Tryz.prog n_fixed_Add #[.int .i64 a, .int .i64 b] w fun e w' => e = .returned (.int .i64 (addF a b)) ∧ w' = w := by
 apply fixed_Add.vc
 refine (fCut_spec a w).mono ?_
 rintro e w1 ⟨rfl, rfl⟩
 refine ⟨_, rfl, (fCut_spec b w1).mono ?_⟩
 rintro e w2 ⟨rfl, rfl⟩
 have h1 := cutF_in a
 have h2 := cutF_in b
 refine ⟨_, rfl, ?_⟩
 rw [wrap_in (by unfold inI; omega)]
 refine (fCut_spec _ w2).mono ?_
 rintro e w3 ⟨rfl, rfl⟩
 exact ⟨_, rfl, rfl, rfl⟩
theorem fSub_spec (a b : Int) (w : World) : Calls Tryz.prog n_fixed_Sub #[.int .i64 a, .int .i64 b] w fun e w' => e = .returned (.int .i64 (subF a b)) ∧ w' = w := by
 apply fixed_Sub.vc
 refine (fCut_spec a w).mono ?_
 rintro e w1 ⟨rfl, rfl⟩
 refine ⟨_, rfl, (fCut_spec b w1).mono ?_⟩
 rintro e w2 ⟨rfl, rfl⟩
 have h1 := cutF_in a
 have h2 := cutF_in b
 refine ⟨_, rfl, ?_⟩
 rw [wrap_in (by unfold inI; omega)]
 refine (fCut_spec _ w2).mono ?_
 rintro e w3 ⟨rfl, rfl⟩
 exact ⟨_, rfl, rfl, rfl⟩
theorem p16 : (2 ^ (min (16 : Int).toNat 64) : Int) = 65536 := by decide
theorem Floor_spec (n : Int) (w : World) : Calls Tryz.prog n_fixed_Floor #[.int .i64 n] w fun e w' => e = .returned (.int .i64 (floorF n)) ∧ w' = w := by
 apply fixed_Floor.vc
 refine (fCut_spec n w).mono ?_
 rintro e w1 ⟨rfl, rfl⟩
 rw [p16]
 exact ⟨_, rfl, by rw [Int.fdiv_eq_ediv_of_nonneg _ (by decide)]; rfl, rfl⟩
theorem bAnd_frac {x : Int} (h : -140737488355328 ≤ x ∧ x ≤ 140737488355328) : bAnd .i64 x 65535 = x % 65536 := by
 unfold bAnd
 have e : (BitVec.ofInt IntKind.i64.bits x &&& BitVec.ofInt IntKind.i64.bits 65535).toNat = (x % 65536).toNat := by
  show (BitVec.ofInt 64 x &&& BitVec.ofInt 64 65535).toNat = _
  rw [BitVec.toNat_and]
  have h1 : (BitVec.ofInt 64 65535).toNat = 2 ^ 16 - 1 := by decide
  rw [h1, Nat.and_two_pow_sub_one_eq_mod, BitVec.toNat_ofInt]
  omega
 rw [e, Int.toNat_of_nonneg (by omega)]
 exact wrap_in (by unfold inI; omega)
theorem Frac_spec (n : Int) (w : World) : Calls Tryz.prog n_fixed_Frac #[.int .i64 n] w fun e w' => e = .returned (.int .i64 (fracF n)) ∧ w' = w := by
 apply fixed_Frac.vc
 refine (fCut_spec n w).mono ?_
 rintro e w1 ⟨rfl, rfl⟩
 exact ⟨_, rfl, by rw [bAnd_frac (cutF_in n)]; rfl, rfl⟩
theorem one_pp (p q r : Option Addr) : One [.pointer p, .pointer q, .pointer r] := by
 intro v hv
 simp at hv
 rcases hv with rfl | rfl | rfl <;> rfl
theorem parts_spec (a : Addr) (w : World) : Calls Tryz.prog n_vec_parts #[.pointer (some a)] w fun e w' => e = .returned (.agg #[.pointer (padd (some a) 0), .pointer (padd (some a) 1), .pointer (padd (some a) 2)]) ∧ Ext w w' := by
 apply vec_parts.vc
 intro w0 e0
 have x0 : Ext w w0.drew := ((Ext.rfl' _).of_alloc e0).drew
 have hr : Row w0.drew w.heap.size [.pointer none, .pointer none, .pointer none] 306 := by
  rw [e0]
  exact (Row.new w [_, _, _] _).ext (Ext.dr _)
 clear e0
 refine ⟨⟨rfl, hr.wr (by simp)⟩, fun w1 e1 => ?_⟩
 rw [hr.setP (vs := [.pointer (padd (some a) 0), .pointer (padd (some a) 1), .pointer (padd (some a) 2)]) (by simp) (one_pp _ _ _), putCells_all (by simp)] at e1
 have hr1 : Row w1 w.heap.size [.pointer (padd (some a) 0), .pointer (padd (some a) 1), .pointer (padd (some a) 2)] 306 := by rw [e1]; exact hr.set _
 exact ⟨_, _, _, Lo.wv hr1, rfl, x0.of_setRow e1 (Nat.le_refl _)⟩
def mapL (f : Int → Int → Int) (v : Ce) (k : Nat) : List Value := [.int .i64 (if 0 < k then f 0 v.1 else v.1), .int .i64 (if 1 < k then f 1 v.2.1 else v.2.1), .int .i64 (if 2 < k then f 2 v.2.2 else v.2.2)]
theorem each_spec (f : Int → Int → Int) (v : Ce) (fv : Value) (w : World) (hf : ∀ w', Ext w w' → ∀ i x : Int, 0 ≤ i → i < 3 → callV Tryz.prog fv [.int .i64 i, .int .i64 x] w' fun e w'' => e = .returned (.int .i64 (f i x)) ∧ Ext w' w'') :
  Calls Tryz.prog n_vec_each #[cev v, fv] w fun e w' => e = .returned (cev (mapV f v)) ∧ Ext w w' := by
 apply vec_each.vc
 intro w0 e0 w1 e1
 have x0 : Ext w w0 := (Ext.rfl' _).of_alloc e0
 have z0 : w0.heap.size = w.heap.size + 1 := by rw [e0]; simp
 have r0 : Row w0 w.heap.size (mapL f v 0) tVec := by rw [e0]; exact Row.new w [_, _, _] _
 have x1 : Ext w0 w1 := (Ext.rfl' _).of_alloc e1
 have z1 : w1.heap.size = w0.heap.size + 1 := by rw [e1]; simp
 clear e0 e1
 refine (parts_spec ⟨w.heap.size, 0, none⟩ w1).mono ?_
 rintro e w2 ⟨rfl, x2⟩
 have z2 := x2.size
 refine ⟨_, _, _, rfl, x2.heap (by omega), fun n x wr => ∃ k : Nat, x = k ∧ k + n = 3 ∧ Row wr w.heap.size (mapL f v k) tVec ∧ Ext w wr ∧ w2.heap.size ≤ wr.heap.size, ⟨3, rfl, 0, rfl, rfl, r0.ext (x1.tr x2), x0.tr (x1.tr x2), Nat.le_refl _⟩, ?_⟩
 rintro n us x wr ⟨k, rfl, hk, hr, xr, zr⟩
 have hl : ∀ k, (mapL f v k).length = 3 := fun _ => rfl
 have wk : IntKind.wrap .i64 ((k : Int) + 1) = ((k + 1 : Nat) : Int) := by rw [wrap_in (by unfold inI; omega)]; omega
 refine Br.mk (fun hb => ?_) (fun hb => ?_)
 ·simp only [decide_eq_true_eq] at hb
  have hk3 : k = 0 ∨ k = 1 ∨ k = 2 := by omega
  have step : ∀ (j : Nat) (y : Int), k = j → j < 3 → (mapL f v j)[j]? = some (.int .i64 y) → putCells (mapL f v j) j [.int .i64 (f j y)] = mapL f v (j + 1) →
    AndL (nnC (padd (some ⟨w.heap.size, 0, none⟩) j)) (∃ (x13 : Int), ld wr (padd (some ⟨w.heap.size, 0, none⟩) j) = some (.int .i64 x13) ∧
     callV Tryz.prog fv [.int .i64 (k : Int), .int .i64 x13] wr (fun e w14 => ∃ (x15 : Int), e = .returned (.int .i64 x15) ∧ w14.heap[w0.heap.size]? = wr.heap[w0.heap.size]? ∧
     AndL (nnC (padd (some ⟨w.heap.size, 0, none⟩) j)) (((padd (some ⟨w.heap.size, 0, none⟩) j).isSome = true ∧ Wr w14 (padd (some ⟨w.heap.size, 0, none⟩) j) 1) ∧ pblk (padd (some ⟨w.heap.size, 0, none⟩) j) ≠ some w0.heap.size ∧ (∀ w16 : World, w16 = setP w14 (padd (some ⟨w.heap.size, 0, none⟩) j) [.int .i64 x15] →
     ∃ n11, n11 < n ∧ ([.int .i64 0, .int .i64 0, .int .i64 0] : List Value) = [.int .i64 0, .int .i64 0, .int .i64 0] ∧ ∃ k' : Nat, IntKind.wrap .i64 ((k : Int) + 1) = k' ∧ k' + n11 = 3 ∧ Row w16 w.heap.size (mapL f v k') tVec ∧ Ext w w16 ∧ w2.heap.size ≤ w16.heap.size)))) := by
   intro j y hj h3 h1 h2
   subst hj
   refine nnP rfl ⟨y, hr.at k h1, callV_mono' (hf wr xr k y (by omega) (by omega)) ?_⟩
   rintro e w14 ⟨rfl, x14⟩
   have z14 := x14.size
   have hr14 := hr.ext x14
   obtain ⟨p1, p2⟩ := hr14.put1 (j := k) (v := .int .i64 (f k y)) (by rw [hl]; exact h3) rfl
   refine ⟨_, rfl, x14.heap (by omega), nnP rfl ⟨⟨rfl, p1⟩, ?_, fun w16 e16 => ?_⟩⟩
   ·rw [pblk_padd]
    intro q
    have q : w.heap.size = w0.heap.size := by simpa [pblk] using q
    omega
   obtain ⟨q1, q2⟩ := p2 w16 e16
   rw [h2] at q1
   have z16 := q2.size
   exact ⟨n - 1, by omega, rfl, k + 1, wk, by omega, q1, q2.ext (xr.tr x14) fun i hi => by omega, by omega⟩
  refine ⟨⟨by omega, by omega⟩, ?_⟩
  rcases hk3 with h | h | h
  ·exact ⟨_, by rw [h]; rfl, step 0 v.1 h (by decide) rfl rfl⟩
  ·exact ⟨_, by rw [h]; rfl, step 1 v.2.1 h (by decide) rfl rfl⟩
  ·exact ⟨_, by rw [h]; rfl, step 2 v.2.2 h (by decide) rfl rfl⟩
 ·simp only [decide_eq_false_iff_not] at hb
  have hk3 : k = 3 := by omega
  subst hk3
  exact ⟨_, _, _, Lo.wv hr, fun w20 e20 => ⟨rfl, xr.of_setRow e20 (by omega)⟩⟩
theorem Axis_spec (v : Ce) (i : Int) (w : World) : Calls Tryz.prog n_vec_Axis #[cev v, .int .i64 i] w fun e w' => e = .returned (.int .i64 (axK v i)) ∧ Ext w w' := by
 apply vec_Axis.vc
 intro w0 e0
 have x0 : Ext w w0 := (Ext.rfl' _).of_alloc e0
 have r0 : Row w0 w.heap.size (clv v) tVec := by rw [e0]; exact Row.new w [_, _, _] _
 clear e0
 refine Br.mk (fun h => ?_) (fun h => Br.mk (fun h2 => ?_) (fun h2 => (parts_spec ⟨w.heap.size, 0, none⟩ w0).mono ?_))
 ·simp only [decide_eq_true_eq] at h
  exact ⟨by unfold axK; rw [if_neg (by omega), if_neg (by omega), if_neg (by omega)], x0⟩
 ·simp only [decide_eq_true_eq, ge_iff_le] at h2
  exact ⟨by unfold axK; rw [if_neg (by omega), if_neg (by omega), if_neg (by omega)], x0⟩
 ·simp only [decide_eq_false_iff_not, ge_iff_le] at h h2
  rintro e w1 ⟨rfl, x1⟩
  have hr := r0.ext x1
  refine ⟨_, _, _, rfl, ⟨by omega, by omega⟩, ?_⟩
  have h3 : i = 0 ∨ i = 1 ∨ i = 2 := by omega
  rcases h3 with rfl | rfl | rfl
  ·exact ⟨_, rfl, nnP rfl ⟨_, hr.at 0 rfl, rfl, x0.tr x1⟩⟩
  ·exact ⟨_, rfl, nnP rfl ⟨_, hr.at 1 rfl, rfl, x0.tr x1⟩⟩
  ·exact ⟨_, rfl, nnP rfl ⟨_, hr.at 2 rfl, rfl, x0.tr x1⟩⟩
theorem Add1_spec (b : Ce) (i n : Int) {g : Nat} {w : World} (hr : Row w g (clv b) tVec) : Calls Tryz.prog n_vec_Add_1 #[.int .i64 i, .int .i64 n, .pointer (some ⟨g, 0, none⟩)] w fun e w' => e = .returned (.int .i64 (addF n (axK b i))) ∧ Ext w w' := by
 apply vec_Add_1.vc
 refine ⟨_, _, _, Lo.wv hr, (Axis_spec b i w).mono ?_⟩
 rintro e w1 ⟨rfl, x1⟩
 refine ⟨_, rfl, (fAdd_spec n _ w1).mono ?_⟩
 rintro e w2 ⟨rfl, rfl⟩
 exact ⟨_, rfl, rfl, x1⟩
theorem Sub1_spec (b : Ce) (i n : Int) {g : Nat} {w : World} (hr : Row w g (clv b) tVec) : Calls Tryz.prog n_vec_Sub_1 #[.int .i64 i, .int .i64 n, .pointer (some ⟨g, 0, none⟩)] w fun e w' => e = .returned (.int .i64 (subF n (axK b i))) ∧ Ext w w' := by
 apply vec_Sub_1.vc
 refine ⟨_, _, _, Lo.wv hr, (Axis_spec b i w).mono ?_⟩
 rintro e w1 ⟨rfl, x1⟩
 refine ⟨_, rfl, (fSub_spec n _ w1).mono ?_⟩
 rintro e w2 ⟨rfl, rfl⟩
 exact ⟨_, rfl, rfl, x1⟩
theorem vAdd_spec (a b : Ce) (w : World) : Calls Tryz.prog n_vec_Add #[cev a, cev b] w fun e w' => e = .returned (cev (addV a b)) ∧ Ext w w' := by
 apply vec_Add.vc
 intro w0 e0 w1 e1 w2 e2
 have x0 : Ext w w0 := (Ext.rfl' _).of_alloc e0
 have z0 : w0.heap.size = w.heap.size + 1 := by rw [e0]; simp
 have x1 : Ext w0 w1 := (Ext.rfl' _).of_alloc e1
 have z1 : w1.heap.size = w0.heap.size + 1 := by rw [e1]; simp
 have r1 : Row w1 w0.heap.size (clv b) tVec := by rw [e1]; exact Row.new w0 [_, _, _] _
 have x2 : Ext w1 w2 := (Ext.rfl' _).of_alloc e2
 have z2 : w2.heap.size = w1.heap.size + 1 := by rw [e2]; simp
 clear e0 e1 e2
 have x02 := x0.tr (x1.tr x2)
 refine (each_spec (fun i n => addF n (axK b i)) a (.func (.func 204) #[] #[.pointer (some ⟨w0.heap.size, 0, none⟩)]) w2 fun w' x' i x _ _ => callV_of (by kernel_rfl) rfl (Add1_spec b i x ((r1.ext x2).ext x'))).mono ?_
 rintro e w3 ⟨rfl, x3⟩
 have z3 := x3.size
 exact ⟨_, _, _, rfl, x3.heap (by omega), x3.heap (by omega), fun w7 e7 => ⟨rfl, (x02.tr x3).of_setRow e7 (by omega)⟩⟩
theorem vSub_spec (a b : Ce) (w : World) : Calls Tryz.prog n_vec_Sub #[cev a, cev b] w fun e w' => e = .returned (cev (subV a b)) ∧ Ext w w' := by
 apply vec_Sub.vc
 intro w0 e0 w1 e1 w2 e2
 have x0 : Ext w w0 := (Ext.rfl' _).of_alloc e0
 have z0 : w0.heap.size = w.heap.size + 1 := by rw [e0]; simp
 have x1 : Ext w0 w1 := (Ext.rfl' _).of_alloc e1
 have z1 : w1.heap.size = w0.heap.size + 1 := by rw [e1]; simp
 have r1 : Row w1 w0.heap.size (clv b) tVec := by rw [e1]; exact Row.new w0 [_, _, _] _
 have x2 : Ext w1 w2 := (Ext.rfl' _).of_alloc e2
 have z2 : w2.heap.size = w1.heap.size + 1 := by rw [e2]; simp
 clear e0 e1 e2
 have x02 := x0.tr (x1.tr x2)
 refine (each_spec (fun i n => subF n (axK b i)) a (.func (.func 216) #[] #[.pointer (some ⟨w0.heap.size, 0, none⟩)]) w2 fun w' x' i x _ _ => callV_of (by kernel_rfl) rfl (Sub1_spec b i x ((r1.ext x2).ext x'))).mono ?_
 rintro e w3 ⟨rfl, x3⟩
 have z3 := x3.size
 exact ⟨_, _, _, rfl, x3.heap (by omega), x3.heap (by omega), fun w7 e7 => ⟨rfl, (x02.tr x3).of_setRow e7 (by omega)⟩⟩
theorem With1_spec (ax m i n : Int) {g h : Nat} {w : World} {τ : TypeId} (hr : Row w g [.int .i64 ax] τ) (hh : Row w h [.int .i64 m] τ) : Calls Tryz.prog n_vec_With_1 #[.int .i64 i, .int .i64 n, .pointer (some ⟨g, 0, none⟩), .pointer (some ⟨h, 0, none⟩)] w fun e w' => e = .returned (.int .i64 (if i = ax then cutF m else n)) ∧ Ext w w' := by
 apply vec_With_1.vc
 refine ⟨ax, hr.at 0 rfl, Br.mk (fun q => ⟨m, hh.at 0 rfl, (fCut_spec m w).mono ?_⟩) (fun q => ?_)⟩
 ·rintro e w1 ⟨rfl, rfl⟩
  exact ⟨_, rfl, by rw [if_pos (by simpa using q)], Ext.rfl' _⟩
 ·exact ⟨by rw [if_neg (by simpa using q)], Ext.rfl' _⟩
theorem vWith_spec (v : Ce) (ax m : Int) (w : World) : Calls Tryz.prog n_vec_With #[cev v, .int .i64 ax, .int .i64 m] w fun e w' => e = .returned (cev (withV v ax m)) ∧ Ext w w' := by
 apply vec_With.vc
 intro w0 e0 w1 e1 w2 e2 w3 e3
 have x0 : Ext w w0 := (Ext.rfl' _).of_alloc e0
 have z0 : w0.heap.size = w.heap.size + 1 := by rw [e0]; simp
 have x1 : Ext w0 w1 := (Ext.rfl' _).of_alloc e1
 have z1 : w1.heap.size = w0.heap.size + 1 := by rw [e1]; simp
 have r1 : Row w1 w0.heap.size [.int .i64 ax] 3 := by rw [e1]; exact Row.new w0 [_] _
 have x2 : Ext w1 w2 := (Ext.rfl' _).of_alloc e2
 have z2 : w2.heap.size = w1.heap.size + 1 := by rw [e2]; simp
 have r2 : Row w2 w1.heap.size [.int .i64 m] 3 := by rw [e2]; exact Row.new w1 [_] _
 have x3 : Ext w2 w3 := (Ext.rfl' _).of_alloc e3
 have z3 : w3.heap.size = w2.heap.size + 1 := by rw [e3]; simp
 clear e0 e1 e2 e3
 have x03 := x0.tr (x1.tr (x2.tr x3))
 refine (each_spec (fun i own => if i = ax then cutF m else own) v (.func (.func 217) #[] #[.pointer (some ⟨w0.heap.size, 0, none⟩), .pointer (some ⟨w1.heap.size, 0, none⟩)]) w3 fun w' x' i x _ _ => callV_of (by kernel_rfl) rfl (With1_spec ax m i x ((r1.ext (x2.tr x3)).ext x') ((r2.ext x3).ext x'))).mono ?_
 rintro e w4 ⟨rfl, x4⟩
 have z4 := x4.size
 exact ⟨_, _, _, rfl, x4.heap (by omega), x4.heap (by omega), fun w8 e8 => ⟨rfl, (x03.tr x4).of_setRow e8 (by omega)⟩⟩
end Go.Proofs.YtkkkfkopcfdmaaaGreatDoor
namespace Go.Proofs.YtkkkfkopcfdmaaaGreatDoor
open Go Go.Vc Go.RowKit Go.Proofs Go.Chk Go.Runs Go.Code Go.Que Go.Flw Go.Eng
set_option maxRecDepth 100000
abbrev tBox : TypeId := 107
abbrev bxL (b : Bx) : List Value := [.int .i64 b.1.1, .int .i64 b.1.2.1, .int .i64 b.1.2.2, .int .i64 b.2.1, .int .i64 b.2.2.1, .int .i64 b.2.2.2]
theorem ld1 {w : World} {g o : Nat} {cs : List Value} {τ : TypeId} (hr : Row w g cs τ) {v : Value} (h : cs[o]? = some v) : LoadL w (some ⟨g, o, none⟩) 0 [v] := hr.loadL (o := o) (fun j hj => by
 match j, hj with
 | 0, _ => exact h)
theorem ld3 {w : World} {g o : Nat} {cs : List Value} {τ : TypeId} (hr : Row w g cs τ) {x y z : Value} (h : cs[o]? = some x) (h1 : cs[o + 1]? = some y) (h2 : cs[o + 2]? = some z) : LoadL w (some ⟨g, o, none⟩) 0 [x, y, z] := hr.loadL (o := o) (fun j hj => by
 match j, hj with
 | 0, _ => exact h
 | 1, _ => exact h1
 | 2, _ => exact h2)
theorem halfE {a : Int} (h : inI a) : IntKind.wrap .i64 (Int.tdiv (if 0 > a then 0 else a) 2) = max a 0 / 2 := by
 have e : (if 0 > a then 0 else a) = max a 0 := by split <;> omega
 unfold inI at h
 rw [e, Int.tdiv_eq_ediv_of_nonneg (by omega), wrap_in (by unfold inI; omega)]
theorem maxE (a : Int) : (if 0 > a then 0 else a) = max a 0 := by split <;> omega
theorem Stand_spec (foot : Ce) (wd h : Int) (hw : inI wd) (w : World) : Calls Tryz.prog n_vec_Stand #[cev foot, .int .i64 wd, .int .i64 h] w fun e w' => e = .returned (bxv (standK foot wd h)) ∧ Ext w w' := by
 apply vec_Stand.vc
 unfold vec_Stand.pre
 rw [halfE hw, maxE h]
 intro w0 e0 w1 e1 w2 e2 w3 e3
 have x0 : Ext w w0 := (Ext.rfl' _).of_alloc e0
 have z0 : w0.heap.size = w.heap.size + 1 := by rw [e0]; simp
 have r0 : Row w0 w.heap.size (clv foot) tVec := by rw [e0]; exact Row.new w [_, _, _] _
 have x1 : Ext w0 w1 := (Ext.rfl' _).of_alloc e1
 have z1 : w1.heap.size = w0.heap.size + 1 := by rw [e1]; simp
 have x3 : Ext w1 w3 := ((Ext.rfl' _).of_alloc e2).of_setRow e3 (Nat.le_refl _)
 have z3 : w3.heap.size = w1.heap.size + 1 := by rw [e3, e2]; simp
 clear e0 e1 e2 e3
 have x13 := x1.tr (x3.tr (Ext.dr w3))
 have zd : w3.drew.heap.size = w3.heap.size := rfl
 constructor
 all_goals
  refine (vSub_spec foot (max wd 0 / 2, 0, max wd 0 / 2) w3.drew).mono ?_
  rintro e w4 ⟨rfl, x4⟩
  have z4 := x4.size
  refine ⟨_, _, _, rfl, x4.heap (by omega), x4.heap (by omega), x4.heap (by omega), Lo.wv (r0.ext (x13.tr x4)), (vAdd_spec foot (max wd 0 / 2, max h 0, max wd 0 / 2) w4).mono ?_⟩
  rintro e w8 ⟨rfl, x8⟩
  have z8 := x8.size
  exact ⟨_, _, _, rfl, x8.heap (by omega), x8.heap (by omega), x8.heap (by omega), fun w12 e12 => ⟨rfl, (x0.tr (x13.tr (x4.tr x8))).of_setRow e12 (by omega)⟩⟩
structure Bdy where
 foot : Ce
 speed : Ce
 wd : Int
 ht : Int
 stands : Bool
abbrev bdL (b : Bdy) : List Value := [.int .i64 b.foot.1, .int .i64 b.foot.2.1, .int .i64 b.foot.2.2, .int .i64 b.speed.1, .int .i64 b.speed.2.1, .int .i64 b.speed.2.2, .int .i64 b.wd, .int .i64 b.ht, .bool b.stands]
abbrev bdv (b : Bdy) : Value := .agg #[.int .i64 b.foot.1, .int .i64 b.foot.2.1, .int .i64 b.foot.2.2, .int .i64 b.speed.1, .int .i64 b.speed.2.1, .int .i64 b.speed.2.2, .int .i64 b.wd, .int .i64 b.ht, .bool b.stands]
abbrev tBd : TypeId := 70
def Bdy.box (b : Bdy) : Bx := standK b.foot b.wd b.ht
theorem bBox_spec (b : Bdy) (hw : inI b.wd) (w : World) : Calls Tryz.prog n_body_Body_Box #[bdv b] w fun e w' => e = .returned (bxv b.box) ∧ Ext w w' := by
 apply body_Body_Box.vc
 intro w0 e0 w1 e1
 have x1 : Ext w w1 := ((Ext.rfl' _).of_alloc e0).of_alloc e1
 have z0 : w0.heap.size = w.heap.size + 1 := by rw [e0]; simp
 have z1 : w1.heap.size = w0.heap.size + 1 := by rw [e1]; simp
 clear e0 e1
 refine (Stand_spec b.foot b.wd b.ht hw w1).mono ?_
 rintro e w2 ⟨rfl, x2⟩
 have z2 := x2.size
 exact ⟨_, _, _, _, _, _, rfl, x2.heap (by omega), x2.heap (by omega), fun w9 e9 => ⟨rfl, (x1.tr x2).of_setRow e9 (by omega)⟩⟩
theorem cOf_spec (v : Ce) (w : World) : Calls Tryz.prog n_cell_Of #[cev v] w fun e w' => e = .returned (cev (cellF v)) ∧ Ext w w' := by
 apply cell_Of.vc
 intro w0 e0 w1 e1
 have x0 : Ext w w0 := (Ext.rfl' _).of_alloc e0
 have z0 : w0.heap.size = w.heap.size + 1 := by rw [e0]; simp
 have r0 : Row w0 w.heap.size (clv v) tVec := by rw [e0]; exact Row.new w [_, _, _] _
 have x1 : Ext w0 w1.drew := ((Ext.rfl' _).of_alloc e1).drew
 have z1 : w1.drew.heap.size = w0.heap.size + 1 := by show w1.heap.size = _; rw [e1]; simp
 clear e0 e1
 have r1 := r0.ext x1
 refine (Floor_spec v.1 w1.drew).mono ?_
 rintro e w2 ⟨rfl, rfl⟩
 refine ⟨_, rfl, rfl, rfl, ld1 r1 rfl, ld1 r1 rfl, (Floor_spec v.2.1 w1.drew).mono ?_⟩
 rintro e w4 ⟨rfl, rfl⟩
 refine ⟨_, rfl, rfl, rfl, ld1 r1 rfl, (Floor_spec v.2.2 w1.drew).mono ?_⟩
 rintro e w6 ⟨rfl, rfl⟩
 exact ⟨_, rfl, rfl, rfl, fun w8 e8 => ⟨by unfold cellF; rfl, (x0.tr x1).of_setRow e8 (by omega)⟩⟩
theorem thin_spec (a b c d : Int) (w : World) : Calls Tryz.prog n_cell_Span_1 #[.int .i64 a, .int .i64 b, .int .i64 c, .int .i64 d] w fun e w' => e = .returned (.int .i64 (if a = b then c else d)) ∧ w' = w := by
 apply cell_Span_1.vc
 exact Br.mk (fun h => ⟨by rw [if_pos (by simpa using h)], rfl⟩) (fun h => ⟨by rw [if_neg (by simpa using h)], rfl⟩)
theorem Span_spec (b : Bx) (w : World) : Calls Tryz.prog n_cell_Span #[bxv b] w fun e w' => ∃ lo hi : Ce, e = .returned (.tuple #[cev lo, cev hi, .bool (spanB b)]) ∧ (spanB b = true → lo = cellF b.1 ∧ hi = spanT b) ∧ Ext w w' := by
 apply cell_Span.vc
 intro w0 e0 w1 e1 w2 e2
 have x0 : Ext w w0 := (Ext.rfl' _).of_alloc e0
 have z0 : w0.heap.size = w.heap.size + 1 := by rw [e0]; simp
 have r0 : Row w0 w.heap.size (bxL b) tBox := by rw [e0]; exact Row.new w [_, _, _, _, _, _] _
 have x1 : Ext w0 w1 := (Ext.rfl' _).of_alloc e1
 have z1 : w1.heap.size = w0.heap.size + 1 := by rw [e1]; simp
 have x2 : Ext w1 w2 := (Ext.rfl' _).of_alloc e2
 have z2 : w2.heap.size = w1.heap.size + 1 := by rw [e2]; simp
 clear e0 e1 e2
 refine (cOf_spec b.1 w2).mono ?_
 rintro e w3 ⟨rfl, x3⟩
 have z3 := x3.size
 refine ⟨_, _, _, rfl, x3.heap (by omega), x3.heap (by omega), x3.heap (by omega), fun w7 e7 w8 e8 => (vAdd_spec b.2 (-1, -1, -1) w8).mono ?_⟩
 have x8 : Ext w3 w8 := ((Ext.rfl' _).of_alloc e7).of_setRow e8 (Nat.le_refl _)
 have z8 : w8.heap.size = w3.heap.size + 1 := by rw [e8, e7]; simp
 have r8 : Row w8 w3.heap.size (clv (cellF b.1)) tCe := by rw [e8]; exact Row.set (by rw [e7]; exact Row.new w3 [_, _, _] _) _
 clear e7 e8
 rintro e w9 ⟨rfl, x9⟩
 have z9 := x9.size
 refine ⟨_, _, _, rfl, x9.heap (by omega), x9.heap (by omega), x9.heap (by omega), x9.heap (by omega), (cOf_spec (addV b.2 (-1, -1, -1)) w9).mono ?_⟩
 rintro e w13 ⟨rfl, x13⟩
 have z13 := x13.size
 refine ⟨_, _, _, rfl, x13.heap (by omega), x13.heap (by omega), x13.heap (by omega), x13.heap (by omega), fun w17 e17 w18 e18 => ?_⟩
 have x18 : Ext w13 w18 := ((Ext.rfl' _).of_alloc e17).of_setRow e18 (Nat.le_refl _)
 have z18 : w18.heap.size = w13.heap.size + 1 := by rw [e18, e17]; simp
 have r18 : Row w18 w13.heap.size (clv (topK b)) tCe := by rw [e18]; exact Row.set (by rw [e17]; exact Row.new w13 [_, _, _] _) _
 clear e17 e18
 have x818 := x9.tr (x13.tr x18)
 have x018 := x0.tr (x1.tr (x2.tr (x3.tr (x8.tr x818))))
 have rb := r0.ext (x1.tr (x2.tr (x3.tr (x8.tr x818))))
 have rl := r8.ext x818
 refine ⟨fun n x wr => ∃ k : Nat, x = k ∧ k + n = 3 ∧ Ext w18 wr ∧ ∀ j : Nat, j < k → thinK b j = false, ⟨3, rfl, rfl, rfl, rfl, rfl, 0, rfl, rfl, Ext.rfl' _, fun j hj => by omega⟩, ?_⟩
 rintro n us x wr ⟨k, rfl, hk, xr, ht⟩
 have zr := xr.size
 have xd := Ext.dr wr
 have zd : wr.drew.heap.size = wr.heap.size := rfl
 have wk : IntKind.wrap .i64 ((k : Int) + 1) = ((k + 1 : Nat) : Int) := by rw [wrap_in (by unfold inI; omega)]; omega
 refine Br.mk (fun hb => (Axis_spec b.1 k wr.drew).mono ?_) (fun hb => (thin_spec b.1.1 b.2.1 (cellF b.1).1 (topK b).1 wr.drew).mono ?_)
 ·simp only [decide_eq_true_eq] at hb
  rintro e w25 ⟨rfl, x25⟩
  have z25 := x25.size
  have x25d := xr.tr (xd.tr x25)
  refine ⟨_, rfl, x25.heap (by omega), x25.heap (by omega), x25.heap (by omega), x25.heap (by omega), x25.heap (by omega), ld3 (rb.ext x25d) rfl rfl rfl, (Axis_spec b.2 k w25).mono ?_⟩
  rintro e w27 ⟨rfl, x27⟩
  have z27 := x27.size
  have next : thinK b k = false → ∀ j : Nat, j < k + 1 → thinK b j = false := fun h j hj => by
   by_cases q : j < k
   ·exact ht j q
   ·rw [show j = k from by omega]; exact h
  refine ⟨_, rfl, x27.heap (by omega), x27.heap (by omega), x27.heap (by omega), x27.heap (by omega), x27.heap (by omega), Br.mk (fun h1 => (Frac_spec _ w27).mono ?_) (fun h1 => ?_)⟩
  ·rintro e w29 ⟨rfl, rfl⟩
   have h1 : axK b.1 k = axK b.2 k := by simpa using h1
   refine ⟨_, rfl, rfl, rfl, rfl, rfl, rfl, Br.mk (fun h2 => fun w31 e31 w32 e32 => ?_) (fun h2 => ?_)⟩
   ·have h2 : fracF (axK b.1 k) = 0 := by simpa using h2
    have hth : thinK b k = true := by unfold thinK; rw [h1, ← h1, h2]; simp [h1]
    have hsp : spanB b = false := by
     have h3 : (k : Int) = 0 ∨ (k : Int) = 1 ∨ (k : Int) = 2 := by omega
     unfold spanB
     rcases h3 with q | q | q <;> (rw [q] at hth; rw [hth]; simp)
    refine ⟨(0, 0, 0), (0, 0, 0), by rw [hsp], fun q => absurd (hsp.symm.trans q) (by decide), ((x018.tr (x25d.tr x27)).of_setRow e31 (by omega)).of_setRow e32 (by omega)⟩
   ·have h2 : ¬ fracF (axK b.1 k) = 0 := by simpa using h2
    exact ⟨n - 1, by omega, rfl, rfl, rfl, rfl, rfl, k + 1, wk, by omega, x25d.tr x27, next (by unfold thinK; simp [h2])⟩
  ·have h1 : ¬ axK b.1 k = axK b.2 k := by simpa using h1
   exact ⟨n - 1, by omega, rfl, rfl, rfl, rfl, rfl, k + 1, wk, by omega, x25d.tr x27, next (by unfold thinK; simp [h1])⟩
 ·simp only [decide_eq_false_iff_not] at hb
  have hsp : spanB b = true := by
   unfold spanB
   rw [show thinK b 0 = false from ht 0 (by omega), show thinK b 1 = false from ht 1 (by omega), show thinK b 2 = false from ht 2 (by omega)]
   rfl
  have rb' := rb.ext (xr.tr xd)
  have rl' := rl.ext (xr.tr xd)
  have rt' := r18.ext (xr.tr xd)
  rintro e w33 ⟨rfl, rfl⟩
  refine ⟨_, rfl, rfl, rfl, rfl, rfl, rfl, ld1 rt' rfl, ld1 rl' rfl, ld1 rb' rfl, ld1 rb' rfl, ld1 rt' rfl, ld1 rl' rfl, ld1 rb' rfl, ld1 rb' rfl, (thin_spec b.1.2.1 b.2.2.1 (cellF b.1).2.1 (topK b).2.1 wr.drew).mono ?_⟩
  rintro e w35 ⟨rfl, rfl⟩
  refine ⟨_, rfl, rfl, rfl, rfl, rfl, rfl, ld1 rt' rfl, ld1 rl' rfl, ld1 rb' rfl, ld1 rb' rfl, (thin_spec b.1.2.2 b.2.2.2 (cellF b.1).2.2 (topK b).2.2 wr.drew).mono ?_⟩
  rintro e w37 ⟨rfl, rfl⟩
  refine ⟨_, rfl, rfl, rfl, rfl, rfl, rfl, fun w39 e39 w40 e40 w41 e41 w42 e42 => ?_⟩
  have r39 : Row w39 w13.heap.size (clv ((spanT b).1, (topK b).2.1, (topK b).2.2)) tCe := by rw [e39]; exact Row.set rt' [_, _, _]
  have r40 : Row w40 w13.heap.size (clv ((spanT b).1, (spanT b).2.1, (topK b).2.2)) tCe := by rw [e40]; exact Row.set r39 [_, _, _]
  have r41 : Row w41 w13.heap.size (clv (spanT b)) tCe := by rw [e41]; exact Row.set r40 [_, _, _]
  have r42 : Row w42 w13.heap.size (clv (spanT b)) tCe := (r41.ext (Ext.dr w41)).same (by rw [e42]; exact setRow_other _ _ _ _ (by omega))
  have x42 : Ext w w42 := (((((x018.tr (xr.tr xd)).of_setRow e39 (by omega)).of_setRow e40 (by omega)).of_setRow e41 (by omega)).drew).of_setRow e42 (by omega)
  exact ⟨Lo.wv r42, fun w43 e43 => ⟨cellF b.1, spanT b, by rw [hsp]; rfl, fun _ => ⟨rfl, rfl⟩, x42.of_setRow e43 (by omega)⟩⟩
theorem Under_spec (b : Bx) (w : World) : Calls Tryz.prog n_probe_Under #[bxv b] w fun e w' => e = .returned (bxv (underK b)) ∧ Ext w w' := by
 apply probe_Under.vc
 intro w0 e0 w1 e1
 have x0 : Ext w w0 := (Ext.rfl' _).of_alloc e0
 have z0 : w0.heap.size = w.heap.size + 1 := by rw [e0]; simp
 have r0 : Row w0 w.heap.size (bxL b) tBox := by rw [e0]; exact Row.new w [_, _, _, _, _, _] _
 have x1 : Ext w0 w1.drew := ((Ext.rfl' _).of_alloc e1).drew
 have z1 : w1.drew.heap.size = w0.heap.size + 1 := by show w1.heap.size = _; rw [e1]; simp
 clear e0 e1
 have r1 := r0.ext x1
 refine (fSub_spec b.1.2.1 1 w1.drew).mono ?_
 rintro e w2 ⟨rfl, rfl⟩
 refine ⟨_, rfl, rfl, rfl, ld3 r1 rfl rfl rfl, ld3 r1 rfl rfl rfl, (vWith_spec b.1 1 (subF b.1.2.1 1) w1.drew).mono ?_⟩
 rintro e w4 ⟨rfl, x4⟩
 have z4 := x4.size
 refine ⟨_, _, _, rfl, x4.heap (by omega), x4.heap (by omega), ld3 (r1.ext x4) rfl rfl rfl, (vWith_spec b.2 1 b.1.2.1 w4).mono ?_⟩
 rintro e w8 ⟨rfl, x8⟩
 have z8 := x8.size
 exact ⟨_, _, _, rfl, x8.heap (by omega), x8.heap (by omega), fun w12 e12 => ⟨rfl, (x0.tr (x1.tr (x4.tr x8))).of_setRow e12 (by omega)⟩⟩
end Go.Proofs.YtkkkfkopcfdmaaaGreatDoor
namespace Go.Proofs.YtkkkfkopcfdmaaaGreatDoor
open Go Go.Vc Go.RowKit Go.Proofs Go.Chk Go.Runs Go.Code Go.Que Go.Flw Go.Eng
set_option maxRecDepth 100000
abbrev eachX (b : Bx) : List (List Value) := (cellsE b).map fun c => [cev c]
abbrev eachFn (g : Nat) : Value := .func (.func 265) #[] #[.pointer (some ⟨g, 0, none⟩)]
theorem each_iter (b : Bx) (g : Nat) (W0 : World) (hb : Row W0 g (bxL b) tBox) : Iter Tryz.prog (eachFn g) W0 (fun i => i = g) (eachX b) := by
 refine ⟨⟨_, _, _, rfl, by kernel_rfl⟩, ?_⟩
 intro y B J Jx F0 W hB hsJ hsX hbd hRd hround h0
 refine callV_of (by kernel_rfl) (by rfl) ?_
 apply probe_each_1.vc
 have hbW : Row W g (bxL b) tBox := hb.same (hRd g rfl).2.2
 refine ⟨_, _, _, _, _, _, Lo.wv hbW, (Span_spec b W).mono ?_⟩
 rintro e w6 ⟨lo, hi, rfl, hsp, x6⟩
 refine ⟨_, _, _, _, _, _, _, rfl, fun w14 e14 w15 e15 w16 e16 w17 e17 => ?_⟩
 have x14 : Ext w6 w14 := (Ext.rfl' _).of_alloc e14
 have z14 : w14.heap.size = w6.heap.size + 1 := by rw [e14]; simp
 have x17 : Ext w6 w17 := (((x14.of_alloc e15).of_setRow e16 (Nat.le_refl _)).of_setRow e17 (by omega))
 have z17 : w17.heap.size = w6.heap.size + 2 := by rw [e17, setRow_size, e16, setRow_size, e15]; simp [z14]
 clear e14 e15 e16 e17
 have xW := x6.tr x17
 have zW := xW.size
 obtain ⟨Q, hQ⟩ : ∃ Q : Nat → World → Prop, Q = fun k wr => ∃ F, J k F wr ∧ ∀ i, F i → (F0 i ∨ w17.heap.size ≤ i) := ⟨_, rfl⟩
 have z6 := x6.size
 have hF0 : ∀ i, F0 i → i < w6.heap.size := fun i hi => Nat.lt_of_lt_of_le (hbd _ _ _ h0 i hi) z6
 have init : Q 0 w17 := by
  rw [hQ]
  exact ⟨F0, hsJ _ _ _ _ h0 (Below.mono xW hB) fun i hi => xW.heap (hbd _ _ _ h0 i hi), fun i hi => .inl hi⟩
 have round : ∀ {k : Nat} {wr : World} {x : List Value}, w17.heap.size ≤ wr.heap.size → (eachX b)[k]? = some x → Q k wr → callV Tryz.prog y x wr fun e w' => w17.heap.size ≤ w'.heap.size ∧ (∀ i, i < w17.heap.size → ¬ F0 i → w'.heap[i]? = wr.heap[i]?) ∧ ((e = .returned (.bool true) ∧ Q (k + 1) w') ∨ (e = .returned (.bool false) ∧ ∃ F', Jx () F' w')) := fun {k wr x} hz hx h => by
  rw [hQ] at h ⊢
  obtain ⟨F, hJ, h2⟩ := h
  refine callV_mono (hround _ _ _ _ hx hJ) ?_
  have keep : ∀ {w' : World} {F2 : Nat → Prop}, Step F F2 wr w' → w17.heap.size ≤ w'.heap.size ∧ (∀ i, i < w17.heap.size → ¬ F0 i → w'.heap[i]? = wr.heap[i]?) := fun hst => ⟨by have := hst.size; omega, fun i hi hn => hst.same i (by omega) fun hf => (h2 i hf).elim hn (by omega)⟩
  rintro e w' (⟨rfl, F2, hJ2, hst⟩ | ⟨rfl, F2, hJ2, hst⟩)
  ·refine ⟨(keep hst).1, (keep hst).2, .inl ⟨rfl, F2, hJ2, fun i hi => ?_⟩⟩
   rcases hst.sub i hi with hf | hf
   ·exact h2 i hf
   ·exact .inr (by omega)
  ·exact ⟨(keep hst).1, (keep hst).2, .inr ⟨rfl, F2, hJ2⟩⟩
 have fin : ∀ {wr : World}, Q (eachX b).length wr → ∃ F', J (eachX b).length F' wr := fun h => by
  rw [hQ] at h
  obtain ⟨F, hJ, -⟩ := h
  exact ⟨F, hJ⟩
 have n6 : ¬ F0 w6.heap.size := fun q => by have := hF0 _ q; omega
 have n14 : ¬ F0 w14.heap.size := fun q => by have := hF0 _ q; omega
 clear hQ hround h0 hRd hbd
 have hsz : w17.heap.size = w6.heap.size + 2 := z17
 cases hspan : spanB b with
 | false =>
   have hnil : eachX b = [] := by unfold eachX cellsE; rw [hspan]; rfl
   rw [hnil] at fin ⊢
   exact ⟨fun n x wr => wr = w17, ⟨0, rfl, rfl, rfl⟩, fun n us x wr hwr => by
    subst hwr
    exact Br.mk (fun h => by cases h) (fun _ => ⟨⟨_, rfl⟩, .inl (fin init)⟩)⟩
 | true =>
   obtain ⟨rfl, rfl⟩ := hsp hspan
   have hc : cellsE b = boxE (cellF b.1) (spanT b) := by unfold cellsE; rw [hspan]; rfl
   have hat : ∀ {jy jz jx : Nat}, jy < spanN (cellF b.1).2.1 (spanT b).2.1 → jz < spanN (cellF b.1).2.2 (spanT b).2.2 → jx < spanN (cellF b.1).1 (spanT b).1 →
     (eachX b)[(jy * spanN (cellF b.1).2.2 (spanT b).2.2 + jz) * spanN (cellF b.1).1 (spanT b).1 + jx]? = some [cev ((cellF b.1).1 + (jx : Int), (cellF b.1).2.1 + (jy : Int), (cellF b.1).2.2 + (jz : Int))] := fun h1 h2 h3 => by
    unfold eachX
    rw [hc, List.getElem?_map, boxE_at _ _ h1 h2 h3]
    rfl
   have hlen : (eachX b).length = spanN (cellF b.1).2.1 (spanT b).2.1 * spanN (cellF b.1).2.2 (spanT b).2.2 * spanN (cellF b.1).1 (spanT b).1 := by
    unfold eachX
    rw [List.length_map, hc, boxE_len]
   obtain ⟨⟨a1, a2⟩, ⟨a3, a4⟩, a5, a6⟩ := cell_in b.1
   obtain ⟨⟨b1, b2⟩, ⟨b3, b4⟩, b5, b6⟩ := span_in b
   clear hsp
   generalize eachX b = xs at *
   generalize cellF b.1 = a at *
   generalize spanT b = z at *
   have hny : ∀ j : Nat, a.2.1 + (j : Int) ≤ z.2.1 ↔ j < spanN a.2.1 z.2.1 := fun j => by unfold spanN; omega
   have hnz : ∀ j : Nat, a.2.2 + (j : Int) ≤ z.2.2 ↔ j < spanN a.2.2 z.2.2 := fun j => by unfold spanN; omega
   have hnx : ∀ j : Nat, a.1 + (j : Int) ≤ z.1 ↔ j < spanN a.1 z.1 := fun j => by unfold spanN; omega
   have hmy : spanN a.2.1 z.2.1 ≤ 4294967297 := by unfold spanN; omega
   have hmz : spanN a.2.2 z.2.2 ≤ 4294967297 := by unfold spanN; omega
   have hmx : spanN a.1 z.1 ≤ 4294967297 := by unfold spanN; omega
   generalize spanN a.2.1 z.2.1 = ny at *
   generalize spanN a.2.2 z.2.2 = nz at *
   generalize spanN a.1 z.1 = nx at *
   refine ⟨fun n v wr => ∃ jy : Nat, v = a.2.1 + jy ∧ jy + n = ny ∧ Q (jy * nz * nx) wr ∧ w17.heap.size ≤ wr.heap.size, ⟨ny, rfl, rfl, 0, by omega, by omega, by rw [Nat.zero_mul, Nat.zero_mul]; exact init, Nat.le_refl _⟩, ?_⟩
   rintro n2 us3 v w22 ⟨jy, rfl, hjy, hq, zr⟩
   refine Br.mk (fun _ => Br.mk (fun hc1 => ?_) (fun hc1 => ?_)) (fun h => by cases h)
   ·simp only [decide_eq_true_eq] at hc1
    have ly := (hny jy).1 hc1
    refine ⟨fun n v wr => ∃ jz : Nat, v = a.2.2 + jz ∧ jz + n = nz ∧ Q ((jy * nz + jz) * nx) wr ∧ w17.heap.size ≤ wr.heap.size, ⟨nz, rfl, rfl, 0, by omega, by omega, by rw [Nat.add_zero]; exact hq, zr⟩, ?_⟩
    clear hq zr
    rintro n10 us11 v w28 ⟨jz, rfl, hjz, hq, zr⟩
    refine Br.mk (fun hc2 => ?_) (fun hc2 => ?_)
    ·simp only [decide_eq_true_eq] at hc2
     have lz := (hnz jz).1 hc2
     refine ⟨fun n v wr => ∃ jx : Nat, v = a.1 + jx ∧ jx + n = nx ∧ Q ((jy * nz + jz) * nx + jx) wr ∧ w17.heap.size ≤ wr.heap.size, ⟨nx, rfl, rfl, 0, by omega, by omega, by rw [Nat.add_zero]; exact hq, zr⟩, ?_⟩
     clear hq zr
     rintro n18 us19 v w34 ⟨jx, rfl, hjx, hq, zr⟩
     refine Br.mk (fun hc3 => ?_) (fun hc3 => ?_)
     ·simp only [decide_eq_true_eq] at hc3
      have lx := (hnx jx).1 hc3
      refine callV_mono (round zr (hat ly lz lx) hq) ?_
      have wk : IntKind.wrap .i64 (a.1 + (jx : Int) + 1) = a.1 + ((jx + 1 : Nat) : Int) := by rw [wrap_in (by unfold inI; omega)]; omega
      rintro e w36 ⟨z36, k36, q⟩
      have k1 := k36 w6.heap.size (by omega) n6
      have k2 := k36 w14.heap.size (by omega) n14
      rcases q with ⟨rfl, hq2⟩ | ⟨rfl, hx2⟩
      ·exact ⟨true, rfl, k1, k2, Br.mk (fun h => by cases h) (fun _ => ⟨n18 - 1, by omega, rfl, rfl, jx + 1, wk, by omega, hq2, z36⟩)⟩
      ·exact ⟨false, rfl, k1, k2, Br.mk (fun _ => ⟨⟨_, rfl⟩, .inr hx2⟩) (fun h => by cases h)⟩
     ·simp only [decide_eq_false_iff_not] at hc3
      have e : jx = nx := by have := mt (hnx jx).2 hc3; omega
      subst e
      have wk : IntKind.wrap .i64 (a.2.2 + (jz : Int) + 1) = a.2.2 + ((jz + 1 : Nat) : Int) := by rw [wrap_in (by unfold inI; omega)]; omega
      refine ⟨n10 - 1, by omega, rfl, rfl, jz + 1, wk, by omega, ?_, zr⟩
      have : (jy * nz + (jz + 1)) * jx = (jy * nz + jz) * jx + jx := by rw [← Nat.add_assoc, Nat.add_mul _ 1, Nat.one_mul]
      rw [this]; exact hq
    ·simp only [decide_eq_false_iff_not] at hc2
     have e : jz = nz := by have := mt (hnz jz).2 hc2; omega
     subst e
     have wk : IntKind.wrap .i64 (a.2.1 + (jy : Int) + 1) = a.2.1 + ((jy + 1 : Nat) : Int) := by rw [wrap_in (by unfold inI; omega)]; omega
     refine ⟨n2 - 1, by omega, rfl, rfl, jy + 1, wk, by omega, ?_, zr⟩
     rw [Nat.add_mul jy 1, Nat.one_mul]; exact hq
   ·simp only [decide_eq_false_iff_not] at hc1
    have e : jy = ny := by have := mt (hny jy).2 hc1; omega
    subst e
    rw [← hlen] at hq
    exact ⟨⟨_, rfl⟩, .inl (fin hq)⟩
end Go.Proofs.YtkkkfkopcfdmaaaGreatDoor
namespace Go.Proofs.YtkkkfkopcfdmaaaGreatDoor
open Go Go.Vc Go.RowKit Go.Proofs Go.Chk Go.Runs Go.Code Go.Que Go.Flw Go.Eng
set_option maxRecDepth 100000
theorem each_spec2 (b : Bx) (w : World) : Calls Tryz.prog n_probe_each #[bxv b] w fun e w' => e = .returned (eachFn w.heap.size) ∧ Row w' w.heap.size (bxL b) tBox ∧ Ext w w' := by
 apply probe_each.vc
 intro w0 e0
 exact ⟨rfl, by rw [e0]; exact Row.new w [_, _, _, _, _, _] _, (Ext.rfl' _).of_alloc e0⟩
theorem eachX_inv {b : Bx} {n : Nat} {x y z : Int} (h : (eachX b)[n]? = some [.agg #[.int .i64 x, .int .i64 y, .int .i64 z]]) : (cellsE b)[n]? = some (x, y, z) := by
 unfold eachX at h
 rw [List.getElem?_map] at h
 cases hc : (cellsE b)[n]? with
 | none => rw [hc] at h; cases h
 | some c =>
   rw [hc] at h
   simp only [Option.map_some] at h
   injection h with h
   injection h with h _
   injection h with h
   injection h with h
   injection h with h1 h
   injection h with h2 h
   injection h with h3 _
   injection h1 with _ h1
   injection h2 with _ h2
   injection h3 with _ h3
   exact congrArg some (Prod.ext h1 (Prod.ext h2 h3))
theorem cells_ok {b : Bx} {c : Ce} (h : c ∈ cellsE b) : okC c := by
 unfold cellsE at h
 split at h
 ·have h1 := boxE_mem h
  have h2 := cell_in b.1
  have h3 := span_in b
  unfold okC inI
  omega
 ·cases h
theorem Find_spec {v : Value} {V : Ce → Int} {w : World} (hV : Tl v V w) (hv : oneC v = []) (b : Bx) (fp : Value) (hfp : oneC fp = []) (p : Int → Bool) (hp : ∀ (x : Int) (w' : World), callV Tryz.prog fp [.int .i64 x] w' fun e w'' => e = .returned (.bool (p x)) ∧ Ext w' w'') :
  Calls Tryz.prog n_probe_Find #[v, bxv b, fp] w fun e w' => ∃ c : Ce, e = .returned (.tuple #[cev c, .bool (anyK V b p)]) ∧ Ext w w' := by
 apply probe_Find.vc
 unfold probe_Find.pre
 rw [hv, AndL_nil]
 intro w0 e0 w1 e1
 rw [hfp, AndL_nil]
 intro w2 e2 w3 e3 w4 e4
 have x0 : Ext w w0 := (Ext.rfl' _).of_alloc e0
 have z0 : w0.heap.size = w.heap.size + 1 := by rw [e0]; simp
 have x1 : Ext w0 w1 := (Ext.rfl' _).of_alloc e1
 have z1 : w1.heap.size = w0.heap.size + 1 := by rw [e1]; simp
 have x2 : Ext w1 w2 := (Ext.rfl' _).of_alloc e2
 have z2 : w2.heap.size = w1.heap.size + 1 := by rw [e2]; simp
 have r2 : ∃ τ, Row w2 w1.heap.size [fp] τ := ⟨_, by rw [e2]; exact Row.new w1 [_] _⟩
 have x3 : Ext w2 w3 := (Ext.rfl' _).of_alloc e3
 have z3 : w3.heap.size = w2.heap.size + 1 := by rw [e3]; simp
 have x4 : Ext w3 w4 := (Ext.rfl' _).of_alloc e4
 have z4 : w4.heap.size = w3.heap.size + 1 := by rw [e4]; simp
 clear e0 e1 e2 e3 e4
 have x04 := x0.tr (x1.tr (x2.tr (x3.tr x4)))
 obtain ⟨τ2, r2⟩ := r2
 refine (each_spec2 b w4).mono ?_
 rintro e w5 ⟨rfl, hb5, x5⟩
 have z5 := x5.size
 have l5 := hb5.lt
 have x05 := x04.tr x5
 have r5 := r2.ext (x3.tr (x4.tr x5))
 refine ⟨_, rfl, x5.heap (by omega), x5.heap (by omega), x5.heap (by omega), x5.heap (by omega), x5.heap (by omega), eachX b, fun i => i = w4.heap.size, fun _ => False,
  fun n F x y z bb w' => (∀ i, ¬ F i) ∧ (∀ c ∈ (cellsE b).take n, p (V c) = false) ∧ Mod (fun i => w5.heap.size ≤ i) w5 w',
  fun o F x y z bb w' => (∀ i, ¬ F i) ∧ bb = anyK V b p ∧ Mod (fun i => i = w2.heap.size ∨ i = w3.heap.size ∨ w5.heap.size ≤ i) w5 w', ?_, ?_, ?_, fun n F x y z bb w' h i hi => (h.1 i hi).elim, fun o F x y z bb w' h i hi => (h.1 i hi).elim, fun i hi => ?_, fun w45 hbeg => ?_, ?_, ?_, ?_⟩
 ·intro x hx
  obtain ⟨c, -, rfl⟩ := List.mem_map.1 hx
  exact ⟨_, _, _, rfl⟩
 ·rintro n F x y z bb w21 w22 ⟨h1, h2, h3⟩ hbl -
  exact ⟨h1, h2, h3.tr ⟨hbl.os, hbl.tape, hbl.output, hbl.size, fun i hi hn => hbl.block i (Nat.lt_of_not_le hn)⟩ fun i hi => .inl hi⟩
 ·rintro o F x y z bb w21 w22 ⟨h1, h2, h3⟩ hbl -
  exact ⟨h1, h2, h3.tr ⟨hbl.os, hbl.tape, hbl.output, hbl.size, fun i hi hn => hbl.block i (Nat.lt_of_not_le hn)⟩ fun i hi => .inl (.inr (.inr hi))⟩
 ·subst hi
  exact ⟨by omega, id, by omega, by omega, by omega, by omega, by omega, trivial⟩
 ·exact ⟨each_iter b _ w45 (hb5.same (hbeg.ext.block _ (by omega))), rfl, rfl, rfl, fun i h => h, fun c hc => by simp at hc, Mod.of_ext hbeg.ext⟩
 ·rintro n F us x49 x50 x51 b52 x53 x54 x55 w56 hx hI w58 e58 w59 e59
  have x59 : Ext w56 w59 := ((Ext.rfl' _).of_alloc e58).of_setRow e59 (Nat.le_refl _)
  have z59 : w59.heap.size = w56.heap.size + 1 := by rw [e59, setRow_size, e58]; simp
  have z56 := hI.2.2.size
  clear e58 e59
  refine ⟨x59, fun w57 hrec hI57 => ?_⟩
  obtain ⟨hF, hno, hM⟩ := hI57
  have zr := hrec.size
  have hc := eachX_inv hx
  have hmem := List.mem_of_getElem? hc
  have z57 := hM.size
  have ht : (cellsE b).take (n + 1) = (cellsE b).take n ++ [(x53, x54, x55)] := by rw [List.take_add_one, hc]; rfl
  obtain ⟨D, hD1, hD2⟩ := hV
  refine callV_mono (hD2 w57.drew (fun i hi => ?_) (x53, x54, x55) (cells_ok hmem)) ?_
  ·have := hD1 i hi
   have := x05.size
   exact (hM.same i (by omega) (by omega)).trans (x05.heap (by omega))
  rintro e w60 ⟨rfl, x60⟩
  have zd : w57.drew.heap.size = w57.heap.size := rfl
  have z60 := x60.size
  have hM60 := hM.trans (Mod.of_ext ((Ext.dr w57).tr x60))
  refine ⟨_, rfl, x60.heap (by omega), x60.heap (by omega), x60.heap (by omega), x60.heap (by omega), x60.heap (by omega), x60.heap (by omega), Lo.wv (hM60.row r5 (by omega)), callV_mono (hp _ w60) ?_⟩
  rintro e w62 ⟨rfl, x62⟩
  have z62 := x62.size
  have hM62 := hM60.trans (Mod.of_ext x62)
  refine ⟨_, rfl, x62.heap (by omega), x62.heap (by omega), x62.heap (by omega), x62.heap (by omega), x62.heap (by omega), x62.heap (by omega), Br.mk (fun hq => fun w64 e64 w65 e65 => ?_) (fun hq => ?_)⟩
  ·have hq : p (V (x53, x54, x55)) = true := hq
   have hany : anyK V b p = true := List.any_eq_true.2 ⟨_, hmem, hq⟩
   have hz65 : w65.heap.size = w62.heap.size := by rw [e65, setRow_size, e64, setRow_size]
   have hs65 : ∀ i, i ≠ w2.heap.size → i ≠ w3.heap.size → w65.heap[i]? = w62.heap[i]? := fun i h1 h2 => by rw [e65, setRow_other _ _ _ _ h2, e64, setRow_other _ _ _ _ h1]
   have hm65 : Mod (fun i => i = w2.heap.size ∨ i = w3.heap.size) w62 w65 := ⟨by rw [e65, e64]; rfl, by rw [e65, e64]; rfl, by rw [e65, e64]; rfl, by omega, fun i _ hn => hs65 i (fun q => hn (.inl q)) (fun q => hn (.inr q))⟩
   refine ⟨rfl, fun _ => False, ⟨rfl, rfl, rfl, fun i h => h, hany.symm, (hM62.mono fun i _ h => .inr (.inr h)).trans (hm65.mono fun i _ h => h.elim .inl fun h => .inr (.inl h))⟩, ?_⟩
   have hm5765 := ((Mod.of_ext (F := fun i => i = w2.heap.size ∨ i = w3.heap.size) (((Ext.dr w57).tr x60).tr x62))).trans hm65
   refine ⟨fun i hi => ?_, hm5765.size, fun i hi hn => hm5765.same i hi fun q => hn (.inr ?_)⟩
   ·rcases hi with h | h
    ·exact h.elim
    ·exact .inl (.inr h)
   ·rcases q with rfl | rfl <;> simp
  ·have hq : p (V (x53, x54, x55)) = false := hq
   have x5762 := ((Ext.dr w57).tr x60).tr x62
   refine ⟨fun _ => False, ⟨rfl, rfl, rfl, fun i h => h, fun c hc => ?_, hM62⟩, ⟨fun i hi => ?_, x5762.size, fun i hi _ => x5762.block i hi⟩⟩
   ·rw [ht, List.mem_append] at hc
    rcases hc with hc | hc
    ·exact hno c hc
    ·rw [List.mem_singleton.1 hc]; exact hq
   ·rcases hi with h | h
    ·exact h.elim
    ·exact .inl (.inr h)
 ·rintro F us x70 x71 x72 b73 w74 ⟨hF, hno, hM⟩ hdef w75 e75 w76 e76
  have z74 := hM.size
  have hlen : (eachX b).length = (cellsE b).length := by unfold eachX; simp
  rw [hlen, List.take_length] at hno
  have hany : anyK V b p = false := by
   unfold anyK
   rw [List.any_eq_false]
   exact fun c hc => by rw [hno c hc]; decide
  refine ⟨by rw [e76, setRow_other _ _ _ _ (by omega), e75, setRow_other _ _ _ _ (by omega)]; exact hdef, fun w77 hrec => ⟨(0, 0, 0), by rw [hany], ?_⟩⟩
  have x74 : Ext w w74 := hM.ext x05 fun i hi => by have := x05.size; omega
  have x76 : Ext w w76 := (x74.of_setRow e75 (by omega)).of_setRow e76 (by omega)
  exact (Mod.of_rec hrec).ext x76 fun i hi => by have := x05.size; omega
 ·rintro F us x80 x81 x82 b83 w84 ⟨hF, rfl, hM⟩ hdef
  refine ⟨hdef, fun w85 hrec => ⟨(x80, x81, x82), rfl, ?_⟩⟩
  have x84 : Ext w w84 := hM.ext x05 fun i hi => by have := x05.size; omega
  exact (Mod.of_rec hrec).ext x84 fun i hi => by have := x05.size; omega
theorem any_spec {v : Value} {V : Ce → Int} {w : World} (hV : Tl v V w) (hv : oneC v = []) (b : Bx) (fp : Value) (hfp : oneC fp = []) (p : Int → Bool) (hp : ∀ (x : Int) (w' : World), callV Tryz.prog fp [.int .i64 x] w' fun e w'' => e = .returned (.bool (p x)) ∧ Ext w' w'') :
  Calls Tryz.prog n_probe_any #[v, bxv b, fp] w fun e w' => e = .returned (.bool (anyK V b p)) ∧ Ext w w' := by
 apply probe_any.vc
 intro w0 e0
 have x0 : Ext w w0 := (Ext.rfl' _).of_alloc e0
 have z0 : w0.heap.size = w.heap.size + 1 := by rw [e0]; simp
 clear e0
 refine (Find_spec (hV.ext x0) hv b fp hfp p hp).mono ?_
 rintro e w1 ⟨c, rfl, x1⟩
 have z1 := x1.size
 refine ⟨_, _, _, _, rfl, x1.heap (by omega), fun w6 e6 w7 e7 => ⟨rfl, (x0.tr x1).tr (((Ext.rfl' _).of_alloc e6).of_setRow e7 (Nat.le_refl _))⟩⟩
theorem Blocked_spec {v : Value} {V : Ce → Int} {w : World} (hV : Tl v V w) (hv : oneC v = []) (b : Bx) : Calls Tryz.prog n_probe_Blocked #[v, bxv b] w fun e w' => e = .returned (.bool (anyK V b bSolid)) ∧ Ext w w' := by
 apply probe_Blocked.vc
 intro w0 e0
 have x0 : Ext w w0 := (Ext.rfl' _).of_alloc e0
 have z0 : w0.heap.size = w.heap.size + 1 := by rw [e0]; simp
 clear e0
 refine (any_spec (hV.ext x0) hv b (.func (.func 103) #[] #[]) rfl bSolid fun x w' => callV_of (by kernel_rfl) rfl ((block_Solid_spec x w').mono ?_)).mono ?_
 ·rintro e w'' ⟨rfl, rfl⟩
  exact ⟨rfl, Ext.rfl' _⟩
 rintro e w1 ⟨rfl, x1⟩
 exact ⟨_, rfl, x1.heap (by omega), rfl, x0.tr x1⟩
theorem Stands_spec {v : Value} {V : Ce → Int} {w : World} (hV : Tl v V w) (hv : oneC v = []) (b : Bx) : Calls Tryz.prog n_probe_Stands #[v, bxv b] w fun e w' => e = .returned (.bool (anyK V (underK b) bSolid)) ∧ Ext w w' := by
 apply probe_Stands.vc
 intro w0 e0
 have x0 : Ext w w0 := (Ext.rfl' _).of_alloc e0
 have z0 : w0.heap.size = w.heap.size + 1 := by rw [e0]; simp
 clear e0
 refine (Under_spec b w0).mono ?_
 rintro e w1 ⟨rfl, x1⟩
 refine ⟨_, _, _, _, _, _, rfl, x1.heap (by omega), (Blocked_spec (hV.ext (x0.tr x1)) hv (underK b)).mono ?_⟩
 rintro e w8 ⟨rfl, x8⟩
 have z1 := x1.size
 exact ⟨_, rfl, x8.heap (by omega), rfl, x0.tr (x1.tr x8)⟩
end Go.Proofs.YtkkkfkopcfdmaaaGreatDoor
