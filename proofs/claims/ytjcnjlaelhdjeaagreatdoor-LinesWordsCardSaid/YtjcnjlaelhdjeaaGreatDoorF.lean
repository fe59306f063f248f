import Derived.Test.YtjcnjlaelhdjeaaGreatDoorE
import Derived.Test.YtjcnjlaelhdjeaaGreatDoorC
set_option linter.all false
namespace Go.Proofs.YtjcnjlaelhdjeaaGreatDoor
open Go Go.Vc Go.RowKit Go.Proofs Go.Lin Go.Code
set_option linter.unusedVariables false
theorem dig_next {l : List UInt8} {p : Nat} {x : Int} (hp : p < l.length) (hx : digV (l.take p) = some x) (h : 48 ≤ (l.getD p 0).toNat ∧ (l.getD p 0).toNat ≤ 57) : digV (l.take (p + 1)) = some (x * 10 + ((l.getD p 0).toNat : Int) - 48) := by
 rw [dig_take hp, digV_snoc, hx]
 unfold dstep
 rw [Option.bind_some, if_pos h]
theorem dig_lt {l : List UInt8} {p : Nat} {x : Int} (h15 : l.length ≤ 15) (hx : digV (l.take p) = some x) : 0 ≤ x ∧ x < 1000000000000000 := by
 obtain ⟨h0, h1⟩ := digV_bd _ rfl hx
 have h2 : (l.take p).length ≤ 15 := by rw [List.length_take]; omega
 have : (10 : Int) ^ (l.take p).length ≤ 10 ^ 15 := by
  have := Nat.pow_le_pow_right (n := 10) (by decide) h2
  exact_mod_cast this
 omega
theorem dig_wrap {x : Int} {c : Nat} (h : 0 ≤ x ∧ x < 1000000000000000) (hc : c ≤ 255) : IntKind.wrap .i64 ((IntKind.wrap .i64 ((IntKind.wrap .i64 (x * 10)) + (IntKind.wrap .i64 ((c : Nat) : Int)))) - 48) = x * 10 + ((c : Nat) : Int) - 48 := by
 rw [wrap_in (n := x * 10) (by unfold inI; omega), wrap_in (n := ((c : Nat) : Int)) (by unfold inI; omega), wrap_in (n := x * 10 + ((c : Nat) : Int)) (by unfold inI; omega), wrap_in (by unfold inI; omega)]
theorem rNumber_spec (s : ByteArray) (w : World) (hs : s.size ≤ 4294967296) : Calls Tryz.prog n_ref22_Number #[.string s] w fun e w' => e = .returned (.tuple #[.int .i64 (numK s).1, .bool (numK s).2]) ∧ w' = w := by
 apply ref22_Number.vc
 unfold ref22_Number.pre
 have hl := bl_len s
 have u8 : ∀ i : Nat, (s.data.toList.getD i 0).toNat ≤ 255 := fun i => by have := (s.data.toList.getD i 0).toNat_lt; omega
 have bad : ∀ {v : World}, v = w → numK s = (0, false) → (Ending.returned (.tuple #[.int .i64 0, .bool false]) = .returned (.tuple #[.int .i64 (numK s).1, .bool (numK s).2]) ∧ v = w) := by
  rintro v rfl h
  rw [h]
  exact ⟨rfl, rfl⟩
 have loop : ∀ a : Nat, dgs (bl s) = (bl s).drop a → a ≤ s.size → 1 ≤ s.size - a → s.size - a ≤ 15 → ∀ (i : Nat) (x : Int), a ≤ i → i ≤ s.size → digV ((dgs (bl s)).take (i - a)) = some x →
   (0 ≤ x ∧ x < 1000000000000000) ∧ (i < s.size → ((¬ (48 ≤ (s.data.toList.getD i 0).toNat ∧ (s.data.toList.getD i 0).toNat ≤ 57) → numK s = (0, false)) ∧
    (48 ≤ (s.data.toList.getD i 0).toNat → (s.data.toList.getD i 0).toNat ≤ 57 → digV ((dgs (bl s)).take (i + 1 - a)) = some (x * 10 + ((s.data.toList.getD i 0).toNat : Int) - 48)))) ∧
   (i = s.size → numK s = (if (bl s).head? = some 45 then -x else x, true)) := by
  intro a hd ha h1 h15 i x hai his hx
  have hdl : (dgs (bl s)).length = s.size - a := by rw [hd, List.length_drop, hl]
  have hg : (dgs (bl s)).getD (i - a) 0 = s.data.toList.getD i 0 := by
   rw [hd, List.getD_eq_getElem?_getD, List.getD_eq_getElem?_getD, List.getElem?_drop, show a + (i - a) = i by omega]
  refine ⟨dig_lt (by omega) hx, fun hi => ⟨fun hb => num_bad (dig_bad (p := i - a) (by omega) (by rw [hg]; exact hb)), fun g1 g2 => ?_⟩, fun hi => num_ok (by omega) ?_⟩
  ·have := dig_next (p := i - a) (by omega) hx (by rw [hg]; exact ⟨g1, g2⟩)
   rw [hg] at this
   rw [show i + 1 - a = i - a + 1 by omega]
   exact this
  ·rw [List.take_of_length_le (by omega)] at hx
   exact hx
 refine Br.mk (fun h => ?_) (fun h => ?_)
 ·have h := of_decide_eq_true h
  have h0 : 1 ≤ s.size := by omega
  refine ⟨by decide, by omega, ?_⟩
  obtain ⟨b, t, hbt⟩ : ∃ b t, bl s = b :: t := by
   cases hb : bl s with
   | nil => rw [hb] at hl; simp at hl; omega
   | cons b t => exact ⟨b, t, rfl⟩
  have hg0 : s.data.toList.getD (0 : Int).toNat 0 = b := by show (bl s).getD 0 0 = b; rw [hbt]; rfl
  refine Br.mk (fun c => ?_) (fun c => ?_)
  ·have hb45 : b = 45 := by
    have c : (((s.data.toList.getD (0 : Int).toNat 0).toNat : Nat) : Int) = 45 := by simpa using c
    rw [hg0] at c
    apply UInt8.toNat_inj.1
    show b.toNat = 45
    omega
   have hh : (bl s).head? = some 45 := by rw [hbt, hb45]; rfl
   have hd : dgs (bl s) = (bl s).drop 1 := by unfold dgs; rw [if_pos hh]
   have e1 : IntKind.wrap .i64 (((s.size : Nat) : Int) - 1) = ((s.size : Nat) : Int) - 1 := wrap_in (by unfold inI; omega)
   rw [e1]
   have hdl : (dgs (bl s)).length = s.size - 1 := by rw [hd, List.length_drop, hl]
   refine Br.mk (fun c1 => bad rfl (num_long (by have := of_decide_eq_true c1; omega))) (fun c1 => Br.mk (fun c2 => bad rfl (num_long (by have := of_decide_eq_true c2; omega))) (fun c2 => ?_))
   have c1 := of_decide_eq_false c1
   have c2 := of_decide_eq_false c2
   refine ⟨fun n i x v => ∃ p : Nat, i = (p : Int) ∧ 1 ≤ p ∧ p + n = s.size ∧ digV ((dgs (bl s)).take (p - 1)) = some x ∧ v = w, ⟨s.size - 1, 1, rfl, by omega, by omega, rfl, rfl⟩, ?_⟩
   rintro n1 us2 x3 x4 v ⟨p, rfl, hp1, hp, hx, hv⟩
   obtain ⟨k1, k2, k3⟩ := loop 1 hd (by omega) (by omega) (by omega) p x4 hp1 (by omega) hx
   refine Br.mk (fun g => ?_) (fun g => ?_)
   ·have g := of_decide_eq_true g
    obtain ⟨k4, k5⟩ := k2 (by omega)
    refine ⟨by omega, by omega, Br.mk (fun g1 => ?_) (fun g1 => ⟨by omega, by omega, Br.mk (fun g2 => ?_) (fun g2 => ⟨by omega, by omega, ?_⟩)⟩)⟩
    ·have g1 := of_decide_eq_true g1
     simp only [Int.toNat_natCast] at g1
     exact bad hv (k4 (by omega))
    ·have g2 := of_decide_eq_true g2
     simp only [Int.toNat_natCast] at g2
     exact bad hv (k4 (by omega))
    ·have g1 := of_decide_eq_false g1
     have g2 := of_decide_eq_false g2
     simp only [Int.toNat_natCast] at g1 g2 ⊢
     rw [dig_wrap k1 (u8 p), wrap_in (n := (p : Int) + 1) (by unfold inI; omega)]
     exact ⟨n1 - 1, by omega, p + 1, by omega, by omega, by omega, k5 (by omega) (by omega), hv⟩
   ·have g := of_decide_eq_false g
    have k3 := k3 (by omega)
    rw [if_pos hh] at k3
    refine Br.mk (fun _ => ?_) (fun g => by cases g)
    rw [k3, wrap_in (by unfold inI; omega), Int.zero_sub]
    exact ⟨rfl, hv⟩
  ·have hb45 : b ≠ 45 := by
    intro hb
    rw [hg0, hb] at c
    cases c
   have hh : ¬ (bl s).head? = some 45 := by rw [hbt]; simpa using hb45
   have hd : dgs (bl s) = (bl s).drop 0 := by unfold dgs; rw [if_neg hh]; rfl
   have e1 : IntKind.wrap .i64 (((s.size : Nat) : Int) - 0) = ((s.size : Nat) : Int) := by rw [wrap_in (by unfold inI; omega)]; omega
   rw [e1]
   have hdl : (dgs (bl s)).length = s.size := by rw [hd, List.length_drop, hl]; rfl
   refine Br.mk (fun c1 => bad rfl (num_long (by have := of_decide_eq_true c1; omega))) (fun c1 => Br.mk (fun c2 => bad rfl (num_long (by have := of_decide_eq_true c2; omega))) (fun c2 => ?_))
   have c1 := of_decide_eq_false c1
   have c2 := of_decide_eq_false c2
   refine ⟨fun n i x v => ∃ p : Nat, i = (p : Int) ∧ p + n = s.size ∧ digV ((dgs (bl s)).take (p - 0)) = some x ∧ v = w, ⟨s.size, 0, rfl, by omega, rfl, rfl⟩, ?_⟩
   rintro n1 us2 x3 x4 v ⟨p, rfl, hp, hx, hv⟩
   obtain ⟨k1, k2, k3⟩ := loop 0 hd (by omega) (by omega) (by omega) p x4 (by omega) (by omega) hx
   refine Br.mk (fun g => ?_) (fun g => ?_)
   ·have g := of_decide_eq_true g
    obtain ⟨k4, k5⟩ := k2 (by omega)
    refine ⟨by omega, by omega, Br.mk (fun g1 => ?_) (fun g1 => ⟨by omega, by omega, Br.mk (fun g2 => ?_) (fun g2 => ⟨by omega, by omega, ?_⟩)⟩)⟩
    ·have g1 := of_decide_eq_true g1
     simp only [Int.toNat_natCast] at g1
     exact bad hv (k4 (by omega))
    ·have g2 := of_decide_eq_true g2
     simp only [Int.toNat_natCast] at g2
     exact bad hv (k4 (by omega))
    ·have g1 := of_decide_eq_false g1
     have g2 := of_decide_eq_false g2
     simp only [Int.toNat_natCast] at g1 g2 ⊢
     rw [dig_wrap k1 (u8 p), wrap_in (n := (p : Int) + 1) (by unfold inI; omega)]
     exact ⟨n1 - 1, by omega, p + 1, by omega, by omega, k5 (by omega) (by omega), hv⟩
   ·have g := of_decide_eq_false g
    have k3 := k3 (by omega)
    rw [if_neg hh] at k3
    refine Br.mk (fun g => by cases g) (fun _ => ?_)
    rw [k3]
    exact ⟨rfl, hv⟩
 ·have h := of_decide_eq_false h
  have h0 : s.size = 0 := by omega
  have hb0 : bl s = [] := by apply List.length_eq_zero_iff.1; omega
  have e1 : IntKind.wrap .i64 (((s.size : Nat) : Int) - 0) = 0 := by rw [h0]; decide
  rw [e1]
  exact Br.mk (fun c1 => bad rfl (num_long (by left; rw [hb0]; decide))) (fun c1 => by cases c1)
theorem dstr (n v : Int) (hv : v = 48 + ((n.tmod 10).natAbs : Int)) : strOfNums [v] = ⟨#[Lin.dig1 n]⟩ := by
 subst hv
 unfold strOfNums Lin.dig1
 simp only [List.map_cons, List.map_nil]
 congr 3
theorem mk_app (l : List UInt8) (b : UInt8) : (⟨l.toArray⟩ : ByteArray) ++ ⟨#[b]⟩ = ⟨(l ++ [b]).toArray⟩ := by
 apply bl_inj
 rw [bl_app]
theorem decL_len {f : Nat} {n : Int} (h : n.natAbs < 10 ^ f) : (decL f n).length ≤ f + 1 := by
 rw [dec_eq f n h, List.length_append]
 have := decN_len f n.natAbs
 split <;> simp <;> omega
theorem Dec_aux (f : Nat) (n : Int) (w : World) (hi : inI n) (hlen : (decL f (n.tdiv 10)).length ≤ 20)
  (rec : ¬ (-10 < n ∧ n < 10) → ∀ w0, Ext w w0 → Calls Tryz.prog n_ref22_Decimal #[.int .i64 (n.tdiv 10)] w0 fun e w' => e = .returned (.string ⟨(decL f (n.tdiv 10)).toArray⟩) ∧ Ext w0 w') :
  Calls Tryz.prog n_ref22_Decimal #[.int .i64 n] w fun e w' => e = .returned (.string ⟨(decL (f + 1) n).toArray⟩) ∧ Ext w w' := by
 apply ref22_Decimal.vc
 unfold ref22_Decimal.pre
 have hm1 : n.tmod 10 < 10 := Int.tmod_lt_of_pos n (by decide)
 have hm2 : -10 < n.tmod 10 := Int.lt_tmod_of_pos n (by decide)
 have hq : inI (n.tdiv 10) := by
  have := td_abs n
  unfold inI at *
  omega
 have ho : ∀ t : List UInt8, t.length ≤ 20 → ((((⟨t.toArray⟩ : ByteArray).size + (⟨#[Lin.dig1 n]⟩ : ByteArray).size : Nat) : Nat) : Int) ≤ IntKind.i64.max := by
  intro t ht
  have e1 : (⟨t.toArray⟩ : ByteArray).size = t.length := rfl
  have e2 : (⟨#[Lin.dig1 n]⟩ : ByteArray).size = 1 := rfl
  have e3 : IntKind.i64.max = 9223372036854775807 := by decide
  rw [e1, e2, e3]
  omega
 have leaf : ∀ w0, Ext w w0 → w.heap.size < w0.heap.size → (¬ (-10 < n ∧ n < 10)) → Calls Tryz.prog n_ref22_Decimal #[.int .i64 (IntKind.wrap .i64 (n.tdiv 10))] w0 (fun e w2 => ∃ (t3 : ByteArray), e = .returned (.string t3) ∧ w2.heap[w.heap.size]? = w0.heap[w.heap.size]? ∧
   (((t3).size + ((⟨#[Lin.dig1 n]⟩ : ByteArray)).size : Nat) : Int) ≤ IntKind.i64.max ∧ (Ending.returned (.string (t3 ++ ⟨#[Lin.dig1 n]⟩)) = .returned (.string ⟨(decL (f + 1) n).toArray⟩) ∧ Ext w w2)) := by
  intro w0 x0 hs hn
  rw [wrap_in hq]
  refine (rec hn w0 x0).mono ?_
  rintro _ w2 ⟨rfl, x2⟩
  refine ⟨_, rfl, x2.heap hs, ho _ hlen, ?_, x0.tr x2⟩
  rw [mk_app]
  conv => rhs; unfold decL
  rw [if_neg hn]
 have main : ∀ (v : Int), v = 48 + ((n.tmod 10).natAbs : Int) → ∀ w0 : World, w0 = w.alloc (.cells #[.int .u8 v] 5) →
   ∃ l1 : List Int, l1.length = 1 ∧ LoadL w0 (some ⟨w.heap.size, 0, none⟩) 0 (l1.map (Value.int .u8)) ∧ strOfNums l1 = ⟨#[Lin.dig1 n]⟩ ∧ Ext w w0 ∧ w.heap.size < w0.heap.size := by
  intro v hv w0 e0
  have hr : Row w0 w.heap.size [.int .u8 v] 5 := by rw [e0]; exact Row.new _ _ _
  exact ⟨[v], rfl, hr.loadL (o := 0) (fun j _ => by rw [Nat.zero_add]; rfl), dstr n v hv, by rw [e0]; exact Ext.al _ _, hr.lt⟩
 have n2 : -10 < n → n < 10 → n < 0 → (⟨#[45]⟩ : ByteArray) ++ ⟨#[Lin.dig1 n]⟩ = ⟨(decL (f + 1) n).toArray⟩ := by
  intro a b c
  unfold decL
  rw [if_pos ⟨a, b⟩, if_pos c]
  exact mk_app [45] _
 have n1 : -10 < n → n < 10 → ¬ n < 0 → (⟨#[Lin.dig1 n]⟩ : ByteArray) = ⟨(decL (f + 1) n).toArray⟩ := by
  intro a b c
  unfold decL
  rw [if_pos ⟨a, b⟩, if_neg c]
 refine Br.mk (fun c => ?_) (fun c => ?_)
 ·have c := of_decide_eq_true c
  have ev : IntKind.wrap .u8 (IntKind.wrap .i64 (48 + (IntKind.wrap .i64 (0 - (Int.tmod n 10))))) = 48 + ((n.tmod 10).natAbs : Int) := by
   rw [wrap_in (n := 0 - n.tmod 10) (by unfold inI; omega), wrap_in (by unfold inI; omega), wrap_u8]
   omega
  intro w0 e0
  obtain ⟨l1, g1, g2, g3, x0, hs⟩ := main _ ev w0 e0
  refine ⟨l1, g1, g2, ?_⟩
  rw [g3]
  refine Br.mk (fun a => Br.mk (fun b => Br.mk (fun d => ?_) (fun d => ?_)) (fun b => ?_)) (fun a => ?_)
  ·exact ⟨ho [45] (by decide), by rw [n2 (of_decide_eq_true a) (of_decide_eq_true b) (of_decide_eq_true d)], x0⟩
  ·exact ⟨by rw [← n1 (of_decide_eq_true a) (of_decide_eq_true b) (of_decide_eq_false d)], x0⟩
  ·exact leaf w0 x0 hs (by have := of_decide_eq_false b; omega)
  ·exact leaf w0 x0 hs (by have := of_decide_eq_false a; omega)
 ·have c := of_decide_eq_false c
  have ev : IntKind.wrap .u8 (IntKind.wrap .i64 (48 + (Int.tmod n 10))) = 48 + ((n.tmod 10).natAbs : Int) := by
   rw [wrap_in (by unfold inI; omega), wrap_u8]
   omega
  intro w0 e0
  obtain ⟨l1, g1, g2, g3, x0, hs⟩ := main _ ev w0 e0
  refine ⟨l1, g1, g2, ?_⟩
  rw [g3]
  refine Br.mk (fun a => Br.mk (fun b => Br.mk (fun d => ?_) (fun d => ?_)) (fun b => ?_)) (fun a => ?_)
  ·exact ⟨ho [45] (by decide), by rw [n2 (of_decide_eq_true a) (of_decide_eq_true b) (of_decide_eq_true d)], x0⟩
  ·exact ⟨by rw [← n1 (of_decide_eq_true a) (of_decide_eq_true b) (of_decide_eq_false d)], x0⟩
  ·exact leaf w0 x0 hs (by have := of_decide_eq_false b; omega)
  ·exact leaf w0 x0 hs (by have := of_decide_eq_false a; omega)
theorem Decimal_spec : ∀ (f : Nat) (n : Int) (w : World), f ≤ 18 → n.natAbs < 10 ^ (f + 1) → inI n → Calls Tryz.prog n_ref22_Decimal #[.int .i64 n] w fun e w' => e = .returned (.string ⟨(decL (f + 1) n).toArray⟩) ∧ Ext w w' := by
 intro f
 induction f with
 | zero =>
   intro n w hf h hi
   exact Dec_aux 0 n w hi (by show 0 ≤ 20; omega) (fun hn => absurd ⟨by omega, by omega⟩ hn)
 | succ f ih =>
   intro n w hf h hi
   have h1 := td_abs n
   have h2 : (n.tdiv 10).natAbs < 10 ^ (f + 1) := by rw [h1]; rw [Nat.pow_succ] at h; omega
   exact Dec_aux (f + 1) n w hi (Nat.le_trans (decL_len h2) (by omega)) (fun _ w0 _ => ih _ w0 (by omega) h2 (by unfold inI at *; omega))
theorem ext_app (s : ByteArray) {a p : Nat} (h : a ≤ p) : s.extract a p ++ s.extract p (p + 1) = s.extract a (p + 1) := by
 apply bl_inj
 rw [bl_app, bl_ext, bl_ext, bl_ext, show p + 1 - a = (p - a) + 1 by omega, List.take_add, List.drop_drop, show a + (p - a) = p by omega, show p + 1 - p = 1 by omega]
theorem emp_app (x : ByteArray) : ByteArray.empty ++ x = x := by
 apply bl_inj
 rw [bl_app]
 rfl
theorem own_iff {s : ByteArray} {p : Nat} (hp : p ≤ s.size) : ownK s p = ByteArray.mk #[] ↔ (bst s p).1 = none := by
 unfold ownK
 cases h : (bst s p).1 with
 | none => exact ⟨fun _ => rfl, fun _ => rfl⟩
 | some a =>
   have := bst_lt s p h
   refine ⟨fun e => ?_, fun e => by cases e⟩
   have e : bl (s.extract a p) = [] := congrArg bl e
   rw [bl_ext] at e
   have e := congrArg List.length e
   rw [List.length_take, List.length_drop, bl_len] at e
   simp only [List.length_nil] at e
   omega
theorem word_ch {s : ByteArray} {p : Nat} (h : by' s p ≠ 32) : ownK s (p + 1) = ownK s p ++ s.extract p (p + 1) ∧ outK s (p + 1) = outK s p := by
 have e : bst s (p + 1) = (some ((bst s p).1.getD p), (bst s p).2) := by
  show bstep s p (bst s p) = _
  unfold bstep
  rw [if_neg h]
 refine ⟨?_, by unfold outK; rw [e]⟩
 unfold ownK
 rw [e]
 simp only
 cases q : (bst s p).1 with
 | none => exact (emp_app _).symm
 | some a => exact (ext_app s (Nat.le_of_lt (bst_lt s p q))).symm
theorem word_sp {s : ByteArray} {p : Nat} (h : by' s p = 32) : ownK s (p + 1) = ByteArray.mk #[] ∧ outK s (p + 1) = outK s p ++ (match (bst s p).1 with | some a => [s.extract a p] | none => []) := by
 have e : bst s (p + 1) = bstep s p (bst s p) := rfl
 unfold bstep at e
 rw [if_pos h] at e
 unfold ownK outK
 rw [e]
 cases q : (bst s p).1 with
 | none => simp; rfl
 | some a => simp; rfl
theorem out_len (s : ByteArray) : ∀ p, (outK s p).length ≤ p
 | 0 => Nat.le_refl _
 | p + 1 => by
   have ih := out_len s p
   by_cases h : by' s p = 32
   ·rw [(word_sp h).2, List.length_append]
    split <;> simp <;> omega
   ·rw [(word_ch h).2]; omega
theorem word_end (s : ByteArray) : wordsK s = outK s s.size ++ (match (bst s s.size).1 with | some a => [s.extract a s.size] | none => []) := words_eq s
theorem rWords_spec (s : ByteArray) (w : World) (hs : s.size ≤ 4294967296) : Calls Tryz.prog n_ref22_Words #[.string s] w fun e w' => ∃ sl : Sl, e = .returned (.slice sl.a sl.n sl.c) ∧ OwnK w.heap.size 9 1 w' sl ((wordsK s).map sv) ∧ Ext w w' := by
 apply ref22_Words.vc
 unfold ref22_Words.pre
 have own_sz : ∀ p, p ≤ s.size → (ownK s p).size ≤ s.size := by
  intro p hp
  unfold ownK
  split
  ·rw [← bl_len, bl_ext, List.length_take, List.length_drop, bl_len]; omega
  ·exact Nat.zero_le _
 refine ⟨fun n x t sl v => ∃ p : Nat, x = (p : Int) ∧ p + n = s.size ∧ t = ownK s p ∧ OwnK w.heap.size 9 1 v sl ((outK s p).map sv) ∧ Ext w v, ⟨s.size, 0, rfl, by omega, rfl, OwnK.nil, Ext.rfl' _⟩, ?_⟩
 rintro n1 us2 x3 t4 s5 w6 ⟨p, rfl, hp, rfl, ho, x6⟩
 have hn : s5.n = (outK s p).length := by rw [(OwnK.rd ho (by decide)).n, List.length_map]
 have hol := out_len s p
 have push : ∀ t : ByteArray, ∀ v : World, v = w6.alloc (.cells #[.string t] 9) →
   AppPre 16 1 v ⟨s5.a, s5.n, s5.c⟩ 1 [.string t] ∧ ∀ (s9 : Sl) (w10 : World), AppRes 9 1 v ⟨s5.a, s5.n, s5.c⟩ 1 [.string t] s9 w10 →
    w10.heap[w6.heap.size]? = v.heap[w6.heap.size]? ∧ OwnK w.heap.size 9 1 w10 s9 ((outK s p ++ [t]).map sv) ∧ Ext w w10 := by
  rintro t v rfl
  obtain ⟨a1, a2⟩ := ho.app1 (bytes := 16) (news := sv t) (.cells #[.string t] 9) x6.size rfl (one_sv t) (by omega) (by omega)
  refine ⟨a1, fun s9 w10 hr => ?_⟩
  obtain ⟨b1, b2, b3, b4, -⟩ := a2 s9 w10 hr
  exact ⟨b1, by rw [List.map_append]; exact b2, Below.trans x6 b4⟩
 refine Br.mk (fun h => ?_) (fun h => ?_)
 ·have h := of_decide_eq_true h
  have hb : ((s.data.toList.getD p 0).toNat) = by' s p := (by_bl s p).symm
  refine ⟨by omega, h, ?_⟩
  simp only [Int.toNat_natCast]
  rw [hb, wrap_in (n := (p : Int) + 1) (by unfold inI; omega)]
  refine Br.mk (fun c => ?_) (fun c => ?_)
  ·have c : by' s p ≠ 32 := fun hc => by rw [hc] at c; cases c
   obtain ⟨g1, g2⟩ := word_ch c
   refine ⟨by omega, by omega, by omega, by omega, ?_, n1 - 1, by omega, p + 1, by omega, by omega, ?_, by rw [g2]; exact ho, x6⟩
   ·have e3 : IntKind.i64.max = 9223372036854775807 := by decide
    have := own_sz p (by omega)
    have : (s.extract p ((p : Int) + 1).toNat).size ≤ s.size := by rw [← bl_len, bl_ext, List.length_take, List.length_drop, bl_len]; omega
    rw [e3]; omega
   ·rw [g1, show ((p : Int) + 1).toNat = p + 1 by omega]
  ·have c : by' s p = 32 := by
    apply Classical.byContradiction
    intro hc
    have : (((by' s p : Nat) : Int) != 32) = true := by simpa using (by omega : ¬ ((by' s p : Nat) : Int) = 32)
    rw [this] at c
    cases c
   obtain ⟨g1, g2⟩ := word_sp c
   refine Br.mk (fun d => ?_) (fun d => ?_)
   ·have d : ¬ (bst s p).1 = none := fun hd => by rw [(strEq_iff _ _).2 ((own_iff (by omega)).2 hd)] at d; cases d
    obtain ⟨a, ha⟩ : ∃ a, (bst s p).1 = some a := Option.ne_none_iff_exists'.1 d
    rw [ha] at g2
    try simp only at g2
    have eo : ownK s p = s.extract a p := by unfold ownK; rw [ha]
    intro w8 e8
    obtain ⟨k1, k2⟩ := push (ownK s p) w8 e8
    refine ⟨k1, fun s9 w10 hr => ?_⟩
    obtain ⟨k3, k4, k5⟩ := k2 s9 w10 hr
    exact ⟨k3, n1 - 1, by omega, p + 1, by omega, by omega, g1.symm, by rw [g2, ← eo]; exact k4, k5⟩
   ·have d : (bst s p).1 = none := (own_iff (by omega)).1 ((strEq_iff _ _).1 (by simpa using d))
    rw [d, List.append_nil] at g2
    exact ⟨n1 - 1, by omega, p + 1, by omega, by omega, g1.symm, by rw [g2]; exact ho, x6⟩
 ·have h := of_decide_eq_false h
  obtain rfl : p = s.size := by omega
  have e := word_end s
  refine Br.mk (fun d => ?_) (fun d => ?_)
  ·have d : ¬ (bst s s.size).1 = none := fun hd => by rw [(strEq_iff _ _).2 ((own_iff (Nat.le_refl _)).2 hd)] at d; cases d
   obtain ⟨a, ha⟩ : ∃ a, (bst s s.size).1 = some a := Option.ne_none_iff_exists'.1 d
   rw [ha] at e
   try simp only at e
   have eo : ownK s s.size = s.extract a s.size := by unfold ownK; rw [ha]
   intro w8 e8
   obtain ⟨k1, k2⟩ := push (ownK s s.size) w8 e8
   refine ⟨k1, fun s9 w10 hr => ?_⟩
   obtain ⟨k3, k4, k5⟩ := k2 s9 w10 hr
   exact ⟨k3, s9, rfl, by rw [e, ← eo]; exact k4, k5⟩
  ·have d : (bst s s.size).1 = none := (own_iff (Nat.le_refl _)).1 ((strEq_iff _ _).1 (by simpa using d))
   rw [d, List.append_nil] at e
   exact ⟨s5, rfl, by rw [e]; exact ho, x6⟩
end Go.Proofs.YtjcnjlaelhdjeaaGreatDoor
