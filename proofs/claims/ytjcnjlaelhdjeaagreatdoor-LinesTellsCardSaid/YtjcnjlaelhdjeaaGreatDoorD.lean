import Derived.Test.YtjcnjlaelhdjeaaGreatDoorC
import Derived.Lib.FieldsP
import Derived.Deep.SlicePairs
import Derived.ProofKit
set_option linter.all false
namespace Go.Que
open Go Go.Vc
abbrev Cl := Int × Int × Int
abbrev It := Int × Cl
def cv (c : Cl) : Value := .agg #[.int .i64 c.1, .int .i64 c.2.1, .int .i64 c.2.2]
def tv (t : Int) : Value := .int .i64 t
abbrev clv (c : Cl) : List Value := [.int .i64 c.1, .int .i64 c.2.1, .int .i64 c.2.2]
abbrev itv (x : It) : List Value := [.int .i64 x.1, .int .i64 x.2.1, .int .i64 x.2.2.1, .int .i64 x.2.2.2]
theorem cv_inj {a b : Cl} (h : cv a = cv b) : a = b := by
 unfold cv at h
 obtain ⟨a1, a2, a3⟩ := a
 obtain ⟨b1, b2, b3⟩ := b
 simp at h
 obtain ⟨rfl, rfl, rfl⟩ := h
 rfl
structure QS where
 room : Int
 lost : Int
 l : List It
def qdrop (l : List It) (c : Cl) : List It := l.filter fun x => x.2 != c
def qins (l : List It) (x : It) : List It := l.takeWhile (fun y => y.1 ≤ x.1) ++ x :: l.dropWhile (fun y => y.1 ≤ x.1)
def qtick (l : List It) (c : Cl) : Option Int := (l.find? fun x => x.2 == c).map (·.1)
def qadd (q : QS) (c : Cl) (t : Int) : QS × Bool :=
 match qtick q.l c with
 | some was => if was ≤ t then (q, false) else ({ q with l := qins (qdrop q.l c) (t, c) }, true)
 | none => if (q.l.length : Int) ≥ q.room then ({ q with lost := q.lost + 1 }, false) else ({ q with l := qins q.l (t, c) }, true)
structure QOk (q : QS) : Prop where
 room : 1 ≤ q.room ∧ q.room ≤ 4096
 len : (q.l.length : Int) ≤ q.room
 sorted : q.l.Pairwise fun a b => a.1 ≤ b.1
 nodup : (q.l.map (·.2)).Nodup
theorem qdrop_sub (l : List It) (c : Cl) : (qdrop l c).Sublist l := List.filter_sublist
theorem qtick_some {l : List It} {c : Cl} {t : Int} (h : qtick l c = some t) : (t, c) ∈ l := by
 unfold qtick at h
 cases hf : l.find? (fun x => x.2 == c) with
 | none => rw [hf] at h; cases h
 | some x =>
   rw [hf] at h
   have h1 := List.find?_some hf
   have h2 := List.mem_of_find?_eq_some hf
   obtain ⟨a, b⟩ := x
   simp at h h1
   subst h; subst h1; exact h2
theorem qtick_none {l : List It} {c : Cl} (h : qtick l c = none) : ∀ x ∈ l, x.2 ≠ c := by
 unfold qtick at h
 rw [Option.map_eq_none_iff, List.find?_eq_none] at h
 intro x hx e
 exact h x hx (by simp [e])
theorem sorted_le {l : List It} (h : l.Pairwise fun a b => a.1 ≤ b.1) (t : Int) : (∀ y ∈ l.takeWhile (fun y => y.1 ≤ t), y.1 ≤ t) ∧ (∀ y ∈ l.dropWhile (fun y => y.1 ≤ t), t < y.1) := by
 induction l with
 | nil => simp
 | cons a l ih =>
   rw [List.pairwise_cons] at h
   by_cases ha : a.1 ≤ t
   ·rw [List.takeWhile_cons_of_pos (by simpa using ha), List.dropWhile_cons_of_pos (by simpa using ha)]
    obtain ⟨i1, i2⟩ := ih h.2
    refine ⟨fun y hy => ?_, i2⟩
    rcases List.mem_cons.1 hy with rfl | hy
    ·exact ha
    ·exact i1 y hy
   ·rw [List.takeWhile_cons_of_neg (by simpa using ha), List.dropWhile_cons_of_neg (by simpa using ha)]
    refine ⟨by simp, fun y hy => ?_⟩
    rcases List.mem_cons.1 hy with rfl | hy
    ·omega
    ·have := h.1 y hy; omega
theorem takeWhile_at {l : List It} (h : l.Pairwise fun a b => a.1 ≤ b.1) (t : Int) {i : Nat} {y : It} (hi : l[i]? = some y) : i < (l.takeWhile (fun y => y.1 ≤ t)).length ↔ y.1 ≤ t := by
 have hs := sorted_le h t
 have e := List.takeWhile_append_dropWhile (p := fun y : It => decide (y.1 ≤ t)) (l := l)
 constructor
 ·intro hlt
  rw [← e, List.getElem?_append_left hlt] at hi
  exact hs.1 y (List.mem_of_getElem? hi)
 ·intro hle
  rcases Nat.lt_or_ge i (l.takeWhile (fun y => y.1 ≤ t)).length with hlt | hge
  ·exact hlt
  ·rw [← e, List.getElem?_append_right hge] at hi
   have := hs.2 y (List.mem_of_getElem? hi)
   omega
theorem qins_eq (l : List It) (x : It) : l.take (l.takeWhile fun y => decide (y.1 ≤ x.1)).length ++ x :: l.drop (l.takeWhile fun y => decide (y.1 ≤ x.1)).length = qins l x := by
 have h : ∀ (a b l : List It), a ++ b = l → l.take a.length ++ x :: l.drop a.length = a ++ x :: b := by rintro a b _ rfl; simp
 exact h _ _ _ (List.takeWhile_append_dropWhile (p := fun y : It => decide (y.1 ≤ x.1)) (l := l))
theorem qins_len (l : List It) (x : It) : (qins l x).length = l.length + 1 := by
 have e := congrArg List.length (List.takeWhile_append_dropWhile (p := fun y : It => decide (y.1 ≤ x.1)) (l := l))
 unfold qins
 simp only [List.length_append, List.length_cons] at e ⊢
 omega
theorem qins_mem (l : List It) (x y : It) : y ∈ qins l x ↔ y = x ∨ y ∈ l := by
 unfold qins
 conv => rhs; rw [← List.takeWhile_append_dropWhile (p := fun y : It => decide (y.1 ≤ x.1)) (l := l)]
 simp only [List.mem_append, List.mem_cons]
 constructor
 ·rintro (h | h | h)
  ·exact .inr (.inl h)
  ·exact .inl h
  ·exact .inr (.inr h)
 ·rintro (h | h | h)
  ·exact .inr (.inl h)
  ·exact .inl h
  ·exact .inr (.inr h)
theorem qins_sorted {l : List It} (h : l.Pairwise fun a b => a.1 ≤ b.1) (x : It) : (qins l x).Pairwise fun a b => a.1 ≤ b.1 := by
 have hs := sorted_le h x.1
 have e := List.takeWhile_append_dropWhile (p := fun y : It => decide (y.1 ≤ x.1)) (l := l)
 unfold qins
 rw [← e, List.pairwise_append] at h
 rw [List.pairwise_append]
 refine ⟨h.1, List.pairwise_cons.2 ⟨fun y hy => by have := hs.2 y hy; omega, h.2.1⟩, fun a ha b hb => ?_⟩
 rcases List.mem_cons.1 hb with rfl | hb
 ·exact hs.1 a ha
 ·exact h.2.2 a ha b hb
theorem qins_nodup {l : List It} (h : (l.map (·.2)).Nodup) {x : It} (hx : ∀ y ∈ l, y.2 ≠ x.2) : ((qins l x).map (·.2)).Nodup := by
 have e := List.takeWhile_append_dropWhile (p := fun y : It => decide (y.1 ≤ x.1)) (l := l)
 unfold qins
 have hx' : ∀ y ∈ l.takeWhile (fun y => y.1 ≤ x.1) ++ l.dropWhile (fun y => y.1 ≤ x.1), y.2 ≠ x.2 := by rw [e]; exact hx
 rw [← e, List.map_append, List.nodup_append] at h
 rw [List.map_append, List.map_cons, List.nodup_append]
 refine ⟨h.1, List.nodup_cons.2 ⟨fun hm => ?_, h.2.1⟩, fun a ha b hb => ?_⟩
 ·obtain ⟨y, hy, e⟩ := List.mem_map.1 hm
  exact hx' y (List.mem_append_right _ hy) e
 ·rcases List.mem_cons.1 hb with rfl | hb
  ·obtain ⟨y, hy, rfl⟩ := List.mem_map.1 ha
   exact hx' y (List.mem_append_left _ hy)
  ·exact h.2.2 a ha b hb
theorem QOk.add {q : QS} (h : QOk q) (c : Cl) (t : Int) : QOk (qadd q c t).1 := by
 unfold qadd
 split
 ·rename_i was hw
  split
  ·exact h
  ·have hsub := qdrop_sub q.l c
   have hlt : (qdrop q.l c).length < q.l.length := by
    have hm := qtick_some hw
    have : (qdrop q.l c).length ≠ q.l.length := fun e => by
     have := hsub.eq_of_length e
     rw [← this] at hm
     unfold qdrop at hm
     simp at hm
    have := hsub.length_le
    omega
   have := h.len
   exact ⟨h.room, by rw [qins_len]; show ((_ : Nat) : Int) ≤ q.room; omega, qins_sorted (h.sorted.sublist hsub) _, qins_nodup ((hsub.map _).nodup h.nodup) (fun y hy => by
    unfold qdrop at hy
    simp at hy
    exact hy.2)⟩
 ·rename_i hn
  split
  ·exact ⟨h.room, h.len, h.sorted, h.nodup⟩
  ·exact ⟨h.room, by rw [qins_len]; show ((_ : Nat) : Int) ≤ q.room; omega, qins_sorted h.sorted _, qins_nodup h.nodup (qtick_none hn)⟩
theorem QOk.drop {q : QS} (h : QOk q) (c : Cl) : QOk { q with l := qdrop q.l c } := by
 have hsub := qdrop_sub q.l c
 have := hsub.length_le
 have := h.len
 exact ⟨h.room, by show ((qdrop q.l c).length : Int) ≤ q.room; omega, h.sorted.sublist hsub, (hsub.map _).nodup h.nodup⟩
theorem qadd_lost (q : QS) (c : Cl) (t : Int) : q.lost ≤ (qadd q c t).1.lost ∧ (qadd q c t).1.lost ≤ q.lost + 1 := by
 unfold qadd
 split
 ·split <;> exact ⟨Int.le_refl _, by show q.lost ≤ q.lost + 1; omega⟩
 ·split
  ·exact ⟨by show q.lost ≤ q.lost + 1; omega, Int.le_refl _⟩
  ·exact ⟨Int.le_refl _, by show q.lost ≤ q.lost + 1; omega⟩
end Go.Que
namespace Go.Que
end Go.Que
namespace Go.Flw
open Go Go.Vc Go.Chk Go.Que
abbrev Cg := Ce × Int
def wetK (b : Int) : Bool := decide (8 ≤ b) && decide (b < 16)
def delayK (b : Int) : Int := if b = 3 then 2 else if wetK b then 5 else 0
def lowK (c : Ce) : Ce := (c.1, c.2.1 - 1, c.2.2)
def overK (c : Ce) : Ce := (c.1, c.2.1 + 1, c.2.2)
def nbK (c : Ce) : List Ce := [(c.1 - 1, c.2.1, c.2.2), (c.1 + 1, c.2.1, c.2.2), lowK c, overK c, (c.1, c.2.1, c.2.2 - 1), (c.1, c.2.1, c.2.2 + 1)]
def wakesK (V : Ce → Int) (c : Ce) : List Ce := (c :: nbK c).filter fun n => decide (0 < delayK (V n))
def wakeQ (V : Ce → Int) (now : Int) (q : QS) (c : Ce) : QS := (wakesK V c).foldl (fun q n => (qadd q n (now + delayK (V n))).1) q
end Go.Flw
namespace Go.Eng
open Go Go.Vc Go.Chk
abbrev Bx := Ce × Ce
def cutF (n : Int) : Int := min (max n (-140737488355328)) 140737488355328
def addF (a b : Int) : Int := cutF (cutF a + cutF b)
def subF (a b : Int) : Int := cutF (cutF a - cutF b)
def ofF (n : Int) : Int := min (max n (-2147483648)) 2147483648 * 65536
theorem cutF_in (n : Int) : -140737488355328 ≤ cutF n ∧ cutF n ≤ 140737488355328 := by unfold cutF; omega
def axK (v : Ce) (i : Int) : Int := if i = 0 then v.1 else if i = 1 then v.2.1 else if i = 2 then v.2.2 else 0
def mapV (f : Int → Int → Int) (v : Ce) : Ce := (f 0 v.1, f 1 v.2.1, f 2 v.2.2)
def addV (a b : Ce) : Ce := mapV (fun i n => addF n (axK b i)) a
def subV (a b : Ce) : Ce := mapV (fun i n => subF n (axK b i)) a
def standK (foot : Ce) (w h : Int) : Bx := (subV foot (max w 0 / 2, 0, max w 0 / 2), addV foot (max w 0 / 2, max h 0, max w 0 / 2))
end Go.Eng
namespace Go.Eng
open Go Go.Vc Go.Chk
end Go.Eng
namespace Go.Eng
open Go Go.Vc Go.Chk
def nearV (a : Ce) (m : Int) : Prop := (-m ≤ a.1 ∧ a.1 ≤ m) ∧ (-m ≤ a.2.1 ∧ a.2.1 ≤ m) ∧ -m ≤ a.2.2 ∧ a.2.2 ≤ m
end Go.Eng
namespace Go.Lin
open Go Go.Vc
abbrev by' (s : ByteArray) (i : Nat) : Nat := (s.get! i).toNat
theorem dec_ok (s : ByteArray) (i : Nat) (h : i < s.size) : 1 ≤ (Utf8.decode s i).2 ∧ i + (Utf8.decode s i).2 ≤ s.size ∧
  ((by' s i < 128 → Utf8.decode s i = (by' s i, 1)) ∧ (128 ≤ by' s i → 128 ≤ (Utf8.decode s i).1)) ∧ ∀ j, 0 < j → j < (Utf8.decode s i).2 → 128 ≤ by' s (i + j) := by
 unfold by'
 have h0 : s.get! (i + 0) = s.get! i := rfl
 unfold Utf8.decode
 simp only [h0]
 generalize hb : (s.get! i).toNat = b0
 by_cases c1 : b0 < 128
 ·rw [if_pos c1]
  exact ⟨Nat.le_refl _, by simp only; omega, ⟨fun _ => rfl, fun q => by omega⟩, fun j h1 h2 => by simp only at h2; omega⟩
 ·rw [if_neg c1]
  have one : 1 ≤ ((Utf8.runeError, 1) : Nat × Nat).2 ∧ i + ((Utf8.runeError, 1) : Nat × Nat).2 ≤ s.size ∧ ((b0 < 128 → ((Utf8.runeError, 1) : Nat × Nat) = (b0, 1)) ∧ (128 ≤ b0 → 128 ≤ ((Utf8.runeError, 1) : Nat × Nat).1)) ∧ ∀ j, 0 < j → j < ((Utf8.runeError, 1) : Nat × Nat).2 → 128 ≤ (s.get! (i + j)).toNat :=
   ⟨Nat.le_refl _, by simp only; omega, ⟨fun q => absurd q c1, fun _ => by decide⟩, fun j h1 h2 => by simp only at h2; omega⟩
  split
  ·rename_i c2
   simp only [Bool.and_eq_true, decide_eq_true_eq, beq_iff_eq] at c2
   split
   ·rename_i c3
    exact ⟨by simp only; omega, by simp only; omega, ⟨fun q => absurd q c1, fun _ => by simp only; omega⟩, fun j h1 h2 => by
     simp only at h2
     have : j = 1 := by omega
     subst this; omega⟩
   ·exact one
  ·split
   ·rename_i c2
    simp only [Bool.and_eq_true, decide_eq_true_eq, beq_iff_eq] at c2
    split
    ·rename_i c3
     simp only [Bool.and_eq_true, decide_eq_true_eq, ge_iff_le] at c3
     exact ⟨by simp only; omega, by simp only; omega, ⟨fun q => absurd q c1, fun _ => by simp only; omega⟩, fun j h1 h2 => by
      simp only at h2
      have : j = 1 ∨ j = 2 := by omega
      rcases this with rfl | rfl <;> omega⟩
    ·exact one
   ·split
    ·rename_i c2
     simp only [Bool.and_eq_true, decide_eq_true_eq, beq_iff_eq] at c2
     split
     ·rename_i c3
      simp only [Bool.and_eq_true, decide_eq_true_eq, ge_iff_le] at c3
      exact ⟨by simp only; omega, by simp only; omega, ⟨fun q => absurd q c1, fun _ => by simp only; omega⟩, fun j h1 h2 => by
       simp only at h2
       have : j = 1 ∨ j = 2 ∨ j = 3 := by omega
       rcases this with rfl | rfl | rfl <;> omega⟩
     ·exact one
    ·exact one
def bstep (s : ByteArray) (i : Nat) (x : Option Nat × List (Nat × Nat)) : Option Nat × List (Nat × Nat) :=
 if by' s i = 32 then (match x.1 with | some a => (none, x.2 ++ [(a, i)]) | none => (none, x.2)) else (some (x.1.getD i), x.2)
def bst (s : ByteArray) : Nat → Option Nat × List (Nat × Nat)
 | 0 => (none, [])
 | i + 1 => bstep s i (bst s i)
theorem bst_run (s : ByteArray) (i a : Nat) (h : (bst s i).1 = some a) : ∀ k, (∀ j, j < k → by' s (i + j) ≠ 32) → bst s (i + k) = bst s i
 | 0, _ => rfl
 | k + 1, hk => by
   have ih := bst_run s i a h k fun j hj => hk j (by omega)
   show bstep s (i + k) (bst s (i + k)) = _
   rw [ih]
   unfold bstep
   rw [if_neg (hk k (by omega)), h]
   exact Prod.ext h.symm rfl
def sp32 (r : Nat) : Bool := r == 32
theorem spans_bst (s : ByteArray) : ∀ (f pos : Nat) (st : Option Nat) (acc : List (Nat × Nat)), pos ≤ s.size → s.size - pos ≤ f → bst s pos = (st, acc) → Lib.spansFromP sp32 s f pos st acc = ((bst s s.size).2, (bst s s.size).1)
 | 0, pos, st, acc, h1, h2, h3 => by
   have : pos = s.size := by omega
   subst this
   rw [h3]; rfl
 | f + 1, pos, st, acc, h1, h2, h3 => by
   unfold Lib.spansFromP
   by_cases hp : pos < s.size
   ·rw [if_pos hp]
    obtain ⟨d1, d2, ⟨d3, d4⟩, d5⟩ := dec_ok s pos hp
    have hb : bst s (pos + 1) = bstep s pos (st, acc) := by
     show bstep s pos (bst s pos) = _
     rw [h3]
    unfold bstep at hb
    by_cases c : by' s pos < 128
    ·rw [d3 c]
     simp only
     by_cases c2 : by' s pos = 32
     ·rw [if_pos (by unfold sp32; rw [c2]; rfl)]
      rw [if_pos c2] at hb
      cases st with
      | some a => exact spans_bst s f _ _ _ (by omega) (by omega) hb
      | none => exact spans_bst s f _ _ _ (by omega) (by omega) hb
     ·rw [if_neg (by unfold sp32; simpa using c2)]
      rw [if_neg c2] at hb
      cases st with
      | some a => exact spans_bst s f _ _ _ (by omega) (by omega) hb
      | none => exact spans_bst s f _ _ _ (by omega) (by omega) hb
    ·have hc := d4 (by omega)
     rw [if_neg (by unfold sp32; simp; omega)]
     rw [if_neg (by omega)] at hb
     have hr := bst_run s (pos + 1) _ (by rw [hb]) ((Utf8.decode s pos).2 - 1) fun j hj => by
      have := d5 (j + 1) (by omega) (by omega)
      rw [show pos + 1 + j = pos + (j + 1) by omega]
      omega
     rw [show pos + 1 + ((Utf8.decode s pos).2 - 1) = pos + (Utf8.decode s pos).2 by omega, hb] at hr
     cases st with
     | some a => exact spans_bst s f _ _ _ (by omega) (by omega) hr
     | none => exact spans_bst s f _ _ _ (by omega) (by omega) hr
   ·rw [if_neg hp]
    have : pos = s.size := by omega
    subst this
    rw [h3]
def wordsK (s : ByteArray) : List ByteArray := Lib.goFieldsP sp32 s
def outK (s : ByteArray) (i : Nat) : List ByteArray := (bst s i).2.map fun x => s.extract x.1 x.2
def ownK (s : ByteArray) (i : Nat) : ByteArray := match (bst s i).1 with | some a => s.extract a i | none => ByteArray.empty
theorem words_eq (s : ByteArray) : wordsK s = outK s s.size ++ (match (bst s s.size).1 with | some a => [s.extract a s.size] | none => []) := by
 unfold wordsK Lib.goFieldsP Lib.spansOfP outK
 rw [spans_bst s s.size 0 none [] (Nat.zero_le _) (by omega) rfl]
 unfold Lib.closeSpans
 cases (bst s s.size).1 with
 | some a => simp
 | none => simp
theorem bst_lt (s : ByteArray) : ∀ (i : Nat) {a : Nat}, (bst s i).1 = some a → a < i
 | 0, a, h => by cases h
 | i + 1, a, h => by
   have h : (bstep s i (bst s i)).1 = some a := h
   unfold bstep at h
   split at h
   ·split at h <;> cases h
   ·simp only [Option.some.injEq] at h
    cases hq : (bst s i).1 with
    | none => rw [hq] at h; simp at h; omega
    | some b => rw [hq] at h; simp at h; have := bst_lt s i hq; omega
end Go.Lin
namespace Go.Lin
open Go Go.Vc
abbrev bl (s : ByteArray) : List UInt8 := s.data.toList
theorem bl_app (x y : ByteArray) : bl (x ++ y) = bl x ++ bl y := by simp [bl, ByteArray.data_append]
theorem bl_len (s : ByteArray) : (bl s).length = s.size := by simp [bl]
theorem by_bl (s : ByteArray) (i : Nat) : by' s i = ((bl s).getD i 0).toNat := by
 unfold by' bl
 congr 1
 rw [List.getD_eq_getElem?_getD, Array.getElem?_toList]
 show s.data[i]! = _
 rw [Array.getElem!_eq_getD, Array.getD_eq_getD_getElem?]
 rfl
def dstep (o : Option Int) (b : UInt8) : Option Int := o.bind fun n => if 48 ≤ b.toNat ∧ b.toNat ≤ 57 then some (n * 10 + (b.toNat : Int) - 48) else none
def digV (l : List UInt8) : Option Int := l.foldl dstep (some 0)
theorem digV_snoc (l : List UInt8) (b : UInt8) : digV (l ++ [b]) = dstep (digV l) b := by unfold digV; rw [List.foldl_append]; rfl
theorem dig_none : ∀ (l : List UInt8), l.foldl dstep none = none
 | [] => rfl
 | b :: l => dig_none l
theorem digV_app_none {l : List UInt8} (h : digV l = none) (m : List UInt8) : digV (l ++ m) = none := by
 unfold digV at *
 rw [List.foldl_append, h]
 exact dig_none m
theorem digV_bd : ∀ (k : Nat) {l : List UInt8}, l.length = k → ∀ {n : Int}, digV l = some n → 0 ≤ n ∧ n < 10 ^ k
 | 0, l, h, n, hn => by
   have : l = [] := List.length_eq_zero_iff.1 h
   subst this
   cases hn
   decide
 | k + 1, l, h, n, hn => by
   rcases List.eq_nil_or_concat l with rfl | ⟨m, b, rfl⟩
   ·simp at h
   ·rw [List.concat_eq_append] at hn h
    rw [digV_snoc] at hn
    have hm : m.length = k := by simpa using h
    unfold dstep at hn
    cases hq : digV m with
    | none => rw [hq] at hn; cases hn
    | some x =>
      rw [hq] at hn
      obtain ⟨b1, b2⟩ := digV_bd k hm hq
      simp only [Option.bind_some] at hn
      split at hn
      ·rename_i hb
       cases hn
       rw [Int.pow_succ]
       omega
      ·cases hn
def dgs (l : List UInt8) : List UInt8 := if l.head? = some 45 then l.drop 1 else l
def numL (l : List UInt8) : Int × Bool :=
 if (dgs l).length < 1 ∨ 15 < (dgs l).length then (0, false) else match digV (dgs l) with
  | none => (0, false)
  | some n => (if l.head? = some 45 then -n else n, true)
def numK (s : ByteArray) : Int × Bool := numL (bl s)
def dig1 (n : Int) : UInt8 := UInt8.ofNat (48 + (n.tmod 10).natAbs)
def decL : Nat → Int → List UInt8
 | 0, _ => []
 | f + 1, n => if -10 < n ∧ n < 10 then (if n < 0 then [45, dig1 n] else [dig1 n]) else decL f (n.tdiv 10) ++ [dig1 n]
def decN : Nat → Nat → List UInt8
 | 0, _ => []
 | f + 1, n => if n < 10 then [dig1 n] else decN f (n / 10) ++ [dig1 n]
theorem tm_abs (n : Int) : (n.tmod 10).natAbs = n.natAbs % 10 := by rw [Int.natAbs_tmod]; rfl
theorem td_abs (n : Int) : (n.tdiv 10).natAbs = n.natAbs / 10 := by rw [Int.natAbs_tdiv]; rfl
theorem dig1_abs (n : Int) : dig1 n = dig1 (n.natAbs : Int) := by unfold dig1; rw [tm_abs, tm_abs]; rfl
theorem dec_eq : ∀ (f : Nat) (n : Int), n.natAbs < 10 ^ f → decL f n = (if n < 0 then [45] else []) ++ decN f n.natAbs
 | 0, n, h => by
   have : n = 0 := by simpa using h
   subst this
   rfl
 | f + 1, n, h => by
   unfold decL decN
   by_cases hs : -10 < n ∧ n < 10
   ·have hn : n.natAbs < 10 := by omega
    rw [if_pos hs, if_pos hn]
    split
    ·rw [dig1_abs]; rfl
    ·rw [dig1_abs]; rfl
   ·have hn : ¬ n.natAbs < 10 := by omega
    rw [if_neg hs, if_neg hn, dec_eq f (n.tdiv 10) (by rw [td_abs]; rw [Nat.pow_succ] at h; omega), td_abs, ← dig1_abs, List.append_assoc]
    congr 1
    have : n.tdiv 10 < 0 ↔ n < 0 := by
     have q1 := Int.mul_tdiv_add_tmod n 10
     have q2 := Int.tmod_lt_of_pos n (b := 10) (by decide)
     have q3 := Int.lt_tmod_of_pos n (b := 10) (by decide)
     omega
    simp only [this]
theorem decN_len : ∀ (f n : Nat), (decN f n).length ≤ f
 | 0, _ => Nat.le_refl _
 | f + 1, n => by
   unfold decN
   split
   ·simp
   ·have := decN_len f (n / 10)
    simp
    exact this
end Go.Lin
namespace Go.Lin
open Go Go.Vc
def wgo : List UInt8 → List UInt8 → List (List UInt8)
 | cur, [] => if cur = [] then [] else [cur]
 | cur, c :: r => if c = 32 then (if cur = [] then [] else [cur]) ++ wgo [] r else wgo (cur ++ [c]) r
def wordsL (l : List UInt8) : List (List UInt8) := wgo [] l
theorem wgo_word : ∀ (w cur l : List UInt8), (∀ c ∈ w, c ≠ 32) → wgo cur (w ++ l) = wgo (cur ++ w) l
 | [], cur, l, _ => by rw [List.append_nil]; rfl
 | c :: w, cur, l, h => by
   show wgo cur (c :: (w ++ l)) = _
   rw [wgo, if_neg (h c (by simp)), wgo_word w (cur ++ [c]) l fun x hx => h x (by simp [hx])]
   simp
theorem words_blank (l : List UInt8) : wordsL (32 :: l) = wordsL l := by
 unfold wordsL
 rw [wgo, if_pos rfl, if_pos rfl]
 rfl
theorem words_blanks : ∀ (k : Nat) (l : List UInt8), wordsL (List.replicate k 32 ++ l) = wordsL l
 | 0, l => rfl
 | k + 1, l => by
   rw [List.replicate_succ, List.cons_append, words_blank, words_blanks k l]
theorem words_word {w : List UInt8} (l : List UInt8) (h0 : w ≠ []) (h : ∀ c ∈ w, c ≠ 32) : wordsL (w ++ 32 :: l) = w :: wordsL l := by
 unfold wordsL
 rw [wgo_word w [] _ h, List.nil_append, wgo, if_pos rfl, if_neg h0]
 rfl
theorem words_last {w : List UInt8} (h0 : w ≠ []) (h : ∀ c ∈ w, c ≠ 32) : wordsL w = [w] := by
 have := wgo_word w [] [] h
 rw [List.append_nil] at this
 unfold wordsL
 rw [this, List.nil_append, wgo, if_neg h0]
theorem own_ne {s : ByteArray} {i a : Nat} (hi : i ≤ s.size) (h : (bst s i).1 = some a) : bl (s.extract a i) ≠ [] := by
 have := bst_lt s i h
 intro q
 have e := congrArg List.length q
 rw [bl_len, ByteArray.size_extract] at e
 simp at e
 omega
theorem own_eq (s : ByteArray) (i : Nat) (hi : i ≤ s.size) : (if bl (ownK s i) = [] then ([] : List (List UInt8)) else [bl (ownK s i)]) = (match (bst s i).1 with | some a => [bl (s.extract a i)] | none => []) := by
 unfold ownK
 cases h : (bst s i).1 with
 | none => simp [bl]
 | some a => simp only [if_neg (own_ne hi h)]
theorem bl_ext' (s : ByteArray) (i j : Nat) : bl (s.extract i j) = ((bl s).drop i).take (j - i) := by
 simp [bl, ByteArray.data_extract, List.extract_eq_take_drop]
theorem ext_next (s : ByteArray) {a i : Nat} (h : a ≤ i) {c : UInt8} (hc : (bl s)[i]? = some c) : bl (s.extract a (i + 1)) = bl (s.extract a i) ++ [c] := by
 rw [bl_ext', bl_ext', show i + 1 - a = (i - a) + 1 by omega, List.take_add_one, List.getElem?_drop, show a + (i - a) = i by omega, hc]
 rfl
theorem words_go (s : ByteArray) : ∀ i : Nat, i ≤ s.size → wordsL (bl s) = (outK s i).map bl ++ wgo (bl (ownK s i)) ((bl s).drop i)
 | 0, _ => rfl
 | i + 1, hi => by
   have ih := words_go s i (by omega)
   obtain ⟨c, hc⟩ : ∃ c, (bl s)[i]? = some c := ⟨_, List.getElem?_eq_getElem (by rw [bl_len]; omega)⟩
   have hd : (bl s).drop i = c :: (bl s).drop (i + 1) := by
    have hl : i < (bl s).length := by rw [bl_len]; omega
    rw [List.drop_eq_getElem_cons hl]
    rw [List.getElem?_eq_getElem hl] at hc
    rw [Option.some.inj hc]
   have hb : by' s i = c.toNat := by
    have hl : i < s.data.size := hi
    have : s.get! i = c := by
     show s.data[i]! = c
     rw [getElem!_pos s.data i hl]
     rw [Array.getElem?_toList, Array.getElem?_eq_getElem hl] at hc
     exact Option.some.inj hc
    unfold by'
    rw [this]
   have hst : bst s (i + 1) = bstep s i (bst s i) := rfl
   rw [ih, hd, wgo]
   by_cases h32 : c = 32
   ·have hb32 : by' s i = 32 := by rw [hb, h32]; rfl
    unfold bstep at hst
    rw [if_pos hb32] at hst
    rw [if_pos h32, own_eq s i (by omega)]
    cases h : (bst s i).1 with
    | none =>
      rw [h] at hst
      unfold outK ownK
      rw [hst]
      rfl
    | some a =>
      rw [h] at hst
      unfold outK ownK
      rw [hst]
      simp [bl]
   ·have hb32 : ¬ by' s i = 32 := by
     rw [hb]
     intro q
     exact h32 (UInt8.toNat_inj.1 q)
    unfold bstep at hst
    rw [if_neg hb32] at hst
    rw [if_neg h32]
    unfold outK ownK
    rw [hst]
    cases h : (bst s i).1 with
    | none =>
      show _ = _ ++ wgo (bl (s.extract i (i + 1))) _
      rw [ext_next s (Nat.le_refl i) hc, bl_ext']
      simp [bl]
    | some a =>
      show _ = _ ++ wgo (bl (s.extract a (i + 1))) _
      rw [ext_next s (Nat.le_of_lt (bst_lt s i h)) hc]
theorem words_bl (s : ByteArray) : (wordsK s).map bl = wordsL (bl s) := by
 rw [words_go s s.size (Nat.le_refl _), words_eq, List.map_append]
 have hd : (bl s).drop s.size = [] := List.drop_eq_nil_of_le (by rw [bl_len]; exact Nat.le_refl _)
 rw [hd, wgo, own_eq s s.size (Nat.le_refl _)]
 cases (bst s s.size).1 <;> rfl
theorem words_of {s : ByteArray} {ws : List ByteArray} (h : wordsL (bl s) = ws.map bl) : wordsK s = ws := by
 have hb := words_bl s
 rw [h] at hb
 exact (List.map_inj_right fun x y e => (by cases x; cases y; simpa [bl, Array.toList_inj] using e)).1 hb
end Go.Lin
namespace Go.Vc
open Go Go.RowKit Go.ChangeShapes Go.WideShapes
theorem inI_wf' {n : Int} (h : (Lit.int .i64 n).wf = true) : inI n := by
 have h1 : IntKind.min .i64 = -9223372036854775808 := by decide
 have h2 : IntKind.max .i64 = 9223372036854775807 := by decide
 simp only [Lit.wf, Bool.and_eq_true, decide_eq_true_eq, h1, h2] at h
 exact h
section
variable {H : Type} {enc : TypeId × Value → H} {P : Program} {w : World} {base : Nat} {spare : Nat → Bool} {held : Bool}
theorem pair_of_trod {t : TypeId} {f0 f1 : Field} {fuel : Nat} {cs : List Value} {x : DataW H × List MemPlace} (ht : P.underlying t = some (.struct #[f0, f1])) (ce : P.cellsOf t = 2)
  (o0 : f0.offset = 0) (o1 : f1.offset = 1) (c0 : P.cellsOf f0.type = 1) (c1 : P.cellsOf f1.type = 1) (u0 : P.underlying f0.type = some (.int .i64)) (u1 : P.underlying f1.type = some (.int .i64))
  (h : DataW.trod enc P w base spare held fuel t cs = some x) : ∃ a b, cs = [.int .i64 a, .int .i64 b] ∧ inI a ∧ inI b := by
 obtain ⟨xs, n, _, _, hl, hxl, hf⟩ := DataW.trod_struct ht h
 rw [ce] at hl
 match xs, hxl, cs, hl with
 | [y0, y1], _, [v0, v1], _ =>
   have h0 := hf 0 f0 rfl
   have h1 := hf 1 f1 rfl
   rw [o0, c0] at h0
   rw [o1, c1] at h1
   obtain ⟨a, e0, _, wa⟩ := DataW.trod_int u0 h0
   obtain ⟨b, e1, _, wb⟩ := DataW.trod_int u1 h1
   simp at e0 e1
   exact ⟨a, b, by rw [e0, e1], inI_wf' wa, inI_wf' wb⟩
theorem pairs_of_trod {t e : TypeId} {f0 f1 : Field} {fuel : Nat} {a : Option Addr} {len cap : Nat} {x : DataW H × List MemPlace} (ht : P.underlying t = some (.slice e)) (he : P.underlying e = some (.struct #[f0, f1]))
  (ce : P.cellsOf e = 2) (o0 : f0.offset = 0) (o1 : f1.offset = 1) (c0 : P.cellsOf f0.type = 1) (c1 : P.cellsOf f1.type = 1) (u0 : P.underlying f0.type = some (.int .i64)) (u1 : P.underlying f1.type = some (.int .i64))
  (h : DataW.trod enc P w base spare held fuel t [.slice a len cap] = some x) :
  ∃ l : List (Int × Int), RdK w ⟨a, len, cap⟩ 2 (l.map fun r => [.int .i64 r.1, .int .i64 r.2]) ∧ (∀ r ∈ l, inI r.1 ∧ inI r.2) ∧ len ≤ cap ∧ cap ≤ maxLen := by
 rcases Go.Deep.open_slice_pairs ht he ce o0 o1 c0 c1 h with ⟨hcs, _⟩ | ⟨b, len', cap', m, n, V0, V1, D0, D1, P0, P1, hcs, _, hl, hm, hmm, _, hx⟩
 ·simp at hcs
  obtain ⟨rfl, rfl, rfl⟩ := hcs
  exact ⟨[], ⟨rfl, by simp, fun i r hi => by simp at hi⟩, by simp, Nat.le_refl _, by decide⟩
 ·simp at hcs
  obtain ⟨rfl, rfl, rfl⟩ := hcs
  have hlm : len ≤ m := by rw [hmm]; split <;> omega
  have each : ∀ i, i < len → ∃ r : Int × Int, w.cell? (b.add (i * 2)) = some (.int .i64 r.1) ∧ w.cell? (b.add (i * 2 + 1)) = some (.int .i64 r.2) ∧ inI r.1 ∧ inI r.2 := by
   intro i hi
   obtain ⟨h0, h1, h2, h3⟩ := hx i (by omega)
   obtain ⟨p, e0, _, wp⟩ := DataW.trod_int u0 h2
   obtain ⟨q, e1, _, wq⟩ := DataW.trod_int u1 h3
   simp at e0 e1
   exact ⟨(p, q), by rw [h0, e0], by rw [h1, e1], inI_wf' wp, inI_wf' wq⟩
  have pick : ∃ f : Nat → Int × Int, ∀ i, i < len → w.cell? (b.add (i * 2)) = some (.int .i64 (f i).1) ∧ w.cell? (b.add (i * 2 + 1)) = some (.int .i64 (f i).2) ∧ inI (f i).1 ∧ inI (f i).2 := by
   refine ⟨fun i => if hi : i < len then Classical.choose (each i hi) else (0, 0), fun i hi => ?_⟩
   simp only [dif_pos hi]
   exact Classical.choose_spec (each i hi)
  obtain ⟨f, hf⟩ := pick
  refine ⟨(List.range len).map f, ⟨by simp, by simp, fun i r hi j v hj => ?_⟩, fun r hr => ?_, hl, hm⟩
  ·simp only [List.map_map, List.getElem?_map, Option.map_eq_some_iff] at hi
   obtain ⟨k, hk, rfl⟩ := hi
   obtain ⟨hk1, hk2⟩ := List.getElem?_eq_some_iff.1 hk
   simp at hk1 hk2
   subst hk2
   obtain ⟨h0, h1, _, _⟩ := hf i hk1
   rcases j with _ | _ | j <;> simp at hj
   ·subst hj; exact h0
   ·subst hj; exact h1
  ·obtain ⟨i, hi, rfl⟩ := List.mem_map.1 hr
   exact (hf i (by simpa using hi)).2.2
theorem ints_of_trod {t e : TypeId} {k : IntKind} {fuel : Nat} {a : Option Addr} {len cap : Nat} {x : DataW H × List MemPlace} (ht : P.underlying t = some (.slice e)) (he : P.underlying e = some (.int k)) (ce : P.cellsOf e = 1)
  (h : DataW.trod enc P w base spare held fuel t [.slice a len cap] = some x) :
  ∃ z : List Int, RdK w ⟨a, len, cap⟩ 1 (z.map fun n => [.int k n]) ∧ (∀ n ∈ z, (Lit.int k n).wf = true) ∧ len ≤ cap ∧ cap ≤ maxLen := by
 rcases Go.ChangeShapes.open_ints ht he ce h with ⟨hcs, _⟩ | ⟨b, len', cap', zs, hcs, _, hl, hm, hz, _, hcell, hwf⟩
 ·simp at hcs
  obtain ⟨rfl, rfl, rfl⟩ := hcs
  exact ⟨[], ⟨rfl, by simp, fun i r hi => by simp at hi⟩, by simp, Nat.le_refl _, by decide⟩
 ·simp at hcs
  obtain ⟨rfl, rfl, rfl⟩ := hcs
  have hlm : len ≤ zs.length := by rw [hz]; split <;> omega
  refine ⟨zs.take len, ⟨by simp; omega, fun r hr => by obtain ⟨q, _, rfl⟩ := List.mem_map.1 hr; rfl, fun i r hi j v hj => ?_⟩, fun n hn => hwf n (List.mem_of_mem_take hn), hl, hm⟩
  rw [List.getElem?_map, Option.map_eq_some_iff] at hi
  obtain ⟨q, hq, rfl⟩ := hi
  rw [List.getElem?_take] at hq
  split at hq
  ·rename_i hil
   have := hcell i (by omega)
   rw [List.getD_eq_getElem?_getD, hq] at this
   rcases j with _ | j <;> simp at hj
   subst hj
   show w.cell? (b.add (i * 1 + 0)) = _
   rw [Nat.mul_one, Nat.add_zero]
   exact this
  ·cases hq
theorem u8_wf {n : Int} (h : (Lit.int .u8 n).wf = true) : 0 ≤ n ∧ n < 256 := by
 have h1 : IntKind.min .u8 = 0 := by decide
 have h2 : IntKind.max .u8 = 255 := by decide
 simp only [Lit.wf, Bool.and_eq_true, decide_eq_true_eq, h1, h2] at h
 omega
end
end Go.Vc
namespace Go.Vc
open Go Go.RowKit Go.ChangeShapes Go.WideShapes
section
variable {H : Type} {enc : TypeId × Value → H} {P : Program} {w : World} {base : Nat} {spare : Nat → Bool} {held : Bool}
def flatB (P : Program) : Nat → TypeId → Bool
 | 0, _ => false
 | n + 1, t => match P.underlying t with
   | some (.int .i64) => P.cellsOf t == 1
   | some (.struct fs) => (List.range (P.cellsOf t)).all fun i => (List.range fs.size).any fun j => match fs[j]? with
     | some f => decide (f.offset ≤ i) && decide (i < f.offset + P.cellsOf f.type) && flatB P n f.type
     | none => false
   | _ => false
theorem flat_of_trod : ∀ {n : Nat} {t : TypeId} {fuel : Nat} {cs : List Value} {x : DataW H × List MemPlace}, flatB P n t = true → DataW.trod enc P w base spare held fuel t cs = some x →
  cs.length = P.cellsOf t ∧ ∀ v ∈ cs, ∃ z, v = .int .i64 z ∧ inI z
 | 0, _, _, _, _, h, _ => by simp [flatB] at h
 | n + 1, t, fuel, cs, x, h, ht => by
   unfold flatB at h
   split at h
   ·rename_i e
    obtain ⟨z, rfl, _, hw⟩ := DataW.trod_int e ht
    have : P.cellsOf t = 1 := by simpa using h
    refine ⟨by rw [this]; rfl, fun v hv => ?_⟩
    rw [List.mem_singleton] at hv
    exact ⟨z, hv, inI_wf' hw⟩
   ·rename_i fs e
    obtain ⟨xs, k, _, _, hl, hxl, hf⟩ := DataW.trod_struct e ht
    refine ⟨hl, fun v hv => ?_⟩
    obtain ⟨i, hi, rfl⟩ := List.getElem_of_mem hv
    rw [List.all_eq_true] at h
    have hj := h i (List.mem_range.2 (by omega))
    rw [List.any_eq_true] at hj
    obtain ⟨j, hjr, hj⟩ := hj
    rw [List.mem_range] at hjr
    split at hj
    ·rename_i f hfj
     simp only [Bool.and_eq_true, decide_eq_true_eq] at hj
     have hx := hf j f hfj
     rw [List.getElem?_eq_getElem (by omega)] at hx
     obtain ⟨hlen, hall⟩ := flat_of_trod hj.2 hx
     refine hall _ (List.mem_of_getElem? (i := i - f.offset) ?_)
     rw [List.getElem?_take, if_pos (by omega), List.getElem?_drop, List.getElem?_eq_getElem (by omega)]
     congr 2; omega
    ·cases hj
   ·cases h
theorem ints_of_cells : ∀ {cs : List Value}, (∀ v ∈ cs, ∃ z, v = .int .i64 z ∧ inI z) → ∃ r : List Int, cs = r.map (fun n => .int .i64 n) ∧ ∀ n ∈ r, inI n
 | [], _ => ⟨[], rfl, by simp⟩
 | v :: cs, h => by
   obtain ⟨z, rfl, hz⟩ := h v (List.mem_cons_self ..)
   obtain ⟨r, rfl, hr⟩ := ints_of_cells fun u hu => h u (List.mem_cons_of_mem _ hu)
   refine ⟨z :: r, rfl, fun n hn => ?_⟩
   rcases List.mem_cons.1 hn with rfl | hn
   ·exact hz
   ·exact hr n hn
theorem flats_of_trod {n : Nat} {t : TypeId} {fuel : Nat} {cs : List Value} {x : DataW H × List MemPlace} (hb : flatB P n t = true) (h : DataW.trod enc P w base spare held fuel t cs = some x) :
  ∃ r : List Int, cs = r.map (fun n => .int .i64 n) ∧ r.length = P.cellsOf t ∧ ∀ n ∈ r, inI n := by
 obtain ⟨h1, h2⟩ := flat_of_trod hb h
 obtain ⟨r, rfl, hr⟩ := ints_of_cells h2
 exact ⟨r, rfl, by simpa using h1, hr⟩
theorem flat3_of_trod {n : Nat} {t : TypeId} {fuel : Nat} {cs : List Value} {x : DataW H × List MemPlace} (hb : flatB P n t = true) (hk : P.cellsOf t = 3) (h : DataW.trod enc P w base spare held fuel t cs = some x) :
  ∃ a b c, cs = [.int .i64 a, .int .i64 b, .int .i64 c] ∧ inI a ∧ inI b ∧ inI c := by
 obtain ⟨r, rfl, hl, hi⟩ := flats_of_trod hb h
 rw [hk] at hl
 match r, hl with
 | [a, b, c], _ => exact ⟨a, b, c, rfl, hi a (by simp), hi b (by simp), hi c (by simp)⟩
theorem rows_of_trod {m k : Nat} {t e : TypeId} {fuel : Nat} {a : Option Addr} {len cap : Nat} {x : DataW H × List MemPlace} (ht : P.underlying t = some (.slice e)) (hb : flatB P m e = true) (hk : P.cellsOf e = k)
  (h : DataW.trod enc P w base spare held fuel t [.slice a len cap] = some x) :
  ∃ z : List (List Int), RdK w ⟨a, len, cap⟩ k (z.map fun r => r.map fun n => .int .i64 n) ∧ (∀ r ∈ z, r.length = k ∧ ∀ n ∈ r, inI n) ∧ len ≤ cap ∧ cap ≤ maxLen := by
 rcases Go.Deep.open_slice ht h with ⟨hcs, _⟩ | ⟨b, len', cap', m', n, D, Pl, hcs, _, hl, hm, hmm, _, hx⟩
 ·simp at hcs
  obtain ⟨rfl, rfl, rfl⟩ := hcs
  exact ⟨[], ⟨rfl, by simp, fun i r hi => by simp at hi⟩, by simp, Nat.le_refl _, by decide⟩
 ·simp at hcs
  obtain ⟨rfl, rfl, rfl⟩ := hcs
  have hlm : len ≤ m' := by rw [hmm]; split <;> omega
  have each : ∀ i, i < len → ∃ r : List Int, (∀ j, j < k → w.cell? ((b.add (i * k)).add j) = (r.map fun n => Value.int .i64 n)[j]?) ∧ r.length = k ∧ ∀ n ∈ r, inI n := by
   intro i hi
   obtain ⟨cs', h1, h2⟩ := hx i (by omega)
   obtain ⟨r, rfl, hr1, hr2⟩ := flats_of_trod hb h2
   rw [hk] at h1 hr1
   exact ⟨r, (World.cells?_some h1).2.2, hr1, hr2⟩
  have pick : ∃ f : Nat → List Int, ∀ i, i < len → (∀ j, j < k → w.cell? ((b.add (i * k)).add j) = ((f i).map fun n => Value.int .i64 n)[j]?) ∧ (f i).length = k ∧ ∀ n ∈ f i, inI n := by
   refine ⟨fun i => if hi : i < len then Classical.choose (each i hi) else [], fun i hi => ?_⟩
   simp only [dif_pos hi]
   exact Classical.choose_spec (each i hi)
  obtain ⟨f, hf⟩ := pick
  refine ⟨(List.range len).map f, ⟨by simp, fun r hr => ?_, fun i r hi j v hj => ?_⟩, fun r hr => ?_, hl, hm⟩
  ·obtain ⟨r', hr', rfl⟩ := List.mem_map.1 hr
   obtain ⟨i, hi, rfl⟩ := List.mem_map.1 hr'
   rw [List.length_map]
   exact (hf i (by simpa using hi)).2.1
  ·simp only [List.map_map, List.getElem?_map, Option.map_eq_some_iff] at hi
   obtain ⟨q, hq, rfl⟩ := hi
   obtain ⟨hk1, hk2⟩ := List.getElem?_eq_some_iff.1 hq
   simp at hk1 hk2
   subst hk2
   obtain ⟨h0, h1, _⟩ := hf i hk1
   have hjk : j < k := by
    have := (List.getElem?_eq_some_iff.1 hj).1
    simp at this; omega
   have := h0 j hjk
   rw [← padd_padd]
   show w.cell? ((b.add (i * k)).add j) = _
   rw [this]; exact hj
  ·obtain ⟨i, hi, rfl⟩ := List.mem_map.1 hr
   exact (hf i (by simpa using hi)).2
end
end Go.Vc
