import Derived.Test.YtfipllblcnahdaaDoorQLA
import Derived.Lib.Overlaps
set_option linter.all false
namespace Go.Vc
open Go Go.RowKit

/-! ## Objects: a set of blocks, and how it turns -/
structure Turned (F F' : Nat → Prop) (w w' : World) : Prop where
  mod : Mod F w w'
  sub : ∀ i, F' i → F i ∨ w.heap.size ≤ i
theorem Turned.refl (F : Nat → Prop) (w : World) : Turned F F w w := ⟨Mod.refl _ _, fun _ h => .inl h⟩
theorem Turned.trans {F G H : Nat → Prop} {a b c : World} (h : Turned F G a b) (k : Turned G H b c) : Turned F H a c :=
  ⟨h.mod.tr k.mod h.sub, fun i hi => by
    rcases k.sub i hi with hg | hg
    · exact h.sub i hg
    · exact .inr (Nat.le_trans h.mod.size hg)⟩
theorem Turned.of_ext {F : Nat → Prop} {w w' : World} (h : Ext w w') : Turned F F w w' := ⟨Mod.of_ext h, fun _ h => .inl h⟩
/-- What is new stays new. -/
theorem Turned.fresh {F F' : Nat → Prop} {w0 w w' : World} (h : Turned F F' w w') (x : Ext w0 w) (hF : ∀ i, F i → w0.heap.size ≤ i) : Ext w0 w' ∧ ∀ i, F' i → w0.heap.size ≤ i :=
  ⟨h.mod.ext x hF, fun i hi => by
    rcases h.sub i hi with hf | hf
    · exact hF i hf
    · exact Nat.le_trans x.size hf⟩
/-- What lies apart stays apart. -/
theorem Turned.apart {F F' G : Nat → Prop} {w w' : World} (h : Turned F F' w w') (hd : ∀ i, F i → ¬ G i) (hl : ∀ i, G i → i < w.heap.size) : ∀ i, F' i → ¬ G i := fun i hi hg => by
  rcases h.sub i hi with hf | hf
  · exact hd i hf hg
  · have := hl i hg; omega
theorem Mod.of_app {w w' : World} {s : Sl} (hb : Below 0 w w') (hk : ∀ j, s.blk ≠ some j → j < w.heap.size → w'.heap[j]? = w.heap[j]?) : Mod (fun i => s.blk = some i) w w' :=
  ⟨hb.os, hb.tape, hb.output, hb.size, fun i hi hn => hk i hn hi⟩
theorem Mod.ld {F : Nat → Prop} {w w' : World} (h : Mod F w w') {p : Option Addr} {v : Value} (hl : ld w p = some v) (hn : ∀ b, pblk p = some b → ¬ F b) : ld w' p = some v := by
  cases p with
  | none => simp [Vc.ld] at hl
  | some a =>
    rw [ld_same (w := w) (w' := w') fun b hb => ?_]
    · exact hl
    · have : a.block = b := by simpa [pblk] using hb
      exact h.same b (by rw [← this]; exact cell_lt hl) (hn b hb)
theorem Mod.row {F : Nat → Prop} {w w' : World} (h : Mod F w w') {g : Nat} {cs : List Value} {t : TypeId} (hr : Row w g cs t) (hn : ¬ F g) : Row w' g cs t := hr.same (h.same g hr.lt hn)
theorem Mod.ownK {F : Nat → Prop} {w w' : World} (h : Mod F w w') {B E k : Nat} {s : Sl} {rows : List (List Value)} (ho : OwnK B E k w s rows) (hn : ∀ b, s.blk = some b → ¬ F b) : OwnK B E k w' s rows :=
  ho.keep fun b hb => h.same b (ho.own.lt hb).2 (hn b hb)
theorem Mod.map {F : Nat → Prop} {w w' : World} (h : Mod F w w') {G : Value → Prop} {r : Nat} {kvs : List (Value × Value)} (hm : MapIs G w (some r) kvs) (hn : ¬ F r) : MapIs G w' (some r) kvs := hm.same (h.same r hm.lt hn)
theorem Mod.rdK {F : Nat → Prop} {w w' : World} (h : Mod F w w') {s : Sl} {k : Nat} {rows : List (List Value)} (hk : 0 < k) (hr : RdK w s k rows) (hn : rows ≠ [] → ∀ b, s.blk = some b → ¬ F b) : RdK w' s k rows :=
  hr.same' fun hne b hb => h.same b (hr.blk_lt hk hne hb) (hn hne b hb)
theorem two_puts {C x l : List Value} {a b N : Nat} (hb : b = a + x.length) (hN : N = b + l.length) (hC : N ≤ C.length) : (putCells (putCells C a x) b l).take N = C.take a ++ x ++ l := by
  have ha : (C.take a).length = a := by rw [List.length_take]; omega
  rw [putCells_eq x C a (by omega)]
  have hD : (C.take a ++ x).length = b := by rw [List.length_append, ha, hb]
  rw [putCells_eq _ _ _ (by rw [List.length_append, hD, List.length_drop]; omega), List.take_left' hD, List.take_left' (by rw [List.length_append, hD]; omega)]
theorem two_puts' {C x l : List Value} {a b N : Nat} (hb : b = a + x.length) (hN : N = b + l.length) (hC : N ≤ C.length) : (putCells (putCells C b l) a x).take N = C.take a ++ x ++ l := by
  have ha : (C.take a).length = a := by rw [List.length_take]; omega
  have hbl : (C.take b).length = b := by rw [List.length_take]; omega
  rw [putCells_eq l C b (by omega)]
  have h1 : (C.take b ++ l ++ C.drop (b + l.length)).take a = C.take a := by
    rw [List.append_assoc, List.take_append_of_le_length (by omega), List.take_take, Nat.min_eq_left (by omega)]
  have h2 : (C.take b ++ l ++ C.drop (b + l.length)).drop (a + x.length) = l ++ C.drop (b + l.length) := by
    rw [List.append_assoc, ← hb, List.drop_left' hbl]
  have hl : (C.take b ++ l ++ C.drop (b + l.length)).length = C.length := by simp; omega
  rw [putCells_eq _ _ _ (by rw [hl]; omega), h1, h2, ← List.append_assoc, List.take_left' (by simp only [List.length_append, ha]; omega)]
theorem mid_eq {lo hi : Nat} (h : lo + hi ≤ 1000000) : IntKind.wrap .i64 (((IntKind.wrap .u64 (IntKind.wrap .i64 ((lo : Int) + (hi : Int)))) : Int).fdiv (2 ^ (min (1 : Int).toNat 64))) = (((lo + hi) / 2 : Nat) : Int) := by
  rw [wrap_in (n := (lo : Int) + hi) (by unfold inI; omega)]
  have h2 : IntKind.wrap .u64 ((lo : Int) + hi) = lo + hi := by
    unfold IntKind.wrap
    simp only [IntKind.bits, IntKind.signed]
    simp
    omega
  rw [h2]
  have h3 : ((lo : Int) + hi).fdiv (2 ^ (min (1 : Int).toNat 64)) = (((lo + hi) / 2 : Nat) : Int) := by
    show ((lo : Int) + hi).fdiv 2 = _
    rw [Int.fdiv_eq_ediv_of_nonneg _ (by omega)]
    omega
  rw [h3, wrap_in (by unfold inI; omega)]
theorem Row.at {w : World} {g : Nat} {cs : List Value} {E : TypeId} (hr : Row w g cs E) (j : Nat) {v : Value} (h : cs[j]? = some v) : Vc.ld w (padd (some ⟨g, 0, none⟩) j) = some v := by
  rw [padd_row, hr.ld, Nat.zero_add]; exact h
theorem Row.put1 {w : World} {g : Nat} {cs : List Value} {E : TypeId} (hr : Row w g cs E) {j : Nat} {v : Value} (hj : j < cs.length) (hv : v.oneCell' = true) :
    Wr w (padd (some ⟨g, 0, none⟩) j) 1 ∧ ∀ w', w' = Vc.setP w (padd (some ⟨g, 0, none⟩) j) [v] → Row w' g (putCells cs j [v]) E ∧ Mod (fun i => i = g) w w' := by
  rw [padd_row, Nat.zero_add]
  have h1 : One [v] := by intro u hu; simp at hu; subst hu; exact hv
  refine ⟨hr.wr (by omega), fun w' e => ?_⟩
  rw [hr.setP (by simp; omega) h1] at e
  subst e
  exact ⟨hr.set _, rfl, rfl, rfl, by rw [setRow_size]; exact Nat.le_refl _, fun i _ hn => setRow_other _ _ _ _ hn⟩

theorem own_row {B E k : Nat} {w : World} {s : Sl} {rows : List (List Value)} (h : OwnK B E k w s rows) (hk : 0 < k) {b : Nat} (hb : s.blk = some b) : ∃ cs, Row w b cs E := by
  rcases h.form hk with ⟨hs, -⟩ | ⟨g0, cs, ha, hg0, hr, -⟩
  · rw [hs] at hb; cases hb
  · unfold Sl.blk at hb; rw [ha] at hb
    have : g0 = b := by simpa using hb
    exact ⟨cs, this ▸ hr⟩
end Go.Vc
