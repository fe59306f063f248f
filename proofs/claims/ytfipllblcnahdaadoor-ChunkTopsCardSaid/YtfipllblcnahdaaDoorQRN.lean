import Derived.Test.YtfipllblcnahdaaDoorLib2
set_option linter.all false
namespace Go.Vc
open Go Go.RowKit

theorem callV_mono {P : Program} {fv : Value} {args : List Value} {w : World} {R R' : Ending → World → Prop} (h : callV P fv args w R) (hr : ∀ e w', R e w' → R' e w') : callV P fv args w R' := by
  unfold callV at h ⊢
  split at h
  · split at h
    · exact h.mono hr
    · obtain ⟨e, he, v, w', h1, h2⟩ := h
      exact ⟨e, he, v, w', h1, hr _ _ h2⟩
  · obtain ⟨h1, fn, tmps, assign, body, h2, h3⟩ := h
    exact ⟨h1, fn, tmps, assign, body, h2, h3.mono hr⟩
  · exact h.elim
theorem callV_fn {P : Program} {f : FuncId} {first cap : Array Value} {args : List Value} {w : World} {R : Ending → World → Prop} (hb : hasBody P f = true) (h : Calls P f (first.toList ++ args ++ cap.toList).toArray w R) :
    callV P (.func (.func f) first cap) args w R := by
  unfold callV
  simp only [hb]
  exact h
theorem callV_of {P : Program} {f : FuncId} {first cap : Array Value} {args : List Value} {w : World} {R : Ending → World → Prop} {as : Array Value} (hb : hasBody P f = true) (ha : (first.toList ++ args ++ cap.toList).toArray = as) (h : Calls P f as w R) :
    callV P (.func (.func f) first cap) args w R := callV_fn hb (by rw [ha]; exact h)
theorem isNilF_func (fn : Fn) (a b : Array Value) : isNilF (.func fn a b) = false := rfl
theorem fnC_func (fn : Fn) (a b : Array Value) : fnC (.func fn a b) = [] := rfl

/-- Of what was there, no more than the blocks of F has turned. -/
structure Mod (F : Nat → Prop) (w w' : World) : Prop where
  os : w'.os = w.os
  tape : w'.tape = w.tape
  output : w'.output = w.output
  size : w.heap.size ≤ w'.heap.size
  same : ∀ i, i < w.heap.size → ¬ F i → w'.heap[i]? = w.heap[i]?
theorem Mod.refl (F : Nat → Prop) (w : World) : Mod F w w := ⟨rfl, rfl, rfl, Nat.le_refl _, fun _ _ _ => rfl⟩
theorem Mod.of_ext {F : Nat → Prop} {w w' : World} (h : Ext w w') : Mod F w w' := ⟨h.os, h.tape, h.output, h.size, fun i hi _ => h.block i hi⟩
theorem Mod.trans {F : Nat → Prop} {a b c : World} (h : Mod F a b) (k : Mod F b c) : Mod F a c :=
  ⟨k.os.trans h.os, k.tape.trans h.tape, k.output.trans h.output, Nat.le_trans h.size k.size, fun i hi hn => (k.same i (Nat.lt_of_lt_of_le hi h.size) hn).trans (h.same i hi hn)⟩
theorem Mod.mono {F F' : Nat → Prop} {a b : World} (h : Mod F a b) (hs : ∀ i, i < a.heap.size → F i → F' i) : Mod F' a b := ⟨h.os, h.tape, h.output, h.size, fun i hi hn => h.same i hi fun hf => hn (hs i hi hf)⟩
/-- What has turned by a turn of F, then by one of what was new or of F. -/
theorem Mod.tr {F F' : Nat → Prop} {a b c : World} (h : Mod F a b) (k : Mod F' b c) (hs : ∀ i, F' i → F i ∨ a.heap.size ≤ i) : Mod F a c :=
  ⟨k.os.trans h.os, k.tape.trans h.tape, k.output.trans h.output, Nat.le_trans h.size k.size, fun i hi hn => (k.same i (Nat.lt_of_lt_of_le hi h.size) fun hf => by
    rcases hs i hf with hf | hf
    · exact hn hf
    · omega).trans (h.same i hi hn)⟩
theorem Mod.below {F : Nat → Prop} {B : Nat} {w w' : World} (h : Mod F w w') (hB : B ≤ w.heap.size) (hF : ∀ i, F i → B ≤ i) : Below B w w' := ⟨h.os, h.tape, h.output, h.size, fun i hi => h.same i (by omega) fun hf => by have := hF i hf; omega⟩
theorem Mod.ext {F : Nat → Prop} {w0 w w' : World} (h : Mod F w w') (x : Ext w0 w) (hF : ∀ i, F i → w0.heap.size ≤ i) : Ext w0 w' := x.trans (h.below x.size hF)
theorem Mod.of_rec {r : Nat} {w w' : World} (h : Rec r w w') : Mod (fun i => i = r) w w' := ⟨h.os, h.tape, h.output, Nat.le_of_eq h.size.symm, fun i _ hn => h.same i hn⟩
theorem Mod.below0 {F : Nat → Prop} {B : Nat} {w w' : World} (h : Below B w w') (hF : ∀ i, i < w.heap.size → B ≤ i → w'.heap[i]? ≠ w.heap[i]? → F i) : Mod F w w' :=
  ⟨h.os, h.tape, h.output, h.size, fun i hi hn => by
    rcases Nat.lt_or_ge i B with hb | hb
    · exact h.block i hb
    · exact Classical.byContradiction fun hne => hn (hF i hi hb hne)⟩
theorem Rec.ld {l : Nat} {w w' : World} (h : Rec l w w') {p : Option Addr} (hp : pblk p ≠ some l) : ld w' p = ld w p := by
  cases p with
  | none => rfl
  | some a =>
    show w'.cell? a = w.cell? a
    have : a.block ≠ l := fun e => hp (by simp [pblk, e])
    simp only [World.cell?, h.same _ this]
theorem Begun.heap {B : Nat} {w w1 : World} (h : Begun B w w1) {i : Nat} (hi : i < B) : w1.heap[i]? = w.heap[i]? := h.ext.block i (by rw [← h.at_]; exact hi)
theorem Row.below {w w' : World} {g B : Nat} {cs : List Value} {t : TypeId} (h : Row w g cs t) (hb : Below B w w') (hg : g < B) : Row w' g cs t := h.same (hb.block g hg)
theorem ld_same {w w' : World} {p : Option Addr} (h : ∀ b, pblk p = some b → w'.heap[b]? = w.heap[b]?) : ld w' p = ld w p := by
  cases p with
  | none => rfl
  | some a =>
    show w'.cell? a = w.cell? a
    have := h a.block rfl
    simp only [World.cell?, this]
theorem RdK.same {w w' : World} {s : Sl} {k : Nat} {rows : List (List Value)} (h : RdK w s k rows) (hs : ∀ b, s.blk = some b → w'.heap[b]? = w.heap[b]?) : RdK w' s k rows :=
  ⟨h.n, h.wd, fun i r hi j v hj => by
    rw [ld_same fun b hb => hs b (by rw [pblk_padd] at hb; exact hb)]
    exact h.rd i r hi j v hj⟩
end Go.Vc
namespace Go.Vc
open Go Go.RowKit
theorem RdK.blk_lt {w : World} {s : Sl} {k : Nat} {rows : List (List Value)} (h : RdK w s k rows) (hk : 0 < k) (hne : rows ≠ []) {b : Nat} (hb : s.blk = some b) : b < w.heap.size := by
  cases rows with
  | nil => exact absurd rfl hne
  | cons r rows =>
    have hl := h.wd r (.head _)
    have h0 : r[0]? = some (r[0]'(by omega)) := List.getElem?_eq_getElem (by omega)
    have := h.rd 0 r rfl 0 _ h0
    cases ha : s.a with
    | none => rw [ha] at this; simp [ld, padd] at this
    | some a =>
      rw [ha] at this
      have hlt := cell_lt (w := w) (a := a.add (0 * k + 0)) this
      have : (a.add (0 * k + 0)).block = a.block := by unfold Addr.add; split <;> rfl
      rw [this] at hlt
      simp [Sl.blk, ha] at hb
      omega
theorem RdK.same' {w w' : World} {s : Sl} {k : Nat} {rows : List (List Value)} (h : RdK w s k rows) (hs : rows ≠ [] → ∀ b, s.blk = some b → w'.heap[b]? = w.heap[b]?) : RdK w' s k rows := by
  cases rows with
  | nil => exact ⟨h.n, h.wd, fun i r hi => by simp at hi⟩
  | cons r rows => exact h.same (hs (by simp))
end Go.Vc
namespace Go.Vc
open Go Go.RowKit
theorem RdK.below' {w w' : World} {s : Sl} {k : Nat} {rows : List (List Value)} (h : RdK w s k rows) (hb : Below w.heap.size w w') : RdK w' s k rows := h.ext hb
end Go.Vc
