import Derived.Test.YtkkkfkopcfdmaaaGreatDoorVc
import Derived.Lib.Overlaps
set_option linter.all false
namespace Go.Vc
open Go Go.RowKit
abbrev Ext (w w' : World) : Prop := Below w.heap.size w w'
theorem Ext.rfl' (w : World) : Ext w w := Below.refl _ _
theorem Ext.tr {a b c : World} (h : Ext a b) (k : Ext b c) : Ext a c := Below.trans h (Below.mono k h.size)
theorem Ext.al (w : World) (o : Obj) : Ext w (w.alloc o) := (Below.refl _ w).alloc (Nat.le_refl _) o
theorem Ext.dr (w : World) : Ext w w.drew := (Below.refl _ w).drew
theorem Ext.of_alloc {a b c : World} {o : Obj} (h : Ext a b) (e : c = b.alloc o) : Ext a c := by subst e; exact h.tr (Ext.al _ _)
theorem Ext.drew {a b : World} (h : Ext a b) : Ext a b.drew := h.tr (Ext.dr _)
theorem setRow_other (w : World) (g j : Nat) (cs : Array Value) (h : j ≠ g) : (w.setRow g cs).heap[j]? = w.heap[j]? := by
 simp only [World.setRow, Array.getElem?_modify, if_neg (Ne.symm h)]
theorem setRow_size (w : World) (g : Nat) (cs : Array Value) : (w.setRow g cs).heap.size = w.heap.size := by simp [World.setRow]
theorem Ext.setRow {a b : World} (h : Ext a b) {g : Nat} (hg : a.heap.size ≤ g) (cs : Array Value) : Ext a (b.setRow g cs) :=
 ⟨h.os, h.tape, h.output, by rw [setRow_size]; exact h.size, fun k hk => by rw [setRow_other _ _ _ _ (by omega)]; exact h.block k hk⟩
theorem Ext.of_setRow {a b c : World} {g : Nat} {cs : Array Value} (h : Ext a b) (e : c = b.setRow g cs) (hg : a.heap.size ≤ g) : Ext a c := by subst e; exact h.setRow hg cs
theorem cell_lt {w : World} {a : Addr} {v : Value} (h : w.cell? a = some v) : a.block < w.heap.size := by
 unfold World.cell? at h
 split at h
 ·rename_i hb; exact (Array.getElem?_eq_some_iff.1 hb).1
 ·cases h
theorem Ext.ld {w w' : World} (h : Ext w w') {p : Option Addr} {v : Value} (hl : ld w p = some v) : ld w' p = some v := by
 cases p with
 | none => simp [Vc.ld] at hl
 | some a =>
   have hl' : w.cell? a = some v := hl
   show w'.cell? a = some v
   rw [Below.cell h (cell_lt hl')]; exact hl'
theorem Ext.heap {w w' : World} (h : Ext w w') {i : Nat} (hi : i < w.heap.size) : w'.heap[i]? = w.heap[i]? := h.block i hi
theorem padd_padd (p : Option Addr) (m n : Nat) : padd (padd p m) n = padd p (m + n) := by
 cases p with
 | none => rfl
 | some a =>
   simp only [padd, Option.map_some, Option.some.injEq, Addr.add]
   by_cases hm : m = 0
   ·subst hm; simp
   ·by_cases hn : n = 0
    ·subst hn; simp [hm]
    ·simp [hm, hn, Nat.add_assoc]
@[simp] theorem padd_isSome (p : Option Addr) (n : Nat) : (padd p n).isSome = p.isSome := by cases p <;> rfl
theorem pblk_padd (p : Option Addr) (n : Nat) : pblk (padd p n) = pblk p := by
 cases p with
 | none => rfl
 | some a => simp only [padd, pblk, Option.map_some, Addr.add]; split <;> rfl
def Row (w : World) (g : Nat) (cs : List Value) (t : TypeId) : Prop := w.heap[g]? = some (.cells cs.toArray t (0, 0))
theorem Row.new (w : World) (cs : List Value) (t : TypeId) : Row (w.alloc (.cells cs.toArray t)) w.heap.size cs t := by
 show (w.heap.push _)[w.heap.size]? = _
 simp
theorem Row.lt {w : World} {g : Nat} {cs : List Value} {t : TypeId} (h : Row w g cs t) : g < w.heap.size := (Array.getElem?_eq_some_iff.1 h).1
theorem Row.ext {w w' : World} {g : Nat} {cs : List Value} {t : TypeId} (h : Row w g cs t) (he : Ext w w') : Row w' g cs t := (he.heap h.lt).trans h
theorem Row.same {w w' : World} {g : Nat} {cs : List Value} {t : TypeId} (h : Row w g cs t) (he : w'.heap[g]? = w.heap[g]?) : Row w' g cs t := he.trans h
theorem Row.set {w : World} {g : Nat} {cs : List Value} {t : TypeId} (h : Row w g cs t) (cs' : List Value) : Row (w.setRow g cs'.toArray) g cs' t := setRow_heap _ _ _ _ _ _ h
theorem Row.ld {w : World} {g : Nat} {cs : List Value} {t : TypeId} (h : Row w g cs t) (j : Nat) : ld w (some ⟨g, j, none⟩) = cs[j]? := by
 simp [Vc.ld, World.cell?, show w.heap[g]? = _ from h]
theorem padd_row (g o j : Nat) : padd (some ⟨g, o, none⟩) j = some ⟨g, o + j, none⟩ := by simp [padd, add_loc]
theorem Row.wr {w : World} {g : Nat} {cs : List Value} {t : TypeId} (h : Row w g cs t) {o n : Nat} (hn : o + n ≤ cs.length) : Wr w (some ⟨g, o, none⟩) n := by
 intro i hi
 refine ⟨_, rfl, ?_, ?_⟩
 ·rw [add_loc]
  simp [World.cell?, show w.heap[g]? = _ from h]
  omega
 ·rw [add_loc]; exact frozen_of h _
theorem Row.loadL {w : World} {g : Nat} {cs : List Value} {t : TypeId} (h : Row w g cs t) {o : Nat} {vs : List Value} (hv : ∀ j, j < vs.length → cs[o + j]? = vs[j]?) : LoadL w (some ⟨g, o, none⟩) 0 vs :=
 LoadL_cells fun j hj => by rw [padd_row, h.ld]; simpa using hv j hj
theorem Row.setP {w : World} {g : Nat} {cs : List Value} {t : TypeId} (h : Row w g cs t) {o : Nat} {vs : List Value} (hl : o + vs.length ≤ cs.length) (h1 : One vs) :
  setP w (some ⟨g, o, none⟩) vs = w.setRow g (putCells cs o vs).toArray := by
 have e1 := storeCells_run (P := default) ⟨g, o, none⟩ vs 0 w h1 (fun j hj => by
  obtain ⟨a, e, q⟩ := h.wr hl j hj
  cases e; simpa using q)
 have e2 := run_storeCells_at default g o t vs 0 cs.toArray w h (by simpa using hl) h1
 rw [e1] at e2
 injection e2 with _ e3
 show setCs w _ 0 vs = _
 rw [e3, putCells_eq _ _ _ hl]
 simp
inductive Own (B E size : Nat) (w : World) : Sl → List Value → Prop
 | nil : Own B E size w ⟨none, 0, 0⟩ []
 | row (g n c : Nat) (cs : List Value) (hg : B ≤ g) (hr : Row w g cs E) (hc : c * size ≤ cs.length) (hn : n ≤ c) : Own B E size w ⟨some ⟨g, 0, none⟩, n, c⟩ (cs.take (n * size))
def Sl.blk (s : Sl) : Option Nat := s.a.map (·.block)
theorem Own.len {B E size : Nat} {w : World} {s : Sl} {xs : List Value} (h : Own B E size w s xs) : xs.length = s.n * size := by
 cases h with
 | nil => simp
 | row g n c cs hg hr hc hn =>
   have : n * size ≤ c * size := Nat.mul_le_mul_right _ hn
   rw [List.length_take]
   show min (n * size) _ = n * size
   omega
theorem Own.rd {B E size : Nat} {w : World} {s : Sl} {xs : List Value} (h : Own B E size w s xs) : Rd w s.a xs := by
 cases h with
 | nil => intro i v hi; simp at hi
 | row g n c cs hg hr hc hn =>
   intro i v hi
   rw [padd_row, hr.ld]
   rw [List.getElem?_take] at hi
   split at hi
   ·simpa using hi
   ·cases hi
theorem Own.keep {B E size : Nat} {w w' : World} {s : Sl} {xs : List Value} (h : Own B E size w s xs) (hk : ∀ g, s.blk = some g → w'.heap[g]? = w.heap[g]?) : Own B E size w' s xs := by
 cases h with
 | nil => exact .nil
 | row g n c cs hg hr hc hn => exact .row g n c cs hg (hr.same (hk g rfl)) hc hn
theorem Own.ext {B E size : Nat} {w w' : World} {s : Sl} {xs : List Value} (h : Own B E size w s xs) (he : Ext w w') : Own B E size w' s xs := by
 cases h with
 | nil => exact .nil
 | row g n c cs hg hr hc hn => exact .row g n c cs hg (hr.ext he) hc hn
theorem Own.lt {B E size : Nat} {w : World} {s : Sl} {xs : List Value} (h : Own B E size w s xs) {g : Nat} (hg : s.blk = some g) : B ≤ g ∧ g < w.heap.size := by
 cases h with
 | nil => cases hg
 | row g' n c cs hg' hr hc hn => cases hg; exact ⟨hg', hr.lt⟩
theorem Own.append {B E size bytes : Nat} {w : World} {s : Sl} {xs : List Value} (h : Own B E size w s xs) {m : Nat} {news : List Value} (hB : B ≤ w.heap.size) (hl : news.length = m * size) (h1 : One news)
  (hb : (s.n + m) * bytes ≤ 140737488355328) (hb' : s.n + m ≤ 9223372036854775807) :
  AppPre bytes size w s m news ∧ ∀ (s' : Sl) (w' : World), AppRes E size w s m news s' w' →
   Own B E size w' s' (xs ++ news) ∧ s'.n = s.n + m ∧ Below B w w' ∧ (∀ j, s.blk ≠ some j → j < w.heap.size → w'.heap[j]? = w.heap[j]?) ∧ (s'.blk = s.blk ∨ s'.blk = some w.heap.size) := by
 refine ⟨⟨fun hf => ?_, fun hg => ⟨xs, h.len, h.rd⟩, fun hg => ⟨growslice_fits hg hb, by omega⟩, hl, h1⟩, ?_⟩
 ·cases h with
  | nil =>
    have : m = 0 := by simp at hf; omega
    subst this
    intro i hi; omega
  | row g n c cs hg hr hc hn =>
    rw [padd_row]
    refine hr.wr ?_
    have : (n + m) * size ≤ c * size := Nat.mul_le_mul_right _ hf
    rw [Nat.add_mul] at this
    simp; omega
 ·intro s' w' hres
  cases hres with
  | fits hf =>
    cases h with
    | nil =>
      have : m = 0 := by simp at hf; omega
      subst this
      have : news = [] := List.length_eq_zero_iff.1 (by omega)
      subst this
      exact ⟨.nil, rfl, Below.refl _ _, fun _ _ _ => rfl, .inl rfl⟩
    | row g n c cs hg hr hc hn =>
      have hle : n * size + news.length ≤ cs.length := by
       have : (n + m) * size ≤ c * size := Nat.mul_le_mul_right _ hf
       rw [Nat.add_mul] at this
       omega
      rw [padd_row, Nat.zero_add, hr.setP hle h1]
      have hr' := hr.set (putCells cs (n * size) news)
      have e : cs.take (n * size) ++ news = (putCells cs (n * size) news).take ((n + m) * size) := by
       have e0 : (n + m) * size = n * size + news.length := by rw [Nat.add_mul, hl]
       rw [putCells_eq _ _ _ hle, e0]
       exact ((List.take_append_of_le_length (by simp; omega)).trans (List.take_of_length_le (by simp; omega))).symm
      refine ⟨?_, rfl, ⟨rfl, rfl, rfl, by rw [setRow_size]; exact Nat.le_refl _, fun k hk => setRow_other _ _ _ _ (by omega)⟩, fun j hj _ => setRow_other _ _ _ _ (fun e => hj (by rw [e]; rfl)), .inl rfl⟩
      rw [e]
      exact .row g (n + m) c _ hg hr' (by rw [putCells_length]; exact hc) hf
  | grows hg olds rest cap e1 e2 e3 e4 =>
    have ho : olds = xs := by
     have hrd := h.rd
     have hlen := h.len
     apply List.ext_getElem?
     intro i
     rcases Nat.lt_or_ge i xs.length with hi | hi
     ·have h1 := hrd i xs[i] (List.getElem?_eq_getElem hi)
      have hi' : i < olds.length := by omega
      have h2 := e2 i olds[i] (List.getElem?_eq_getElem hi')
      rw [h1] at h2
      rw [List.getElem?_eq_getElem hi, List.getElem?_eq_getElem hi']
      exact h2.symm
     ·rw [List.getElem?_eq_none hi, List.getElem?_eq_none (by omega)]
    subst ho
    have hnew := Row.new w.drew (olds ++ news ++ rest) E
    have hlen := h.len
    refine ⟨?_, rfl, ?_, fun j _ hj => Below.heap_alloc _ _ _ hj, .inr rfl⟩
    ·have e : olds ++ news = (olds ++ news ++ rest).take ((s.n + m) * size) := by
      have e0 : (s.n + m) * size = olds.length + news.length := by rw [Nat.add_mul, hl, e1]
      rw [e0]
      exact ((List.take_append_of_le_length (by simp)).trans (List.take_of_length_le (by simp))).symm
     conv => rhs; rw [e]
     exact .row w.heap.size (s.n + m) cap _ hB hnew (Nat.le_of_eq e4.symm) e3
    ·exact (Below.refl B w).drew.alloc hB _
theorem calls_of_eq {P : Program} {pre : Prop} (hP : NoNG P) (hm : P.follows .mixedOrders = true) {f : FuncId} {fn : Func} {an : Ann} {args : List Value} {w : World} {R : Ending → World → Prop} (hf : P.funcs[f]? = some fn)
  (h : pre) (e : pre = vcFn P an fn args w R) : Calls P f args.toArray w R := calls_of_vc hP hm hf (e ▸ h)
def ngB (P : Program) : Bool := P.funcs.toList.all fun fn => fn.name != "runtime.NumGoroutine"
theorem ngB_ok {P : Program} (h : ngB P = true) : NoNG P := fun f fn hf he => by
 have := List.all_eq_true.1 h fn (by have := Array.mem_of_getElem? hf; simpa using this)
 simp [he] at this
def inI (n : Int) : Prop := -9223372036854775808 ≤ n ∧ n ≤ 9223372036854775807
theorem wrap_in {n : Int} (h : inI n) : IntKind.wrap .i64 n = n := by
 unfold inI at h
 unfold IntKind.wrap
 simp only [IntKind.bits, IntKind.signed]
 simp only [Bool.true_and]
 split <;> simp_all <;> omega
theorem wrap_inI (n : Int) : inI (IntKind.wrap .i64 n) := by
 unfold inI IntKind.wrap
 simp only [IntKind.bits, IntKind.signed]
 simp only [Bool.true_and]
 split <;> simp_all <;> omega
def litVal {H : Type} : DataW H → Value
 | .lit (.int k n) => .int k n
 | .lit (.bool b) => .bool b
 | .lit (.string bs) => .string ⟨bs.toArray⟩
 | _ => .bool false
def aggCells {H : Type} : DataW H → List Value
 | .agg l => l.flatMap fun
   | .agg m => m.map litVal
   | d => [litVal d]
 | d => [litVal d]
def layAll (P : Program) (l : List (String × DataW Unit)) (w : World) : World :=
 { w with heap := l.foldl (fun h x => match P.globalNamed x.1 with
   | some g => h.modify g fun
     | .cells _ t frozen => .cells (aggCells x.2).toArray t frozen
     | o => o
   | none => h) w.heap }
end Go.Vc
namespace Go.Vc
open Go Go.RowKit
structure RdK (w : World) (s : Sl) (k : Nat) (rows : List (List Value)) : Prop where
 n : s.n = rows.length
 wd : ∀ r ∈ rows, r.length = k
 rd : ∀ i r, rows[i]? = some r → ∀ j v, r[j]? = some v → ld w (padd s.a (i * k + j)) = some v
theorem RdK.ext {w w' : World} {s : Sl} {k : Nat} {rows : List (List Value)} (h : RdK w s k rows) (he : Ext w w') : RdK w' s k rows :=
 ⟨h.n, h.wd, fun i r hi j v hj => he.ld (h.rd i r hi j v hj)⟩
theorem RdK.isSome {w : World} {s : Sl} {k : Nat} {rows : List (List Value)} (h : RdK w s k rows) (hk : 0 < k) {i : Nat} (hi : i < rows.length) : s.a.isSome = true := by
 have hr : rows[i]? = some rows[i] := List.getElem?_eq_getElem hi
 have hl := h.wd _ (List.getElem_mem hi)
 have h0 : rows[i][0]? = some (rows[i][0]'(by omega)) := List.getElem?_eq_getElem (by omega)
 have := h.rd i _ hr 0 _ h0
 cases hs : s.a with
 | none => rw [hs] at this; simp [ld, padd] at this
 | some a => rfl
theorem RdK.inB {w : World} {s : Sl} {k : Nat} {rows : List (List Value)} (h : RdK w s k rows) (hk : 0 < k) {i : Int} (h0 : 0 ≤ i) (h1 : i < (s.n : Int)) : InB s.a i s.n :=
 ⟨h.isSome hk (i := i.toNat) (by have := h.n; omega), h0, h1⟩
theorem RdK.at {w : World} {s : Sl} {k : Nat} {rows : List (List Value)} (h : RdK w s k rows) {i : Nat} {r : List Value} (hi : rows[i]? = some r) {j : Nat} {v : Value} (hj : r[j]? = some v) : ld w (padd (padd s.a (i * k)) j) = some v := by
 rw [padd_padd]; exact h.rd i r hi j v hj
theorem LoadL_of {w : World} {p : Option Addr} : ∀ {vs : List Value} {i : Nat}, (∀ j v, vs[j]? = some v → ld w (padd p (i + j)) = some v) → LoadL w p i vs
 | [], _, _ => trivial
 | [v], i, h => by have := h 0 v rfl; simpa [LoadL] using this
 | v :: u :: r, i, h => ⟨by have := h 0 v rfl; simpa using this, LoadL_of (i := i + 1) fun j x hj => by
   have := h (j + 1) x (by simpa using hj)
   rwa [show i + (j + 1) = i + 1 + j from by omega] at this⟩
theorem RdK.loadL {w : World} {s : Sl} {k : Nat} {rows : List (List Value)} (h : RdK w s k rows) {i : Nat} {r : List Value} (hi : rows[i]? = some r) : LoadL w (padd s.a (i * k)) 0 r :=
 LoadL_of fun j v hj => by rw [Nat.zero_add]; exact h.at hi hj
theorem flatten_get {k : Nat} : ∀ {rows : List (List Value)}, (∀ r ∈ rows, r.length = k) → ∀ {i : Nat} {r : List Value}, rows[i]? = some r → ∀ {j : Nat}, j < k → rows.flatten[i * k + j]? = r[j]?
 | [], _, i, r, hi, j, _ => by simp at hi
 | a :: rows, h, 0, r, hi, j, hj => by
   simp at hi; subst hi
   have := h a (.head _)
   rw [List.flatten_cons, List.getElem?_append_left (by omega)]
   simp
 | a :: rows, h, i + 1, r, hi, j, hj => by
   have ha := h a (.head _)
   rw [List.flatten_cons, List.getElem?_append_right (by rw [ha, Nat.succ_mul]; omega)]
   rw [show (i + 1) * k + j - a.length = i * k + j from by rw [ha, Nat.succ_mul]; omega]
   exact flatten_get (fun r hr => h r (.tail _ hr)) (by simpa using hi) hj
theorem flatten_len {k : Nat} : ∀ {rows : List (List Value)}, (∀ r ∈ rows, r.length = k) → rows.flatten.length = rows.length * k
 | [], _ => by simp
 | a :: rows, h => by
   rw [List.flatten_cons, List.length_append, flatten_len (fun r hr => h r (.tail _ hr)), h a (.head _), List.length_cons, Nat.succ_mul, Nat.add_comm]
structure OwnK (B E k : Nat) (w : World) (s : Sl) (rows : List (List Value)) : Prop where
 own : Own B E k w s rows.flatten
 wd : ∀ r ∈ rows, r.length = k
theorem OwnK.rd {B E k : Nat} {w : World} {s : Sl} {rows : List (List Value)} (h : OwnK B E k w s rows) (hk : 0 < k) : RdK w s k rows := by
 refine ⟨?_, h.wd, fun i r hi j v hj => ?_⟩
 ·have h1 := h.own.len
  rw [flatten_len h.wd] at h1
  exact (Nat.eq_of_mul_eq_mul_right hk h1).symm
 ·have hl := h.wd r (List.mem_of_getElem? hi)
  have hjk : j < k := by rw [← hl]; exact (List.getElem?_eq_some_iff.1 hj).1
  exact h.own.rd _ _ ((flatten_get h.wd hi hjk).trans hj)
theorem OwnK.nil {B E k : Nat} {w : World} : OwnK B E k w ⟨none, 0, 0⟩ [] := ⟨.nil, fun _ h => by cases h⟩
theorem OwnK.ext {B E k : Nat} {w w' : World} {s : Sl} {rows : List (List Value)} (h : OwnK B E k w s rows) (he : Ext w w') : OwnK B E k w' s rows := ⟨h.own.ext he, h.wd⟩
theorem OwnK.keep {B E k : Nat} {w w' : World} {s : Sl} {rows : List (List Value)} (h : OwnK B E k w s rows) (hk : ∀ g, s.blk = some g → w'.heap[g]? = w.heap[g]?) : OwnK B E k w' s rows := ⟨h.own.keep hk, h.wd⟩
theorem OwnK.low {B B' E k : Nat} {w : World} {s : Sl} {rows : List (List Value)} (h : OwnK B E k w s rows) (hb : B' ≤ B) : OwnK B' E k w s rows := by
 refine ⟨?_, h.wd⟩
 have ho := h.own
 generalize rows.flatten = xs at ho
 cases ho with
 | nil => exact .nil
 | row g n c cs hg hr hc hn => exact .row g n c cs (by omega) hr hc hn
theorem OwnK.append {B E k bytes : Nat} {w : World} {s : Sl} {rows : List (List Value)} (h : OwnK B E k w s rows) {news : List Value} (hB : B ≤ w.heap.size) (hl : news.length = k) (h1 : One news)
  (hb : (s.n + 1) * bytes ≤ 140737488355328) (hb' : s.n + 1 ≤ 9223372036854775807) :
  AppPre bytes k w s 1 news ∧ ∀ (s' : Sl) (w' : World), AppRes E k w s 1 news s' w' →
   OwnK B E k w' s' (rows ++ [news]) ∧ s'.n = s.n + 1 ∧ Below B w w' ∧ (∀ j, s.blk ≠ some j → j < w.heap.size → w'.heap[j]? = w.heap[j]?) ∧ (s'.blk = s.blk ∨ s'.blk = some w.heap.size) := by
 obtain ⟨hp, hr⟩ := h.own.append (bytes := bytes) (m := 1) (news := news) hB (by rw [hl, Nat.one_mul]) h1 hb hb'
 refine ⟨hp, fun s' w' hres => ?_⟩
 obtain ⟨ho, hn, hx, hk, hbk⟩ := hr s' w' hres
 refine ⟨⟨by rw [List.flatten_append]; simpa using ho, fun r hr => ?_⟩, hn, hx, hk, hbk⟩
 rcases List.mem_append.1 hr with hr | hr
 ·exact h.wd r hr
 ·simp at hr; rw [hr]; exact hl
theorem Own.set {B E size : Nat} {w : World} {s : Sl} {xs : List Value} (h : Own B E size w s xs) {m : Nat} {v : Value} (hm : m < xs.length) (hv : v.oneCell' = true) :
  (padd s.a m).isSome = true ∧ Wr w (padd s.a m) 1 ∧ Own B E size (setP w (padd s.a m) [v]) s (xs.set m v) ∧ (∀ j, s.blk ≠ some j → (setP w (padd s.a m) [v]).heap[j]? = w.heap[j]?) := by
 cases h with
 | nil => simp at hm
 | row g n c cs hg hr hc hn =>
   rw [List.length_take] at hm
   rw [padd_row]
   have h1 : One [v] := by intro u hu; simp at hu; subst hu; exact hv
   have hs := hr.setP (o := 0 + m) (vs := [v]) (by simp; omega) h1
   refine ⟨rfl, hr.wr (by omega), ?_, fun j hj => ?_⟩
   ·rw [← List.take_set]
    rw [hs]
    refine .row g n c _ hg ?_ (by simpa using hc) hn
    have e : putCells cs (0 + m) [v] = cs.set m v := by simp [putCells]
    rw [e]
    exact hr.set (cs.set m v)
   ·rw [hs]
    exact setRow_other _ _ _ _ (fun e => hj (by rw [e]; rfl))
end Go.Vc
namespace Go.Vc
open Go Go.RowKit
theorem Below.setP {B : Nat} {a b : World} (h : Below B a b) {p : Option Addr} {vs : List Value} (hp : ∀ x, p = some x → B ≤ x.block) : Below B a (setP b p vs) := by
 cases p with
 | none => exact h
 | some x =>
   have hx := hp x rfl
   show Below B a (setCs b x 0 vs)
   have key : ∀ (vs : List Value) (i : Nat) (b : World), Below B a b → Below B a (setCs b x i vs) := by
    intro vs
    induction vs with
    | nil => intro i b h; exact h
    | cons v r ih =>
      intro i b h
      refine ih _ _ (Below.setCell h ?_ _)
      unfold Addr.add; split <;> exact hx
   exact key vs 0 b h
theorem one_i (k : IntKind) (a : Int) : One [.int k a] := by intro v hv; simp at hv; subst hv; rfl
theorem one_ii (k k' : IntKind) (a b : Int) : One [.int k a, .int k' b] := by
 intro v hv; simp at hv
 rcases hv with rfl | rfl <;> rfl
theorem OwnK.app1 {B E k bytes : Nat} {w : World} {s : Sl} {rows : List (List Value)} (h : OwnK B E k w s rows) {news : List Value} (o : Obj) (hB : B ≤ w.heap.size) (hl : news.length = k) (h1 : One news)
  (hb : (s.n + 1) * bytes ≤ 140737488355328) (hb' : s.n + 1 ≤ 9223372036854775807) :
  AppPre bytes k (w.alloc o) s 1 news ∧ ∀ (s' : Sl) (w' : World), AppRes E k (w.alloc o) s 1 news s' w' →
   w'.heap[w.heap.size]? = (w.alloc o).heap[w.heap.size]? ∧ OwnK B E k w' s' (rows ++ [news]) ∧ s'.n = s.n + 1 ∧ Below B w w' ∧ (∀ j, s.blk ≠ some j → j < w.heap.size → w'.heap[j]? = w.heap[j]?) ∧ (s'.blk = s.blk ∨ s'.blk = some (w.heap.size + 1)) := by
 have xa := Ext.al w o
 obtain ⟨hp, hr⟩ := (h.ext xa).append (bytes := bytes) (news := news) (Nat.le_trans hB xa.size) hl h1 hb hb'
 refine ⟨hp, fun s' w' hres => ?_⟩
 obtain ⟨ho, hn, hx, hk, hbk⟩ := hr s' w' hres
 have hz : (w.alloc o).heap.size = w.heap.size + 1 := by simp
 refine ⟨hk _ (fun hb => absurd (h.own.lt hb).2 (Nat.lt_irrefl _)) (by simp), ho, hn, (Below.mono xa hB).trans hx, fun j hj hlt => ?_, by rw [← hz]; exact hbk⟩
 rw [hk j hj (by omega)]
 exact xa.heap hlt
theorem OwnK.set {B E k : Nat} {w : World} {s : Sl} {rows : List (List Value)} (h : OwnK B E k w s rows) {i j : Nat} {r : List Value} {v : Value} (hi : rows[i]? = some r) (hj : j < k) (hv : v.oneCell' = true) (hB : B ≤ w.heap.size) :
  (padd (padd s.a (i * k)) j).isSome = true ∧ Wr w (padd (padd s.a (i * k)) j) 1 ∧ OwnK B E k (setP w (padd (padd s.a (i * k)) j) [v]) s (rows.set i (r.set j v)) ∧
   Below B w (setP w (padd (padd s.a (i * k)) j) [v]) ∧ (∀ m, s.blk ≠ some m → (setP w (padd (padd s.a (i * k)) j) [v]).heap[m]? = w.heap[m]?) := by
 have hlen := flatten_len h.wd
 have hil : i < rows.length := (List.getElem?_eq_some_iff.1 hi).1
 have hm : i * k + j < rows.flatten.length := by
  rw [hlen]
  have : (i + 1) * k ≤ rows.length * k := Nat.mul_le_mul_right _ hil
  rw [Nat.succ_mul] at this
  omega
 obtain ⟨h1, h2, h3, h4⟩ := h.own.set (v := v) hm hv
 rw [padd_padd]
 refine ⟨h1, h2, ⟨?_, fun q hq => ?_⟩, ?_, h4⟩
 ·have e : (rows.set i (r.set j v)).flatten = rows.flatten.set (i * k + j) v := by
   have hw := h.wd
   clear h h1 h2 h3 h4 hm hlen hv
   induction rows generalizing i with
   | nil => simp at hi
   | cons a rows ih =>
     have ha := hw a (.head _)
     cases i with
     | zero =>
       simp at hi; subst hi
       simp only [List.set_cons_zero, List.flatten_cons, Nat.zero_mul, Nat.zero_add]
       rw [List.set_append_left _ _ (by omega)]
     | succ i =>
       simp only [List.set_cons_succ, List.flatten_cons]
       rw [List.set_append_right _ _ (by rw [ha, Nat.succ_mul]; omega), show (i + 1) * k + j - a.length = i * k + j from by rw [ha, Nat.succ_mul]; omega]
       rw [ih (by simpa using hi) (by simpa using hil) (fun r hr => hw r (.tail _ hr))]
  rw [e]; exact h3
 ·rcases List.mem_or_eq_of_mem_set hq with hq | rfl
  ·exact h.wd q hq
  ·rw [List.length_set]; exact h.wd r (List.mem_of_getElem? hi)
 ·refine Below.setP (Below.refl _ _) fun x hx => ?_
  have ho := h.own
  generalize rows.flatten = xs at ho
  cases ho with
  | nil => simp [padd] at hx
  | row g n c cs hg hr hc hn => simp [padd, add_loc] at hx; subst hx; exact hg
end Go.Vc
namespace Go.Vc
open Go Go.RowKit
theorem AppRes_zero {E size : Nat} {w w' : World} {a : Option Addr} {n : Nat} {news : List Value} {s' : Sl} (h : AppRes E size w ⟨a, 0, 0⟩ n news s' w') (hl : news.length = n * size) {j : Nat} (hj : j < w.heap.size) : w'.heap[j]? = w.heap[j]? := by
 cases h with
 | fits hf =>
   have : n = 0 := by simp at hf; omega
   subst this
   have : news = [] := List.eq_nil_of_length_eq_zero (by omega)
   subst this
   cases hp : padd a (0 * size) with
   | none => simp [hp, Go.Vc.setP]
   | some x => simp only [hp, Go.Vc.setP]; rfl
 | grows hf olds rest cap h1 h2 h3 h4 => exact ((Ext.dr w).tr (Ext.al _ _)).heap hj
theorem RdK.flat {w : World} {s : Sl} {k : Nat} {rows : List (List Value)} (h : RdK w s k rows) (hk : 0 < k) : Rd w s.a rows.flatten := by
 intro i v hi
 have hil : i < rows.flatten.length := (List.getElem?_eq_some_iff.1 hi).1
 rw [flatten_len h.wd] at hil
 have hik : i / k < rows.length := Nat.div_lt_of_lt_mul (by rw [Nat.mul_comm]; exact hil)
 have hr : rows[i / k]? = some rows[i / k] := List.getElem?_eq_getElem hik
 have hm : i % k < k := Nat.mod_lt _ hk
 have e : i / k * k + i % k = i := by rw [Nat.mul_comm]; exact Nat.div_add_mod i k
 have := flatten_get h.wd hr hm
 rw [e, hi] at this
 have := h.rd _ _ hr _ v this.symm
 rwa [e] at this
theorem One_flatten {rows : List (List Value)} (h : ∀ r ∈ rows, One r) : One rows.flatten := by
 intro v hv
 obtain ⟨r, hr, hvr⟩ := List.mem_flatten.1 hv
 exact h r hr v hvr
end Go.Vc
namespace Go.Vc
open Go Go.RowKit
theorem padd_slBase (a : Option Addr) (m size j : Nat) : padd (slBase a 0 m size) j = padd a j := by
 unfold slBase
 split
 ·rfl
 ·show padd (padd a (0 * size)) j = _
  rw [padd_padd]; simp
theorem RdK.cut {w : World} {s : Sl} {k : Nat} {rows : List (List Value)} (h : RdK w s k rows) {m c' c'' : Nat} (hm : m ≤ rows.length) : RdK w ⟨slBase s.a 0 c' k, m, c''⟩ k (rows.take m) := by
 refine ⟨by simp; omega, fun r hr => h.wd r (List.mem_of_mem_take hr), fun i r hi j v hj => ?_⟩
 show ld w (padd (slBase s.a 0 c' k) _) = _
 rw [padd_slBase]
 rw [List.getElem?_take] at hi
 split at hi
 ·exact h.rd i r hi j v hj
 ·cases hi
end Go.Vc
namespace Go.Vc
open Go Go.RowKit
theorem OwnK.appN {B E k bytes : Nat} {w : World} {s : Sl} {rows more : List (List Value)} (h : OwnK B E k w s rows) (hB : B ≤ w.heap.size) (hl : ∀ r ∈ more, r.length = k) (h1 : ∀ r ∈ more, One r)
  (hb : (s.n + more.length) * bytes ≤ 140737488355328) (hb' : s.n + more.length ≤ 9223372036854775807) :
  AppPre bytes k w s more.length more.flatten ∧ ∀ (s' : Sl) (w' : World), AppRes E k w s more.length more.flatten s' w' →
   OwnK B E k w' s' (rows ++ more) ∧ s'.n = s.n + more.length ∧ Below B w w' ∧ (∀ j, s.blk ≠ some j → j < w.heap.size → w'.heap[j]? = w.heap[j]?) ∧ (s'.blk = s.blk ∨ s'.blk = some w.heap.size) := by
 obtain ⟨hp, hr⟩ := h.own.append (bytes := bytes) (m := more.length) (news := more.flatten) hB (flatten_len hl) (One_flatten h1) hb hb'
 refine ⟨hp, fun s' w' hres => ?_⟩
 obtain ⟨ho, hn, hx, hk, hbk⟩ := hr s' w' hres
 refine ⟨⟨by rw [List.flatten_append]; exact ho, fun r hr => ?_⟩, hn, hx, hk, hbk⟩
 rcases List.mem_append.1 hr with hr | hr
 ·exact h.wd r hr
 ·exact hl r hr
end Go.Vc
namespace Go.Vc
open Go Go.RowKit
theorem RdK.rest {w : World} {s : Sl} {k : Nat} {rows : List (List Value)} (h : RdK w s k rows) {l m n' c' : Nat} (hn : n' = rows.length - l) (hm : m = l → rows.length ≤ l) : RdK w ⟨slBase s.a l m k, n', c'⟩ k (rows.drop l) := by
 refine ⟨by simpa using hn, fun r hr => h.wd r (List.mem_of_mem_drop hr), fun i r hi j v hj => ?_⟩
 rw [List.getElem?_drop] at hi
 show ld w (padd (slBase s.a l m k) _) = _
 unfold slBase
 split
 ·rename_i e
  have := hm e
  rw [List.getElem?_eq_none (by omega)] at hi; cases hi
 ·show ld w (padd (padd s.a (l * k)) _) = _
  rw [padd_padd]
  have := h.rd (l + i) r hi j v hj
  rwa [Nat.add_mul, Nat.add_assoc] at this
end Go.Vc
namespace Go.Vc
open Go Go.RowKit
theorem callV_mono {P : Program} {fv : Value} {args : List Value} {w : World} {R R' : Ending → World → Prop} (h : callV P fv args w R) (hr : ∀ e w', R e w' → R' e w') : callV P fv args w R' := by
 unfold callV at h ⊢
 split at h
 ·split at h
  ·exact h.mono hr
  ·obtain ⟨e, he, v, w', h1, h2⟩ := h
   exact ⟨e, he, v, w', h1, hr _ _ h2⟩
 ·obtain ⟨h1, fn, tmps, assign, body, h2, h3⟩ := h
  exact ⟨h1, fn, tmps, assign, body, h2, h3.mono hr⟩
 ·exact h.elim
theorem callV_fn {P : Program} {f : FuncId} {first cap : Array Value} {args : List Value} {w : World} {R : Ending → World → Prop} (hb : hasBody P f = true) (h : Calls P f (first.toList ++ args ++ cap.toList).toArray w R) :
  callV P (.func (.func f) first cap) args w R := by
 unfold callV
 simp only [hb]
 exact h
theorem callV_of {P : Program} {f : FuncId} {first cap : Array Value} {args : List Value} {w : World} {R : Ending → World → Prop} {as : Array Value} (hb : hasBody P f = true) (ha : (first.toList ++ args ++ cap.toList).toArray = as) (h : Calls P f as w R) :
  callV P (.func (.func f) first cap) args w R := callV_fn hb (by rw [ha]; exact h)
theorem isNilF_func (fn : Fn) (a b : Array Value) : isNilF (.func fn a b) = false := rfl
theorem fnC_func (fn : Fn) (a b : Array Value) : fnC (.func fn a b) = [] := rfl
structure Mod (F : Nat → Prop) (w w' : World) : Prop where
 os : w'.os = w.os
 tape : w'.tape = w.tape
 output : w'.output = w.output
 size : w.heap.size ≤ w'.heap.size
 same : ∀ i, i < w.heap.size → ¬ F i → w'.heap[i]? = w.heap[i]?
theorem Mod.refl (F : Nat → Prop) (w : World) : Mod F w w := ⟨rfl, rfl, rfl, Nat.le_refl _, fun _ _ _ => rfl⟩
theorem Mod.of_ext {F : Nat → Prop} {w w' : World} (h : Ext w w') : Mod F w w' := ⟨h.os, h.tape, h.output, h.size, fun i hi _ => h.block i hi⟩
theorem Mod.trans {F : Nat → Prop} {a b c : World} (h : Mod F a b) (k : Mod F b c) : Mod F a c :=
 ⟨k.os.trans h.os, k.tape.trans h.tape, k.output.trans h.output, Nat.le_trans h.size k.size, fun i hi hn => (k.same i (Nat.lt_of_lt_of_le hi h.size) hn).trans (h.same i hi hn)⟩
theorem Mod.mono {F F' : Nat → Prop} {a b : World} (h : Mod F a b) (hs : ∀ i, i < a.heap.size → F i → F' i) : Mod F' a b := ⟨h.os, h.tape, h.output, h.size, fun i hi hn => h.same i hi fun hf => hn (hs i hi hf)⟩
theorem Mod.tr {F F' : Nat → Prop} {a b c : World} (h : Mod F a b) (k : Mod F' b c) (hs : ∀ i, F' i → F i ∨ a.heap.size ≤ i) : Mod F a c :=
 ⟨k.os.trans h.os, k.tape.trans h.tape, k.output.trans h.output, Nat.le_trans h.size k.size, fun i hi hn => (k.same i (Nat.lt_of_lt_of_le hi h.size) fun hf => by
  rcases hs i hf with hf | hf
  ·exact hn hf
  ·omega).trans (h.same i hi hn)⟩
theorem Mod.below {F : Nat → Prop} {B : Nat} {w w' : World} (h : Mod F w w') (hB : B ≤ w.heap.size) (hF : ∀ i, F i → B ≤ i) : Below B w w' := ⟨h.os, h.tape, h.output, h.size, fun i hi => h.same i (by omega) fun hf => by have := hF i hf; omega⟩
theorem Mod.ext {F : Nat → Prop} {w0 w w' : World} (h : Mod F w w') (x : Ext w0 w) (hF : ∀ i, F i → w0.heap.size ≤ i) : Ext w0 w' := x.trans (h.below x.size hF)
theorem Mod.of_rec {r : Nat} {w w' : World} (h : Rec r w w') : Mod (fun i => i = r) w w' := ⟨h.os, h.tape, h.output, Nat.le_of_eq h.size.symm, fun i _ hn => h.same i hn⟩
theorem ld_same {w w' : World} {p : Option Addr} (h : ∀ b, pblk p = some b → w'.heap[b]? = w.heap[b]?) : ld w' p = ld w p := by
 cases p with
 | none => rfl
 | some a =>
   show w'.cell? a = w.cell? a
   have := h a.block rfl
   simp only [World.cell?, this]
theorem RdK.same {w w' : World} {s : Sl} {k : Nat} {rows : List (List Value)} (h : RdK w s k rows) (hs : ∀ b, s.blk = some b → w'.heap[b]? = w.heap[b]?) : RdK w' s k rows :=
 ⟨h.n, h.wd, fun i r hi j v hj => by
  rw [ld_same fun b hb => hs b (by rw [pblk_padd] at hb; exact hb)]
  exact h.rd i r hi j v hj⟩
end Go.Vc
namespace Go.Vc
open Go Go.RowKit
theorem RdK.blk_lt {w : World} {s : Sl} {k : Nat} {rows : List (List Value)} (h : RdK w s k rows) (hk : 0 < k) (hne : rows ≠ []) {b : Nat} (hb : s.blk = some b) : b < w.heap.size := by
 cases rows with
 | nil => exact absurd rfl hne
 | cons r rows =>
   have hl := h.wd r (.head _)
   have h0 : r[0]? = some (r[0]'(by omega)) := List.getElem?_eq_getElem (by omega)
   have := h.rd 0 r rfl 0 _ h0
   cases ha : s.a with
   | none => rw [ha] at this; simp [ld, padd] at this
   | some a =>
     rw [ha] at this
     have hlt := cell_lt (w := w) (a := a.add (0 * k + 0)) this
     have : (a.add (0 * k + 0)).block = a.block := by unfold Addr.add; split <;> rfl
     rw [this] at hlt
     simp [Sl.blk, ha] at hb
     omega
theorem RdK.same' {w w' : World} {s : Sl} {k : Nat} {rows : List (List Value)} (h : RdK w s k rows) (hs : rows ≠ [] → ∀ b, s.blk = some b → w'.heap[b]? = w.heap[b]?) : RdK w' s k rows := by
 cases rows with
 | nil => exact ⟨h.n, h.wd, fun i r hi => by simp at hi⟩
 | cons r rows => exact h.same (hs (by simp))
end Go.Vc
namespace Go.Vc
open Go Go.RowKit
end Go.Vc
namespace Go.Vc
open Go Go.RowKit
theorem OwnK.form {B E k : Nat} {w : World} {s : Sl} {rows : List (List Value)} (h : OwnK B E k w s rows) (hk : 0 < k) : (s = ⟨none, 0, 0⟩ ∧ rows = []) ∨
  ∃ g cs, s.a = some ⟨g, 0, none⟩ ∧ B ≤ g ∧ Row w g cs E ∧ s.c * k ≤ cs.length ∧ s.n ≤ s.c ∧ cs.take (s.n * k) = rows.flatten ∧ s.n = rows.length := by
 have hn := (h.rd hk).n
 have ho := h.own
 have hf := flatten_len h.wd
 generalize hx : rows.flatten = xs at ho hf
 cases ho with
 | nil => exact .inl ⟨rfl, List.eq_nil_of_length_eq_zero (by rw [← hn])⟩
 | row g n c cs hg hr hc hn' => exact .inr ⟨g, cs, rfl, hg, hr, hc, hn', rfl, hn⟩
theorem OwnK.of_row {B E k : Nat} {w : World} {g n c : Nat} {cs : List Value} {rows : List (List Value)} (hg : B ≤ g) (hr : Row w g cs E) (hc : c * k ≤ cs.length) (hn : n ≤ c) (ht : cs.take (n * k) = rows.flatten) (hw : ∀ r ∈ rows, r.length = k) :
  OwnK B E k w ⟨some ⟨g, 0, none⟩, n, c⟩ rows := ⟨by rw [← ht]; exact .row g n c cs hg hr hc hn, hw⟩
theorem slBase_zero (a : Option Addr) (m size : Nat) : slBase a 0 m size = a := by
 unfold slBase
 split
 ·rfl
 ·cases a <;> simp [Addr.add]
theorem Row.ne {w : World} {g g' : Nat} {cs cs' : List Value} {E E' : TypeId} (hr : Row w g cs E) (hr' : Row w g' cs' E') (hE : E ≠ E') : g ≠ g' := by
 rintro rfl
 have := hr.symm.trans hr'
 simp at this
 exact hE this.2
theorem Row.ne_map {w : World} {g r : Nat} {cs : List Value} {E : TypeId} {G : Value → Prop} {kvs : List (Value × Value)} (hr : Row w g cs E) (hm : MapIs G w (some r) kvs) : g ≠ r := by
 rintro rfl
 exact hm.not_cells _ _ _ hr
theorem MapIs.same {w w' : World} {G : Value → Prop} {r : Nat} {kvs : List (Value × Value)} (hm : MapIs G w (some r) kvs) (h : w'.heap[r]? = w.heap[r]?) : MapIs G w' (some r) kvs := by
 obtain ⟨es, c, h1, h2⟩ := hm
 exact ⟨es, c, h.trans h1, h2⟩
theorem MapIs.lt {w : World} {G : Value → Prop} {r : Nat} {kvs : List (Value × Value)} (hm : MapIs G w (some r) kvs) : r < w.heap.size := by
 obtain ⟨es, c, h1, h2⟩ := hm
 exact (Array.getElem?_eq_some_iff.1 h1).1
theorem MapIs.new {w : World} {G : Value → Prop} : MapIs G (w.alloc (.map #[] 0)) (some w.heap.size) [] :=
 ⟨#[], 0, World.alloc_heap_new w _, rfl, by simp, by simp, by simp, by simp⟩
end Go.Vc
namespace Go.Vc
open Go Go.RowKit
theorem take_flatten {k : Nat} : ∀ {rows : List (List Value)} (m : Nat), (∀ r ∈ rows, r.length = k) → rows.flatten.take (m * k) = (rows.take m).flatten
 | [], m, _ => by simp
 | r :: rows, 0, _ => by simp
 | r :: rows, m + 1, hw => by
   have hr := hw r (.head _)
   rw [List.take_succ_cons, List.flatten_cons, List.flatten_cons, show (m + 1) * k = r.length + m * k by rw [Nat.succ_mul, hr]; omega, List.take_append, List.take_of_length_le (by omega), Nat.add_sub_cancel_left, take_flatten m fun q hq => hw q (.tail _ hq)]
theorem OwnK.cut {B E k : Nat} {w : World} {s : Sl} {rows : List (List Value)} (h : OwnK B E k w s rows) (hk : 0 < k) {m : Nat} (hm : m ≤ rows.length) : OwnK B E k w ⟨slBase s.a 0 m k, m, m⟩ (rows.take m) := by
 rw [slBase_zero]
 rcases h.form hk with ⟨rfl, rfl⟩ | ⟨g, cs, ha, hg, hr, hc, hn, ht, hl⟩
 ·have : m = 0 := by simpa using hm
  subst this; exact .nil
 ·rw [ha]
  have h1 : m * k ≤ s.n * k := Nat.mul_le_mul_right _ (by omega)
  have h2 : s.n * k ≤ s.c * k := Nat.mul_le_mul_right _ hn
  refine OwnK.of_row hg hr (by omega) (Nat.le_refl _) ?_ (fun r hr => h.wd r (List.mem_of_mem_take hr))
  have e1 : cs.take (m * k) = (cs.take (s.n * k)).take (m * k) := by rw [List.take_take, Nat.min_eq_left h1]
  rw [e1, ht, take_flatten m h.wd]
end Go.Vc
namespace Go.Vc
open Go Go.RowKit
structure Turned (F F' : Nat → Prop) (w w' : World) : Prop where
 mod : Mod F w w'
 sub : ∀ i, F' i → F i ∨ w.heap.size ≤ i
theorem Turned.refl (F : Nat → Prop) (w : World) : Turned F F w w := ⟨Mod.refl _ _, fun _ h => .inl h⟩
theorem Turned.trans {F G H : Nat → Prop} {a b c : World} (h : Turned F G a b) (k : Turned G H b c) : Turned F H a c :=
 ⟨h.mod.tr k.mod h.sub, fun i hi => by
  rcases k.sub i hi with hg | hg
  ·exact h.sub i hg
  ·exact .inr (Nat.le_trans h.mod.size hg)⟩
theorem Turned.of_ext {F : Nat → Prop} {w w' : World} (h : Ext w w') : Turned F F w w' := ⟨Mod.of_ext h, fun _ h => .inl h⟩
theorem Turned.fresh {F F' : Nat → Prop} {w0 w w' : World} (h : Turned F F' w w') (x : Ext w0 w) (hF : ∀ i, F i → w0.heap.size ≤ i) : Ext w0 w' ∧ ∀ i, F' i → w0.heap.size ≤ i :=
 ⟨h.mod.ext x hF, fun i hi => by
  rcases h.sub i hi with hf | hf
  ·exact hF i hf
  ·exact Nat.le_trans x.size hf⟩
theorem Turned.apart {F F' G : Nat → Prop} {w w' : World} (h : Turned F F' w w') (hd : ∀ i, F i → ¬ G i) (hl : ∀ i, G i → i < w.heap.size) : ∀ i, F' i → ¬ G i := fun i hi hg => by
 rcases h.sub i hi with hf | hf
 ·exact hd i hf hg
 ·have := hl i hg; omega
theorem Mod.of_app {w w' : World} {s : Sl} (hb : Below 0 w w') (hk : ∀ j, s.blk ≠ some j → j < w.heap.size → w'.heap[j]? = w.heap[j]?) : Mod (fun i => s.blk = some i) w w' :=
 ⟨hb.os, hb.tape, hb.output, hb.size, fun i hi hn => hk i hn hi⟩
theorem Mod.row {F : Nat → Prop} {w w' : World} (h : Mod F w w') {g : Nat} {cs : List Value} {t : TypeId} (hr : Row w g cs t) (hn : ¬ F g) : Row w' g cs t := hr.same (h.same g hr.lt hn)
theorem Mod.ownK {F : Nat → Prop} {w w' : World} (h : Mod F w w') {B E k : Nat} {s : Sl} {rows : List (List Value)} (ho : OwnK B E k w s rows) (hn : ∀ b, s.blk = some b → ¬ F b) : OwnK B E k w' s rows :=
 ho.keep fun b hb => h.same b (ho.own.lt hb).2 (hn b hb)
theorem Mod.map {F : Nat → Prop} {w w' : World} (h : Mod F w w') {G : Value → Prop} {r : Nat} {kvs : List (Value × Value)} (hm : MapIs G w (some r) kvs) (hn : ¬ F r) : MapIs G w' (some r) kvs := hm.same (h.same r hm.lt hn)
theorem Mod.rdK {F : Nat → Prop} {w w' : World} (h : Mod F w w') {s : Sl} {k : Nat} {rows : List (List Value)} (hk : 0 < k) (hr : RdK w s k rows) (hn : rows ≠ [] → ∀ b, s.blk = some b → ¬ F b) : RdK w' s k rows :=
 hr.same' fun hne b hb => h.same b (hr.blk_lt hk hne hb) (hn hne b hb)
theorem Row.at {w : World} {g : Nat} {cs : List Value} {E : TypeId} (hr : Row w g cs E) (j : Nat) {v : Value} (h : cs[j]? = some v) : Vc.ld w (padd (some ⟨g, 0, none⟩) j) = some v := by
 rw [padd_row, hr.ld, Nat.zero_add]; exact h
theorem Row.put1 {w : World} {g : Nat} {cs : List Value} {E : TypeId} (hr : Row w g cs E) {j : Nat} {v : Value} (hj : j < cs.length) (hv : v.oneCell' = true) :
  Wr w (padd (some ⟨g, 0, none⟩) j) 1 ∧ ∀ w', w' = Vc.setP w (padd (some ⟨g, 0, none⟩) j) [v] → Row w' g (putCells cs j [v]) E ∧ Mod (fun i => i = g) w w' := by
 rw [padd_row, Nat.zero_add]
 have h1 : One [v] := by intro u hu; simp at hu; subst hu; exact hv
 refine ⟨hr.wr (by omega), fun w' e => ?_⟩
 rw [hr.setP (by simp; omega) h1] at e
 subst e
 exact ⟨hr.set _, rfl, rfl, rfl, by rw [setRow_size]; exact Nat.le_refl _, fun i _ hn => setRow_other _ _ _ _ hn⟩
theorem own_row {B E k : Nat} {w : World} {s : Sl} {rows : List (List Value)} (h : OwnK B E k w s rows) (hk : 0 < k) {b : Nat} (hb : s.blk = some b) : ∃ cs, Row w b cs E := by
 rcases h.form hk with ⟨hs, -⟩ | ⟨g0, cs, ha, hg0, hr, -⟩
 ·rw [hs] at hb; cases hb
 ·unfold Sl.blk at hb; rw [ha] at hb
  have : g0 = b := by simpa using hb
  exact ⟨cs, this ▸ hr⟩
end Go.Vc
