import Derived.Test.YtjcnjlaelhdjeaaGreatDoorB
import Derived.Lib.Overlaps
set_option linter.all false
namespace Go.Vc
open Go Go.RowKit
abbrev Ext (w w' : World) : Prop := Below w.heap.size w w'
theorem Ext.rfl' (w : World) : Ext w w := Below.refl _ _
theorem Ext.tr {a b c : World} (h : Ext a b) (k : Ext b c) : Ext a c := Below.trans h (Below.mono k h.size)
theorem Ext.al (w : World) (o : Obj) : Ext w (w.alloc o) := (Below.refl _ w).alloc (Nat.le_refl _) o
theorem Ext.dr (w : World) : Ext w w.drew := (Below.refl _ w).drew
theorem Ext.of_alloc {a b c : World} {o : Obj} (h : Ext a b) (e : c = b.alloc o) : Ext a c := by subst e; exact h.tr (Ext.al _ _)
theorem Ext.drew {a b : World} (h : Ext a b) : Ext a b.drew := h.tr (Ext.dr _)
theorem setRow_other (w : World) (g j : Nat) (cs : Array Value) (h : j ≠ g) : (w.setRow g cs).heap[j]? = w.heap[j]? := by
 simp only [World.setRow, Array.getElem?_modify, if_neg (Ne.symm h)]
theorem setRow_size (w : World) (g : Nat) (cs : Array Value) : (w.setRow g cs).heap.size = w.heap.size := by simp [World.setRow]
theorem Ext.setRow {a b : World} (h : Ext a b) {g : Nat} (hg : a.heap.size ≤ g) (cs : Array Value) : Ext a (b.setRow g cs) :=
 ⟨h.os, h.tape, h.output, by rw [setRow_size]; exact h.size, fun k hk => by rw [setRow_other _ _ _ _ (by omega)]; exact h.block k hk⟩
theorem Ext.of_setRow {a b c : World} {g : Nat} {cs : Array Value} (h : Ext a b) (e : c = b.setRow g cs) (hg : a.heap.size ≤ g) : Ext a c := by subst e; exact h.setRow hg cs
theorem cell_lt {w : World} {a : Addr} {v : Value} (h : w.cell? a = some v) : a.block < w.heap.size := by
 unfold World.cell? at h
 split at h
 ·rename_i hb; exact (Array.getElem?_eq_some_iff.1 hb).1
 ·cases h
theorem Ext.ld {w w' : World} (h : Ext w w') {p : Option Addr} {v : Value} (hl : ld w p = some v) : ld w' p = some v := by
 cases p with
 | none => simp [Vc.ld] at hl
 | some a =>
   have hl' : w.cell? a = some v := hl
   show w'.cell? a = some v
   rw [Below.cell h (cell_lt hl')]; exact hl'
theorem Ext.heap {w w' : World} (h : Ext w w') {i : Nat} (hi : i < w.heap.size) : w'.heap[i]? = w.heap[i]? := h.block i hi
theorem padd_padd (p : Option Addr) (m n : Nat) : padd (padd p m) n = padd p (m + n) := by
 cases p with
 | none => rfl
 | some a =>
   simp only [padd, Option.map_some, Option.some.injEq, Addr.add]
   by_cases hm : m = 0
   ·subst hm; simp
   ·by_cases hn : n = 0
    ·subst hn; simp [hm]
    ·simp [hm, hn, Nat.add_assoc]
@[simp] theorem padd_isSome (p : Option Addr) (n : Nat) : (padd p n).isSome = p.isSome := by cases p <;> rfl
theorem pblk_padd (p : Option Addr) (n : Nat) : pblk (padd p n) = pblk p := by
 cases p with
 | none => rfl
 | some a => simp only [padd, pblk, Option.map_some, Addr.add]; split <;> rfl
def Row (w : World) (g : Nat) (cs : List Value) (t : TypeId) : Prop := w.heap[g]? = some (.cells cs.toArray t (0, 0))
theorem Row.new (w : World) (cs : List Value) (t : TypeId) : Row (w.alloc (.cells cs.toArray t)) w.heap.size cs t := by
 show (w.heap.push _)[w.heap.size]? = _
 simp
theorem Row.lt {w : World} {g : Nat} {cs : List Value} {t : TypeId} (h : Row w g cs t) : g < w.heap.size := (Array.getElem?_eq_some_iff.1 h).1
theorem Row.ext {w w' : World} {g : Nat} {cs : List Value} {t : TypeId} (h : Row w g cs t) (he : Ext w w') : Row w' g cs t := (he.heap h.lt).trans h
theorem Row.same {w w' : World} {g : Nat} {cs : List Value} {t : TypeId} (h : Row w g cs t) (he : w'.heap[g]? = w.heap[g]?) : Row w' g cs t := he.trans h
theorem Row.set {w : World} {g : Nat} {cs : List Value} {t : TypeId} (h : Row w g cs t) (cs' : List Value) : Row (w.setRow g cs'.toArray) g cs' t := setRow_heap _ _ _ _ _ _ h
theorem Row.ld {w : World} {g : Nat} {cs : List Value} {t : TypeId} (h : Row w g cs t) (j : Nat) : ld w (some ⟨g, j, none⟩) = cs[j]? := by
 simp [Vc.ld, World.cell?, show w.heap[g]? = _ from h]
theorem padd_row (g o j : Nat) : padd (some ⟨g, o, none⟩) j = some ⟨g, o + j, none⟩ := by simp [padd, add_loc]
theorem Row.wr {w : World} {g : Nat} {cs : List Value} {t : TypeId} (h : Row w g cs t) {o n : Nat} (hn : o + n ≤ cs.length) : Wr w (some ⟨g, o, none⟩) n := by
 intro i hi
 refine ⟨_, rfl, ?_, ?_⟩
 ·rw [add_loc]
  simp [World.cell?, show w.heap[g]? = _ from h]
  omega
 ·rw [add_loc]; exact frozen_of h _
theorem Row.loadL {w : World} {g : Nat} {cs : List Value} {t : TypeId} (h : Row w g cs t) {o : Nat} {vs : List Value} (hv : ∀ j, j < vs.length → cs[o + j]? = vs[j]?) : LoadL w (some ⟨g, o, none⟩) 0 vs :=
 LoadL_cells fun j hj => by rw [padd_row, h.ld]; simpa using hv j hj
theorem Row.setP {w : World} {g : Nat} {cs : List Value} {t : TypeId} (h : Row w g cs t) {o : Nat} {vs : List Value} (hl : o + vs.length ≤ cs.length) (h1 : One vs) :
  setP w (some ⟨g, o, none⟩) vs = w.setRow g (putCells cs o vs).toArray := by
 have e1 := storeCells_run (P := default) ⟨g, o, none⟩ vs 0 w h1 (fun j hj => by
  obtain ⟨a, e, q⟩ := h.wr hl j hj
  cases e; simpa using q)
 have e2 := run_storeCells_at default g o t vs 0 cs.toArray w h (by simpa using hl) h1
 rw [e1] at e2
 injection e2 with _ e3
 show setCs w _ 0 vs = _
 rw [e3, putCells_eq _ _ _ hl]
 simp
inductive Own (B E size : Nat) (w : World) : Sl → List Value → Prop
 | nil : Own B E size w ⟨none, 0, 0⟩ []
 | row (g n c : Nat) (cs : List Value) (hg : B ≤ g) (hr : Row w g cs E) (hc : c * size ≤ cs.length) (hn : n ≤ c) : Own B E size w ⟨some ⟨g, 0, none⟩, n, c⟩ (cs.take (n * size))
def Sl.blk (s : Sl) : Option Nat := s.a.map (·.block)
theorem Own.len {B E size : Nat} {w : World} {s : Sl} {xs : List Value} (h : Own B E size w s xs) : xs.length = s.n * size := by
 cases h with
 | nil => simp
 | row g n c cs hg hr hc hn =>
   have : n * size ≤ c * size := Nat.mul_le_mul_right _ hn
   rw [List.length_take]
   show min (n * size) _ = n * size
   omega
theorem Own.rd {B E size : Nat} {w : World} {s : Sl} {xs : List Value} (h : Own B E size w s xs) : Rd w s.a xs := by
 cases h with
 | nil => intro i v hi; simp at hi
 | row g n c cs hg hr hc hn =>
   intro i v hi
   rw [padd_row, hr.ld]
   rw [List.getElem?_take] at hi
   split at hi
   ·simpa using hi
   ·cases hi
theorem Own.keep {B E size : Nat} {w w' : World} {s : Sl} {xs : List Value} (h : Own B E size w s xs) (hk : ∀ g, s.blk = some g → w'.heap[g]? = w.heap[g]?) : Own B E size w' s xs := by
 cases h with
 | nil => exact .nil
 | row g n c cs hg hr hc hn => exact .row g n c cs hg (hr.same (hk g rfl)) hc hn
theorem Own.ext {B E size : Nat} {w w' : World} {s : Sl} {xs : List Value} (h : Own B E size w s xs) (he : Ext w w') : Own B E size w' s xs := by
 cases h with
 | nil => exact .nil
 | row g n c cs hg hr hc hn => exact .row g n c cs hg (hr.ext he) hc hn
theorem Own.lt {B E size : Nat} {w : World} {s : Sl} {xs : List Value} (h : Own B E size w s xs) {g : Nat} (hg : s.blk = some g) : B ≤ g ∧ g < w.heap.size := by
 cases h with
 | nil => cases hg
 | row g' n c cs hg' hr hc hn => cases hg; exact ⟨hg', hr.lt⟩
theorem Own.append {B E size bytes : Nat} {w : World} {s : Sl} {xs : List Value} (h : Own B E size w s xs) {m : Nat} {news : List Value} (hB : B ≤ w.heap.size) (hl : news.length = m * size) (h1 : One news)
  (hb : (s.n + m) * bytes ≤ 140737488355328) (hb' : s.n + m ≤ 9223372036854775807) :
  AppPre bytes size w s m news ∧ ∀ (s' : Sl) (w' : World), AppRes E size w s m news s' w' →
   Own B E size w' s' (xs ++ news) ∧ s'.n = s.n + m ∧ Below B w w' ∧ (∀ j, s.blk ≠ some j → j < w.heap.size → w'.heap[j]? = w.heap[j]?) ∧ (s'.blk = s.blk ∨ s'.blk = some w.heap.size) := by
 refine ⟨⟨fun hf => ?_, fun hg => ⟨xs, h.len, h.rd⟩, fun hg => ⟨growslice_fits hg hb, by omega⟩, hl, h1⟩, ?_⟩
 ·cases h with
  | nil =>
    have : m = 0 := by simp at hf; omega
    subst this
    intro i hi; omega
  | row g n c cs hg hr hc hn =>
    rw [padd_row]
    refine hr.wr ?_
    have : (n + m) * size ≤ c * size := Nat.mul_le_mul_right _ hf
    rw [Nat.add_mul] at this
    simp; omega
 ·intro s' w' hres
  cases hres with
  | fits hf =>
    cases h with
    | nil =>
      have : m = 0 := by simp at hf; omega
      subst this
      have : news = [] := List.length_eq_zero_iff.1 (by omega)
      subst this
      exact ⟨.nil, rfl, Below.refl _ _, fun _ _ _ => rfl, .inl rfl⟩
    | row g n c cs hg hr hc hn =>
      have hle : n * size + news.length ≤ cs.length := by
       have : (n + m) * size ≤ c * size := Nat.mul_le_mul_right _ hf
       rw [Nat.add_mul] at this
       omega
      rw [padd_row, Nat.zero_add, hr.setP hle h1]
      have hr' := hr.set (putCells cs (n * size) news)
      have e : cs.take (n * size) ++ news = (putCells cs (n * size) news).take ((n + m) * size) := by
       have e0 : (n + m) * size = n * size + news.length := by rw [Nat.add_mul, hl]
       rw [putCells_eq _ _ _ hle, e0]
       exact ((List.take_append_of_le_length (by simp; omega)).trans (List.take_of_length_le (by simp; omega))).symm
      refine ⟨?_, rfl, ⟨rfl, rfl, rfl, by rw [setRow_size]; exact Nat.le_refl _, fun k hk => setRow_other _ _ _ _ (by omega)⟩, fun j hj _ => setRow_other _ _ _ _ (fun e => hj (by rw [e]; rfl)), .inl rfl⟩
      rw [e]
      exact .row g (n + m) c _ hg hr' (by rw [putCells_length]; exact hc) hf
  | grows hg olds rest cap e1 e2 e3 e4 =>
    have ho : olds = xs := by
     have hrd := h.rd
     have hlen := h.len
     apply List.ext_getElem?
     intro i
     rcases Nat.lt_or_ge i xs.length with hi | hi
     ·have h1 := hrd i xs[i] (List.getElem?_eq_getElem hi)
      have hi' : i < olds.length := by omega
      have h2 := e2 i olds[i] (List.getElem?_eq_getElem hi')
      rw [h1] at h2
      rw [List.getElem?_eq_getElem hi, List.getElem?_eq_getElem hi']
      exact h2.symm
     ·rw [List.getElem?_eq_none hi, List.getElem?_eq_none (by omega)]
    subst ho
    have hnew := Row.new w.drew (olds ++ news ++ rest) E
    have hlen := h.len
    refine ⟨?_, rfl, ?_, fun j _ hj => Below.heap_alloc _ _ _ hj, .inr rfl⟩
    ·have e : olds ++ news = (olds ++ news ++ rest).take ((s.n + m) * size) := by
      have e0 : (s.n + m) * size = olds.length + news.length := by rw [Nat.add_mul, hl, e1]
      rw [e0]
      exact ((List.take_append_of_le_length (by simp)).trans (List.take_of_length_le (by simp))).symm
     conv => rhs; rw [e]
     exact .row w.heap.size (s.n + m) cap _ hB hnew (Nat.le_of_eq e4.symm) e3
    ·exact (Below.refl B w).drew.alloc hB _
theorem calls_of_eq {P : Program} {pre : Prop} (hP : NoNG P) (hm : P.follows .mixedOrders = true) {f : FuncId} {fn : Func} {an : Ann} {args : List Value} {w : World} {R : Ending → World → Prop} (hf : P.funcs[f]? = some fn)
  (h : pre) (e : pre = vcFn P an fn args w R) : Calls P f args.toArray w R := calls_of_vc hP hm hf (e ▸ h)
def panF (R : Ending → World → Prop) (e : Ending) (w' : World) (A : Prop) : Prop := match e with | .panicked c => R (.panicked c) w' | _ => A
theorem calls_of_eqP {P : Program} {pre : Prop} (hP : NoNG P) (hm : P.follows .mixedOrders = true) {f : FuncId} {fn : Func} {an : Ann} {args : List Value} {w : World} {R : Ending → World → Prop} (hf : P.funcs[f]? = some fn)
  (h : pre) (e : pre = vcFnP P an fn args w R) : Calls P f args.toArray w R := calls_of_vcP hP hm hf (e ▸ h)
def ngB (P : Program) : Bool := P.funcs.toList.all fun fn => fn.name != "runtime.NumGoroutine"
theorem ngB_ok {P : Program} (h : ngB P = true) : NoNG P := fun f fn hf he => by
 have := List.all_eq_true.1 h fn (by have := Array.mem_of_getElem? hf; simpa using this)
 simp [he] at this
def inI (n : Int) : Prop := -9223372036854775808 ≤ n ∧ n ≤ 9223372036854775807
theorem wrap_in {n : Int} (h : inI n) : IntKind.wrap .i64 n = n := by
 unfold inI at h
 unfold IntKind.wrap
 simp only [IntKind.bits, IntKind.signed]
 simp only [Bool.true_and]
 split <;> simp_all <;> omega
theorem wrap_inI (n : Int) : inI (IntKind.wrap .i64 n) := by
 unfold inI IntKind.wrap
 simp only [IntKind.bits, IntKind.signed]
 simp only [Bool.true_and]
 split <;> simp_all <;> omega
def litVal {H : Type} : DataW H → Value
 | .lit (.int k n) => .int k n
 | .lit (.bool b) => .bool b
 | .lit (.string bs) => .string ⟨bs.toArray⟩
 | _ => .bool false
def aggCells {H : Type} : DataW H → List Value
 | .agg l => l.flatMap fun
   | .agg m => m.map litVal
   | d => [litVal d]
 | d => [litVal d]
def layAll (P : Program) (l : List (String × DataW Unit)) (w : World) : World :=
 { w with heap := l.foldl (fun h x => match P.globalNamed x.1 with
   | some g => h.modify g fun
     | .cells _ t frozen => .cells (aggCells x.2).toArray t frozen
     | o => o
   | none => h) w.heap }
end Go.Vc
namespace Go.Vc
open Go Go.RowKit
structure RdK (w : World) (s : Sl) (k : Nat) (rows : List (List Value)) : Prop where
 n : s.n = rows.length
 wd : ∀ r ∈ rows, r.length = k
 rd : ∀ i r, rows[i]? = some r → ∀ j v, r[j]? = some v → ld w (padd s.a (i * k + j)) = some v
theorem RdK.ext {w w' : World} {s : Sl} {k : Nat} {rows : List (List Value)} (h : RdK w s k rows) (he : Ext w w') : RdK w' s k rows :=
 ⟨h.n, h.wd, fun i r hi j v hj => he.ld (h.rd i r hi j v hj)⟩
theorem RdK.isSome {w : World} {s : Sl} {k : Nat} {rows : List (List Value)} (h : RdK w s k rows) (hk : 0 < k) {i : Nat} (hi : i < rows.length) : s.a.isSome = true := by
 have hr : rows[i]? = some rows[i] := List.getElem?_eq_getElem hi
 have hl := h.wd _ (List.getElem_mem hi)
 have h0 : rows[i][0]? = some (rows[i][0]'(by omega)) := List.getElem?_eq_getElem (by omega)
 have := h.rd i _ hr 0 _ h0
 cases hs : s.a with
 | none => rw [hs] at this; simp [ld, padd] at this
 | some a => rfl
theorem RdK.inB {w : World} {s : Sl} {k : Nat} {rows : List (List Value)} (h : RdK w s k rows) (hk : 0 < k) {i : Int} (h0 : 0 ≤ i) (h1 : i < (s.n : Int)) : InB s.a i s.n :=
 ⟨h.isSome hk (i := i.toNat) (by have := h.n; omega), h0, h1⟩
theorem RdK.at {w : World} {s : Sl} {k : Nat} {rows : List (List Value)} (h : RdK w s k rows) {i : Nat} {r : List Value} (hi : rows[i]? = some r) {j : Nat} {v : Value} (hj : r[j]? = some v) : ld w (padd (padd s.a (i * k)) j) = some v := by
 rw [padd_padd]; exact h.rd i r hi j v hj
theorem LoadL_of {w : World} {p : Option Addr} : ∀ {vs : List Value} {i : Nat}, (∀ j v, vs[j]? = some v → ld w (padd p (i + j)) = some v) → LoadL w p i vs
 | [], _, _ => trivial
 | [v], i, h => by have := h 0 v rfl; simpa [LoadL] using this
 | v :: u :: r, i, h => ⟨by have := h 0 v rfl; simpa using this, LoadL_of (i := i + 1) fun j x hj => by
   have := h (j + 1) x (by simpa using hj)
   rwa [show i + (j + 1) = i + 1 + j from by omega] at this⟩
theorem RdK.loadL {w : World} {s : Sl} {k : Nat} {rows : List (List Value)} (h : RdK w s k rows) {i : Nat} {r : List Value} (hi : rows[i]? = some r) : LoadL w (padd s.a (i * k)) 0 r :=
 LoadL_of fun j v hj => by rw [Nat.zero_add]; exact h.at hi hj
theorem flatten_get {k : Nat} : ∀ {rows : List (List Value)}, (∀ r ∈ rows, r.length = k) → ∀ {i : Nat} {r : List Value}, rows[i]? = some r → ∀ {j : Nat}, j < k → rows.flatten[i * k + j]? = r[j]?
 | [], _, i, r, hi, j, _ => by simp at hi
 | a :: rows, h, 0, r, hi, j, hj => by
   simp at hi; subst hi
   have := h a (.head _)
   rw [List.flatten_cons, List.getElem?_append_left (by omega)]
   simp
 | a :: rows, h, i + 1, r, hi, j, hj => by
   have ha := h a (.head _)
   rw [List.flatten_cons, List.getElem?_append_right (by rw [ha, Nat.succ_mul]; omega)]
   rw [show (i + 1) * k + j - a.length = i * k + j from by rw [ha, Nat.succ_mul]; omega]
   exact flatten_get (fun r hr => h r (.tail _ hr)) (by simpa using hi) hj
theorem flatten_len {k : Nat} : ∀ {rows : List (List Value)}, (∀ r ∈ rows, r.length = k) → rows.flatten.length = rows.length * k
 | [], _ => by simp
 | a :: rows, h => by
   rw [List.flatten_cons, List.length_append, flatten_len (fun r hr => h r (.tail _ hr)), h a (.head _), List.length_cons, Nat.succ_mul, Nat.add_comm]
structure OwnK (B E k : Nat) (w : World) (s : Sl) (rows : List (List Value)) : Prop where
 own : Own B E k w s rows.flatten
 wd : ∀ r ∈ rows, r.length = k
theorem OwnK.rd {B E k : Nat} {w : World} {s : Sl} {rows : List (List Value)} (h : OwnK B E k w s rows) (hk : 0 < k) : RdK w s k rows := by
 refine ⟨?_, h.wd, fun i r hi j v hj => ?_⟩
 ·have h1 := h.own.len
  rw [flatten_len h.wd] at h1
  exact (Nat.eq_of_mul_eq_mul_right hk h1).symm
 ·have hl := h.wd r (List.mem_of_getElem? hi)
  have hjk : j < k := by rw [← hl]; exact (List.getElem?_eq_some_iff.1 hj).1
  exact h.own.rd _ _ ((flatten_get h.wd hi hjk).trans hj)
theorem OwnK.nil {B E k : Nat} {w : World} : OwnK B E k w ⟨none, 0, 0⟩ [] := ⟨.nil, fun _ h => by cases h⟩
theorem OwnK.ext {B E k : Nat} {w w' : World} {s : Sl} {rows : List (List Value)} (h : OwnK B E k w s rows) (he : Ext w w') : OwnK B E k w' s rows := ⟨h.own.ext he, h.wd⟩
theorem OwnK.keep {B E k : Nat} {w w' : World} {s : Sl} {rows : List (List Value)} (h : OwnK B E k w s rows) (hk : ∀ g, s.blk = some g → w'.heap[g]? = w.heap[g]?) : OwnK B E k w' s rows := ⟨h.own.keep hk, h.wd⟩
theorem OwnK.low {B B' E k : Nat} {w : World} {s : Sl} {rows : List (List Value)} (h : OwnK B E k w s rows) (hb : B' ≤ B) : OwnK B' E k w s rows := by
 refine ⟨?_, h.wd⟩
 have ho := h.own
 generalize rows.flatten = xs at ho
 cases ho with
 | nil => exact .nil
 | row g n c cs hg hr hc hn => exact .row g n c cs (by omega) hr hc hn
theorem OwnK.append {B E k bytes : Nat} {w : World} {s : Sl} {rows : List (List Value)} (h : OwnK B E k w s rows) {news : List Value} (hB : B ≤ w.heap.size) (hl : news.length = k) (h1 : One news)
  (hb : (s.n + 1) * bytes ≤ 140737488355328) (hb' : s.n + 1 ≤ 9223372036854775807) :
  AppPre bytes k w s 1 news ∧ ∀ (s' : Sl) (w' : World), AppRes E k w s 1 news s' w' →
   OwnK B E k w' s' (rows ++ [news]) ∧ s'.n = s.n + 1 ∧ Below B w w' ∧ (∀ j, s.blk ≠ some j → j < w.heap.size → w'.heap[j]? = w.heap[j]?) ∧ (s'.blk = s.blk ∨ s'.blk = some w.heap.size) := by
 obtain ⟨hp, hr⟩ := h.own.append (bytes := bytes) (m := 1) (news := news) hB (by rw [hl, Nat.one_mul]) h1 hb hb'
 refine ⟨hp, fun s' w' hres => ?_⟩
 obtain ⟨ho, hn, hx, hk, hbk⟩ := hr s' w' hres
 refine ⟨⟨by rw [List.flatten_append]; simpa using ho, fun r hr => ?_⟩, hn, hx, hk, hbk⟩
 rcases List.mem_append.1 hr with hr | hr
 ·exact h.wd r hr
 ·simp at hr; rw [hr]; exact hl
theorem Own.set {B E size : Nat} {w : World} {s : Sl} {xs : List Value} (h : Own B E size w s xs) {m : Nat} {v : Value} (hm : m < xs.length) (hv : v.oneCell' = true) :
  (padd s.a m).isSome = true ∧ Wr w (padd s.a m) 1 ∧ Own B E size (setP w (padd s.a m) [v]) s (xs.set m v) ∧ (∀ j, s.blk ≠ some j → (setP w (padd s.a m) [v]).heap[j]? = w.heap[j]?) := by
 cases h with
 | nil => simp at hm
 | row g n c cs hg hr hc hn =>
   rw [List.length_take] at hm
   rw [padd_row]
   have h1 : One [v] := by intro u hu; simp at hu; subst hu; exact hv
   have hs := hr.setP (o := 0 + m) (vs := [v]) (by simp; omega) h1
   refine ⟨rfl, hr.wr (by omega), ?_, fun j hj => ?_⟩
   ·rw [← List.take_set]
    rw [hs]
    refine .row g n c _ hg ?_ (by simpa using hc) hn
    have e : putCells cs (0 + m) [v] = cs.set m v := by simp [putCells]
    rw [e]
    exact hr.set (cs.set m v)
   ·rw [hs]
    exact setRow_other _ _ _ _ (fun e => hj (by rw [e]; rfl))
end Go.Vc
namespace Go.Vc
open Go Go.RowKit
theorem Below.setP {B : Nat} {a b : World} (h : Below B a b) {p : Option Addr} {vs : List Value} (hp : ∀ x, p = some x → B ≤ x.block) : Below B a (setP b p vs) := by
 cases p with
 | none => exact h
 | some x =>
   have hx := hp x rfl
   show Below B a (setCs b x 0 vs)
   have key : ∀ (vs : List Value) (i : Nat) (b : World), Below B a b → Below B a (setCs b x i vs) := by
    intro vs
    induction vs with
    | nil => intro i b h; exact h
    | cons v r ih =>
      intro i b h
      refine ih _ _ (Below.setCell h ?_ _)
      unfold Addr.add; split <;> exact hx
   exact key vs 0 b h
theorem one_i (k : IntKind) (a : Int) : One [.int k a] := by intro v hv; simp at hv; subst hv; rfl
theorem one_ii (k k' : IntKind) (a b : Int) : One [.int k a, .int k' b] := by
 intro v hv; simp at hv
 rcases hv with rfl | rfl <;> rfl
theorem OwnK.app1 {B E k bytes : Nat} {w : World} {s : Sl} {rows : List (List Value)} (h : OwnK B E k w s rows) {news : List Value} (o : Obj) (hB : B ≤ w.heap.size) (hl : news.length = k) (h1 : One news)
  (hb : (s.n + 1) * bytes ≤ 140737488355328) (hb' : s.n + 1 ≤ 9223372036854775807) :
  AppPre bytes k (w.alloc o) s 1 news ∧ ∀ (s' : Sl) (w' : World), AppRes E k (w.alloc o) s 1 news s' w' →
   w'.heap[w.heap.size]? = (w.alloc o).heap[w.heap.size]? ∧ OwnK B E k w' s' (rows ++ [news]) ∧ s'.n = s.n + 1 ∧ Below B w w' ∧ (∀ j, s.blk ≠ some j → j < w.heap.size → w'.heap[j]? = w.heap[j]?) ∧ (s'.blk = s.blk ∨ s'.blk = some (w.heap.size + 1)) := by
 have xa := Ext.al w o
 obtain ⟨hp, hr⟩ := (h.ext xa).append (bytes := bytes) (news := news) (Nat.le_trans hB xa.size) hl h1 hb hb'
 refine ⟨hp, fun s' w' hres => ?_⟩
 obtain ⟨ho, hn, hx, hk, hbk⟩ := hr s' w' hres
 have hz : (w.alloc o).heap.size = w.heap.size + 1 := by simp
 refine ⟨hk _ (fun hb => absurd (h.own.lt hb).2 (Nat.lt_irrefl _)) (by simp), ho, hn, (Below.mono xa hB).trans hx, fun j hj hlt => ?_, by rw [← hz]; exact hbk⟩
 rw [hk j hj (by omega)]
 exact xa.heap hlt
theorem OwnK.set {B E k : Nat} {w : World} {s : Sl} {rows : List (List Value)} (h : OwnK B E k w s rows) {i j : Nat} {r : List Value} {v : Value} (hi : rows[i]? = some r) (hj : j < k) (hv : v.oneCell' = true) (hB : B ≤ w.heap.size) :
  (padd (padd s.a (i * k)) j).isSome = true ∧ Wr w (padd (padd s.a (i * k)) j) 1 ∧ OwnK B E k (setP w (padd (padd s.a (i * k)) j) [v]) s (rows.set i (r.set j v)) ∧
   Below B w (setP w (padd (padd s.a (i * k)) j) [v]) ∧ (∀ m, s.blk ≠ some m → (setP w (padd (padd s.a (i * k)) j) [v]).heap[m]? = w.heap[m]?) := by
 have hlen := flatten_len h.wd
 have hil : i < rows.length := (List.getElem?_eq_some_iff.1 hi).1
 have hm : i * k + j < rows.flatten.length := by
  rw [hlen]
  have : (i + 1) * k ≤ rows.length * k := Nat.mul_le_mul_right _ hil
  rw [Nat.succ_mul] at this
  omega
 obtain ⟨h1, h2, h3, h4⟩ := h.own.set (v := v) hm hv
 rw [padd_padd]
 refine ⟨h1, h2, ⟨?_, fun q hq => ?_⟩, ?_, h4⟩
 ·have e : (rows.set i (r.set j v)).flatten = rows.flatten.set (i * k + j) v := by
   have hw := h.wd
   clear h h1 h2 h3 h4 hm hlen hv
   induction rows generalizing i with
   | nil => simp at hi
   | cons a rows ih =>
     have ha := hw a (.head _)
     cases i with
     | zero =>
       simp at hi; subst hi
       simp only [List.set_cons_zero, List.flatten_cons, Nat.zero_mul, Nat.zero_add]
       rw [List.set_append_left _ _ (by omega)]
     | succ i =>
       simp only [List.set_cons_succ, List.flatten_cons]
       rw [List.set_append_right _ _ (by rw [ha, Nat.succ_mul]; omega), show (i + 1) * k + j - a.length = i * k + j from by rw [ha, Nat.succ_mul]; omega]
       rw [ih (by simpa using hi) (by simpa using hil) (fun r hr => hw r (.tail _ hr))]
  rw [e]; exact h3
 ·rcases List.mem_or_eq_of_mem_set hq with hq | rfl
  ·exact h.wd q hq
  ·rw [List.length_set]; exact h.wd r (List.mem_of_getElem? hi)
 ·refine Below.setP (Below.refl _ _) fun x hx => ?_
  have ho := h.own
  generalize rows.flatten = xs at ho
  cases ho with
  | nil => simp [padd] at hx
  | row g n c cs hg hr hc hn => simp [padd, add_loc] at hx; subst hx; exact hg
end Go.Vc
namespace Go.Vc
open Go Go.RowKit
theorem AppRes_zero {E size : Nat} {w w' : World} {a : Option Addr} {n : Nat} {news : List Value} {s' : Sl} (h : AppRes E size w ⟨a, 0, 0⟩ n news s' w') (hl : news.length = n * size) {j : Nat} (hj : j < w.heap.size) : w'.heap[j]? = w.heap[j]? := by
 cases h with
 | fits hf =>
   have : n = 0 := by simp at hf; omega
   subst this
   have : news = [] := List.eq_nil_of_length_eq_zero (by omega)
   subst this
   cases hp : padd a (0 * size) with
   | none => simp [hp, Go.Vc.setP]
   | some x => simp only [hp, Go.Vc.setP]; rfl
 | grows hf olds rest cap h1 h2 h3 h4 => exact ((Ext.dr w).tr (Ext.al _ _)).heap hj
theorem RdK.flat {w : World} {s : Sl} {k : Nat} {rows : List (List Value)} (h : RdK w s k rows) (hk : 0 < k) : Rd w s.a rows.flatten := by
 intro i v hi
 have hil : i < rows.flatten.length := (List.getElem?_eq_some_iff.1 hi).1
 rw [flatten_len h.wd] at hil
 have hik : i / k < rows.length := Nat.div_lt_of_lt_mul (by rw [Nat.mul_comm]; exact hil)
 have hr : rows[i / k]? = some rows[i / k] := List.getElem?_eq_getElem hik
 have hm : i % k < k := Nat.mod_lt _ hk
 have e : i / k * k + i % k = i := by rw [Nat.mul_comm]; exact Nat.div_add_mod i k
 have := flatten_get h.wd hr hm
 rw [e, hi] at this
 have := h.rd _ _ hr _ v this.symm
 rwa [e] at this
theorem One_flatten {rows : List (List Value)} (h : ∀ r ∈ rows, One r) : One rows.flatten := by
 intro v hv
 obtain ⟨r, hr, hvr⟩ := List.mem_flatten.1 hv
 exact h r hr v hvr
end Go.Vc
namespace Go.Vc
open Go Go.RowKit
theorem putCells_take : ∀ (vs cs : List Value) (off N : Nat), (putCells cs off vs).take N = putCells (cs.take N) off vs
 | [], _, _, _ => rfl
 | v :: r, cs, off, N => by
   show (putCells (cs.set off v) (off + 1) r).take N = putCells ((cs.take N).set off v) (off + 1) r
   rw [putCells_take, List.take_set]
theorem putCells_right (a : List Value) : ∀ (vs b : List Value) (o : Nat), putCells (a ++ b) (a.length + o) vs = a ++ putCells b o vs
 | [], _, _ => rfl
 | v :: r, b, o => by
   show putCells ((a ++ b).set (a.length + o) v) (a.length + o + 1) r = a ++ putCells (b.set o v) (o + 1) r
   rw [List.set_append_right _ _ (by omega), Nat.add_sub_cancel_left, Nat.add_assoc]
   exact putCells_right a r _ _
theorem Own.put {B E size : Nat} {w : World} {s : Sl} {xs : List Value} (h : Own B E size w s xs) {m : Nat} {vs : List Value} (hm : m + vs.length ≤ xs.length) (hx : 0 < xs.length) (hv : One vs) :
  (padd s.a m).isSome = true ∧ Wr w (padd s.a m) vs.length ∧ Own B E size (setP w (padd s.a m) vs) s (putCells xs m vs) ∧ (∀ j, s.blk ≠ some j → (setP w (padd s.a m) vs).heap[j]? = w.heap[j]?) := by
 cases h with
 | nil => simp at hx
 | row g n c cs hg hr hc hn =>
   rw [List.length_take] at hm
   rw [padd_row]
   have hs := hr.setP (o := 0 + m) (vs := vs) (by omega) hv
   refine ⟨rfl, hr.wr (by omega), ?_, fun j hj => ?_⟩
   ·rw [← putCells_take, hs, Nat.zero_add]
    exact .row g n c _ hg (hr.set _) (by rw [Go.Vc.putCells_length]; exact hc) hn
   ·rw [hs]
    exact setRow_other _ _ _ _ (fun e => hj (by rw [e]; rfl))
theorem OwnK.put {B E k : Nat} {w : World} {s : Sl} {rows : List (List Value)} (h : OwnK B E k w s rows) {i : Nat} {r : List Value} (hi : i < rows.length) (hk : 0 < k) (hr : r.length = k) (hv : One r) :
  (padd s.a (i * k)).isSome = true ∧ Wr w (padd s.a (i * k)) k ∧ OwnK B E k (setP w (padd s.a (i * k)) r) s (rows.set i r) ∧
   Below B w (setP w (padd s.a (i * k)) r) ∧ (∀ m, s.blk ≠ some m → (setP w (padd s.a (i * k)) r).heap[m]? = w.heap[m]?) := by
 have hlen := flatten_len h.wd
 have h1 : (i + 1) * k ≤ rows.length * k := Nat.mul_le_mul_right _ hi
 rw [Nat.succ_mul] at h1
 obtain ⟨p1, p2, p3, p4⟩ := h.own.put (m := i * k) (vs := r) (by omega) (by omega) hv
 rw [hr] at p2
 refine ⟨p1, p2, ⟨?_, fun q hq => ?_⟩, ?_, p4⟩
 ·have e : (rows.set i r).flatten = putCells rows.flatten (i * k) r := by
   have hw := h.wd
   clear h p1 p2 p3 p4 hlen h1
   induction rows generalizing i with
   | nil => simp at hi
   | cons a rows ih =>
     have ha := hw a (.head _)
     cases i with
     | zero =>
       simp only [List.set_cons_zero, List.flatten_cons, Nat.zero_mul]
       rw [putCells_eq _ _ _ (by rw [List.length_append]; omega), hr, Nat.zero_add, List.drop_left' ha]
       simp
     | succ i =>
       simp only [List.set_cons_succ, List.flatten_cons]
       rw [show (i + 1) * k = a.length + i * k from by rw [ha, Nat.succ_mul]; omega, putCells_right]
       rw [ih (by simpa using hi) (fun r hr => hw r (.tail _ hr))]
  rw [e]; exact p3
 ·rcases List.mem_or_eq_of_mem_set hq with hq | rfl
  ·exact h.wd q hq
  ·exact hr
 ·refine Below.setP (Below.refl _ _) fun x hx => ?_
  have ho := h.own
  generalize rows.flatten = xs at ho
  cases ho with
  | nil => simp [padd] at hx
  | row g n c cs hg hr hc hn => simp [padd, add_loc] at hx; subst hx; exact hg
theorem padd_slBase (a : Option Addr) (m size j : Nat) : padd (slBase a 0 m size) j = padd a j := by
 unfold slBase
 split
 ·rfl
 ·show padd (padd a (0 * size)) j = _
  rw [padd_padd]; simp
theorem RdK.cut {w : World} {s : Sl} {k : Nat} {rows : List (List Value)} (h : RdK w s k rows) {m c' c'' : Nat} (hm : m ≤ rows.length) : RdK w ⟨slBase s.a 0 c' k, m, c''⟩ k (rows.take m) := by
 refine ⟨by simp; omega, fun r hr => h.wd r (List.mem_of_mem_take hr), fun i r hi j v hj => ?_⟩
 show ld w (padd (slBase s.a 0 c' k) _) = _
 rw [padd_slBase]
 rw [List.getElem?_take] at hi
 split at hi
 ·exact h.rd i r hi j v hj
 ·cases hi
end Go.Vc
namespace Go.Vc
open Go Go.RowKit
theorem OwnK.appN {B E k bytes : Nat} {w : World} {s : Sl} {rows more : List (List Value)} (h : OwnK B E k w s rows) (hB : B ≤ w.heap.size) (hl : ∀ r ∈ more, r.length = k) (h1 : ∀ r ∈ more, One r)
  (hb : (s.n + more.length) * bytes ≤ 140737488355328) (hb' : s.n + more.length ≤ 9223372036854775807) :
  AppPre bytes k w s more.length more.flatten ∧ ∀ (s' : Sl) (w' : World), AppRes E k w s more.length more.flatten s' w' →
   OwnK B E k w' s' (rows ++ more) ∧ s'.n = s.n + more.length ∧ Below B w w' ∧ (∀ j, s.blk ≠ some j → j < w.heap.size → w'.heap[j]? = w.heap[j]?) ∧ (s'.blk = s.blk ∨ s'.blk = some w.heap.size) := by
 obtain ⟨hp, hr⟩ := h.own.append (bytes := bytes) (m := more.length) (news := more.flatten) hB (flatten_len hl) (One_flatten h1) hb hb'
 refine ⟨hp, fun s' w' hres => ?_⟩
 obtain ⟨ho, hn, hx, hk, hbk⟩ := hr s' w' hres
 refine ⟨⟨by rw [List.flatten_append]; exact ho, fun r hr => ?_⟩, hn, hx, hk, hbk⟩
 rcases List.mem_append.1 hr with hr | hr
 ·exact h.wd r hr
 ·exact hl r hr
end Go.Vc
namespace Go.Vc
open Go Go.RowKit
theorem RdK.rest {w : World} {s : Sl} {k : Nat} {rows : List (List Value)} (h : RdK w s k rows) {l m n' c' : Nat} (hn : n' = rows.length - l) (hm : m = l → rows.length ≤ l) : RdK w ⟨slBase s.a l m k, n', c'⟩ k (rows.drop l) := by
 refine ⟨by simpa using hn, fun r hr => h.wd r (List.mem_of_mem_drop hr), fun i r hi j v hj => ?_⟩
 rw [List.getElem?_drop] at hi
 show ld w (padd (slBase s.a l m k) _) = _
 unfold slBase
 split
 ·rename_i e
  have := hm e
  rw [List.getElem?_eq_none (by omega)] at hi; cases hi
 ·show ld w (padd (padd s.a (l * k)) _) = _
  rw [padd_padd]
  have := h.rd (l + i) r hi j v hj
  rwa [Nat.add_mul, Nat.add_assoc] at this
end Go.Vc
namespace Go.Vc
open Go Go.RowKit
theorem callV_mono {P : Program} {fv : Value} {args : List Value} {w : World} {R R' : Ending → World → Prop} (h : callV P fv args w R) (hr : ∀ e w', R e w' → R' e w') : callV P fv args w R' := by
 unfold callV at h ⊢
 split at h
 ·split at h
  ·exact h.mono hr
  ·obtain ⟨e, he, v, w', h1, h2⟩ := h
   exact ⟨e, he, v, w', h1, hr _ _ h2⟩
 ·obtain ⟨h1, fn, tmps, assign, body, h2, h3⟩ := h
  exact ⟨h1, fn, tmps, assign, body, h2, h3.mono hr⟩
 ·exact h.elim
theorem callV_fn {P : Program} {f : FuncId} {first cap : Array Value} {args : List Value} {w : World} {R : Ending → World → Prop} (hb : hasBody P f = true) (h : Calls P f (first.toList ++ args ++ cap.toList).toArray w R) :
  callV P (.func (.func f) first cap) args w R := by
 unfold callV
 simp only [hb]
 exact h
theorem callV_of {P : Program} {f : FuncId} {first cap : Array Value} {args : List Value} {w : World} {R : Ending → World → Prop} {asx : Array Value} (hb : hasBody P f = true) (ha : (first.toList ++ args ++ cap.toList).toArray = asx) (h : Calls P f asx w R) :
  callV P (.func (.func f) first cap) args w R := callV_fn hb (by rw [ha]; exact h)
structure Mod (F : Nat → Prop) (w w' : World) : Prop where
 os : w'.os = w.os
 tape : w'.tape = w.tape
 output : w'.output = w.output
 size : w.heap.size ≤ w'.heap.size
 same : ∀ i, i < w.heap.size → ¬ F i → w'.heap[i]? = w.heap[i]?
theorem Mod.refl (F : Nat → Prop) (w : World) : Mod F w w := ⟨rfl, rfl, rfl, Nat.le_refl _, fun _ _ _ => rfl⟩
theorem Mod.of_ext {F : Nat → Prop} {w w' : World} (h : Ext w w') : Mod F w w' := ⟨h.os, h.tape, h.output, h.size, fun i hi _ => h.block i hi⟩
theorem Mod.trans {F : Nat → Prop} {a b c : World} (h : Mod F a b) (k : Mod F b c) : Mod F a c :=
 ⟨k.os.trans h.os, k.tape.trans h.tape, k.output.trans h.output, Nat.le_trans h.size k.size, fun i hi hn => (k.same i (Nat.lt_of_lt_of_le hi h.size) hn).trans (h.same i hi hn)⟩
theorem Mod.mono {F F' : Nat → Prop} {a b : World} (h : Mod F a b) (hs : ∀ i, i < a.heap.size → F i → F' i) : Mod F' a b := ⟨h.os, h.tape, h.output, h.size, fun i hi hn => h.same i hi fun hf => hn (hs i hi hf)⟩
theorem Mod.tr {F F' : Nat → Prop} {a b c : World} (h : Mod F a b) (k : Mod F' b c) (hs : ∀ i, F' i → F i ∨ a.heap.size ≤ i) : Mod F a c :=
 ⟨k.os.trans h.os, k.tape.trans h.tape, k.output.trans h.output, Nat.le_trans h.size k.size, fun i hi hn => (k.same i (Nat.lt_of_lt_of_le hi h.size) fun hf => by
  rcases hs i hf with hf | hf
  ·exact hn hf
  ·omega).trans (h.same i hi hn)⟩
theorem Mod.below {F : Nat → Prop} {B : Nat} {w w' : World} (h : Mod F w w') (hB : B ≤ w.heap.size) (hF : ∀ i, F i → B ≤ i) : Below B w w' := ⟨h.os, h.tape, h.output, h.size, fun i hi => h.same i (by omega) fun hf => by have := hF i hf; omega⟩
theorem Mod.ext {F : Nat → Prop} {w0 w w' : World} (h : Mod F w w') (x : Ext w0 w) (hF : ∀ i, F i → w0.heap.size ≤ i) : Ext w0 w' := x.trans (h.below x.size hF)
theorem Mod.of_rec {r : Nat} {w w' : World} (h : Rec r w w') : Mod (fun i => i = r) w w' := ⟨h.os, h.tape, h.output, Nat.le_of_eq h.size.symm, fun i _ hn => h.same i hn⟩
theorem ld_same {w w' : World} {p : Option Addr} (h : ∀ b, pblk p = some b → w'.heap[b]? = w.heap[b]?) : ld w' p = ld w p := by
 cases p with
 | none => rfl
 | some a =>
   show w'.cell? a = w.cell? a
   have := h a.block rfl
   simp only [World.cell?, this]
theorem RdK.same {w w' : World} {s : Sl} {k : Nat} {rows : List (List Value)} (h : RdK w s k rows) (hs : ∀ b, s.blk = some b → w'.heap[b]? = w.heap[b]?) : RdK w' s k rows :=
 ⟨h.n, h.wd, fun i r hi j v hj => by
  rw [ld_same fun b hb => hs b (by rw [pblk_padd] at hb; exact hb)]
  exact h.rd i r hi j v hj⟩
end Go.Vc
namespace Go.Vc
open Go Go.RowKit
theorem RdK.blk_lt {w : World} {s : Sl} {k : Nat} {rows : List (List Value)} (h : RdK w s k rows) (hk : 0 < k) (hne : rows ≠ []) {b : Nat} (hb : s.blk = some b) : b < w.heap.size := by
 cases rows with
 | nil => exact absurd rfl hne
 | cons r rows =>
   have hl := h.wd r (.head _)
   have h0 : r[0]? = some (r[0]'(by omega)) := List.getElem?_eq_getElem (by omega)
   have := h.rd 0 r rfl 0 _ h0
   cases ha : s.a with
   | none => rw [ha] at this; simp [ld, padd] at this
   | some a =>
     rw [ha] at this
     have hlt := cell_lt (w := w) (a := a.add (0 * k + 0)) this
     have : (a.add (0 * k + 0)).block = a.block := by unfold Addr.add; split <;> rfl
     rw [this] at hlt
     simp [Sl.blk, ha] at hb
     omega
theorem RdK.same' {w w' : World} {s : Sl} {k : Nat} {rows : List (List Value)} (h : RdK w s k rows) (hs : rows ≠ [] → ∀ b, s.blk = some b → w'.heap[b]? = w.heap[b]?) : RdK w' s k rows := by
 cases rows with
 | nil => exact ⟨h.n, h.wd, fun i r hi => by simp at hi⟩
 | cons r rows => exact h.same (hs (by simp))
end Go.Vc
namespace Go.Vc
open Go Go.RowKit
end Go.Vc
namespace Go.Vc
open Go Go.RowKit
theorem OwnK.form {B E k : Nat} {w : World} {s : Sl} {rows : List (List Value)} (h : OwnK B E k w s rows) (hk : 0 < k) : (s = ⟨none, 0, 0⟩ ∧ rows = []) ∨
  ∃ g cs, s.a = some ⟨g, 0, none⟩ ∧ B ≤ g ∧ Row w g cs E ∧ s.c * k ≤ cs.length ∧ s.n ≤ s.c ∧ cs.take (s.n * k) = rows.flatten ∧ s.n = rows.length := by
 have hn := (h.rd hk).n
 have ho := h.own
 have hf := flatten_len h.wd
 generalize hx : rows.flatten = xs at ho hf
 cases ho with
 | nil => exact .inl ⟨rfl, List.eq_nil_of_length_eq_zero (by rw [← hn])⟩
 | row g n c cs hg hr hc hn' => exact .inr ⟨g, cs, rfl, hg, hr, hc, hn', rfl, hn⟩
theorem OwnK.of_row {B E k : Nat} {w : World} {g n c : Nat} {cs : List Value} {rows : List (List Value)} (hg : B ≤ g) (hr : Row w g cs E) (hc : c * k ≤ cs.length) (hn : n ≤ c) (ht : cs.take (n * k) = rows.flatten) (hw : ∀ r ∈ rows, r.length = k) :
  OwnK B E k w ⟨some ⟨g, 0, none⟩, n, c⟩ rows := ⟨by rw [← ht]; exact .row g n c cs hg hr hc hn, hw⟩
theorem slBase_zero (a : Option Addr) (m size : Nat) : slBase a 0 m size = a := by
 unfold slBase
 split
 ·rfl
 ·cases a <;> simp [Addr.add]
theorem slBase_row (g l m size : Nat) : slBase (some ⟨g, 0, none⟩) l m size = if m = l then some ⟨g, 0, none⟩ else some ⟨g, l * size, none⟩ := by
 unfold slBase
 split
 ·rfl
 ·simp [add_loc]
theorem Row.peek {w : World} {g : Nat} {cs vs : List Value} {E : TypeId} (hr : Row w g cs E) {l m size : Nat} (hm : m = l → vs = []) (hv : ∀ j, j < vs.length → cs[l * size + j]? = vs[j]?) : Rd w (slBase (some ⟨g, 0, none⟩) l m size) vs := by
 intro j v hj
 have hlt := (List.getElem?_eq_some_iff.1 hj).1
 rw [slBase_row, if_neg (fun e => by rw [hm e] at hlt; simp at hlt), padd_row, hr.ld, hv j hlt]
 exact hj
theorem Row.poke {w : World} {g : Nat} {cs vs : List Value} {E : TypeId} (hr : Row w g cs E) {l m size : Nat} (hm : m = l → vs = []) (hl : l * size + vs.length ≤ cs.length) (h1 : One vs) :
  Wr w (slBase (some ⟨g, 0, none⟩) l m size) vs.length ∧ Row (Go.Vc.setP w (slBase (some ⟨g, 0, none⟩) l m size) vs) g (putCells cs (l * size) vs) E ∧ Mod (fun i => i = g) w (Go.Vc.setP w (slBase (some ⟨g, 0, none⟩) l m size) vs) := by
 by_cases e : m = l
 ·have := hm e
  subst this
  rw [slBase_row, if_pos e]
  exact ⟨fun i hi => by simp at hi, hr, Mod.refl _ _⟩
 ·rw [slBase_row, if_neg e, hr.setP hl h1]
  exact ⟨hr.wr hl, hr.set _, ⟨rfl, rfl, rfl, by rw [setRow_size]; exact Nat.le_refl _, fun i _ hn => setRow_other _ _ _ _ hn⟩⟩
theorem Rd_unique {w : World} {a : Option Addr} {xs ys : List Value} (hx : Rd w a xs) (hy : Rd w a ys) (hl : xs.length = ys.length) : xs = ys := by
 apply List.ext_getElem?
 intro i
 rcases Nat.lt_or_ge i xs.length with hi | hi
 ·have h1 := hx i xs[i] (List.getElem?_eq_getElem hi)
  have h2 := hy i (ys[i]'(by omega)) (List.getElem?_eq_getElem (by omega))
  rw [h1] at h2
  rw [List.getElem?_eq_getElem hi, List.getElem?_eq_getElem (by omega)]
  exact h2
 ·rw [List.getElem?_eq_none hi, List.getElem?_eq_none (by omega)]
theorem Row.rd0 {w : World} {g : Nat} {cs vs : List Value} {E : TypeId} (hr : Row w g cs E) (hv : ∀ j, j < vs.length → cs[j]? = vs[j]?) : Rd w (some ⟨g, 0, none⟩) vs := by
 intro j v hj
 have hlt := (List.getElem?_eq_some_iff.1 hj).1
 rw [padd_row, hr.ld, Nat.zero_add, hv j hlt]
 exact hj
theorem Row.ne {w : World} {g g' : Nat} {cs cs' : List Value} {E E' : TypeId} (hr : Row w g cs E) (hr' : Row w g' cs' E') (hE : E ≠ E') : g ≠ g' := by
 rintro rfl
 have := hr.symm.trans hr'
 simp at this
 exact hE this.2
theorem Row.ne_map {w : World} {g r : Nat} {cs : List Value} {E : TypeId} {G : Value → Prop} {kvs : List (Value × Value)} (hr : Row w g cs E) (hm : MapIs G w (some r) kvs) : g ≠ r := by
 rintro rfl
 exact hm.not_cells _ _ _ hr
theorem MapIs.same {w w' : World} {G : Value → Prop} {r : Nat} {kvs : List (Value × Value)} (hm : MapIs G w (some r) kvs) (h : w'.heap[r]? = w.heap[r]?) : MapIs G w' (some r) kvs := by
 obtain ⟨es, c, h1, h2⟩ := hm
 exact ⟨es, c, h.trans h1, h2⟩
theorem MapIs.lt {w : World} {G : Value → Prop} {r : Nat} {kvs : List (Value × Value)} (hm : MapIs G w (some r) kvs) : r < w.heap.size := by
 obtain ⟨es, c, h1, h2⟩ := hm
 exact (Array.getElem?_eq_some_iff.1 h1).1
theorem MapIs.new {w : World} {G : Value → Prop} : MapIs G (w.alloc (.map #[] 0)) (some w.heap.size) [] :=
 ⟨#[], 0, World.alloc_heap_new w _, rfl, by simp, by simp, by simp, by simp⟩
end Go.Vc
namespace Go.Vc
open Go Go.RowKit
theorem take_flatten {k : Nat} : ∀ {rows : List (List Value)} (m : Nat), (∀ r ∈ rows, r.length = k) → rows.flatten.take (m * k) = (rows.take m).flatten
 | [], m, _ => by simp
 | r :: rows, 0, _ => by simp
 | r :: rows, m + 1, hw => by
   have hr := hw r (.head _)
   rw [List.take_succ_cons, List.flatten_cons, List.flatten_cons, show (m + 1) * k = r.length + m * k by rw [Nat.succ_mul, hr]; omega, List.take_append, List.take_of_length_le (by omega), Nat.add_sub_cancel_left, take_flatten m fun q hq => hw q (.tail _ hq)]
theorem OwnK.cut {B E k : Nat} {w : World} {s : Sl} {rows : List (List Value)} (h : OwnK B E k w s rows) (hk : 0 < k) {m : Nat} (hm : m ≤ rows.length) : OwnK B E k w ⟨slBase s.a 0 m k, m, m⟩ (rows.take m) := by
 rw [slBase_zero]
 rcases h.form hk with ⟨rfl, rfl⟩ | ⟨g, cs, ha, hg, hr, hc, hn, ht, hl⟩
 ·have : m = 0 := by simpa using hm
  subst this; exact .nil
 ·rw [ha]
  have h1 : m * k ≤ s.n * k := Nat.mul_le_mul_right _ (by omega)
  have h2 : s.n * k ≤ s.c * k := Nat.mul_le_mul_right _ hn
  refine OwnK.of_row hg hr (by omega) (Nat.le_refl _) ?_ (fun r hr => h.wd r (List.mem_of_mem_take hr))
  have e1 : cs.take (m * k) = (cs.take (s.n * k)).take (m * k) := by rw [List.take_take, Nat.min_eq_left h1]
  rw [e1, ht, take_flatten m h.wd]
end Go.Vc
namespace Go.Vc
open Go Go.RowKit
structure Turned (F F' : Nat → Prop) (w w' : World) : Prop where
 mod : Mod F w w'
 sub : ∀ i, F' i → F i ∨ w.heap.size ≤ i
theorem Turned.refl (F : Nat → Prop) (w : World) : Turned F F w w := ⟨Mod.refl _ _, fun _ h => .inl h⟩
theorem Turned.trans {F G H : Nat → Prop} {a b c : World} (h : Turned F G a b) (k : Turned G H b c) : Turned F H a c :=
 ⟨h.mod.tr k.mod h.sub, fun i hi => by
  rcases k.sub i hi with hg | hg
  ·exact h.sub i hg
  ·exact .inr (Nat.le_trans h.mod.size hg)⟩
theorem Turned.of_ext {F : Nat → Prop} {w w' : World} (h : Ext w w') : Turned F F w w' := ⟨Mod.of_ext h, fun _ h => .inl h⟩
theorem Turned.apart {F F' G : Nat → Prop} {w w' : World} (h : Turned F F' w w') (hd : ∀ i, F i → ¬ G i) (hl : ∀ i, G i → i < w.heap.size) : ∀ i, F' i → ¬ G i := fun i hi hg => by
 rcases h.sub i hi with hf | hf
 ·exact hd i hf hg
 ·have := hl i hg; omega
theorem Mod.of_app {w w' : World} {s : Sl} (hb : Below 0 w w') (hk : ∀ j, s.blk ≠ some j → j < w.heap.size → w'.heap[j]? = w.heap[j]?) : Mod (fun i => s.blk = some i) w w' :=
 ⟨hb.os, hb.tape, hb.output, hb.size, fun i hi hn => hk i hn hi⟩
theorem Mod.row {F : Nat → Prop} {w w' : World} (h : Mod F w w') {g : Nat} {cs : List Value} {t : TypeId} (hr : Row w g cs t) (hn : ¬ F g) : Row w' g cs t := hr.same (h.same g hr.lt hn)
theorem Mod.ownK {F : Nat → Prop} {w w' : World} (h : Mod F w w') {B E k : Nat} {s : Sl} {rows : List (List Value)} (ho : OwnK B E k w s rows) (hn : ∀ b, s.blk = some b → ¬ F b) : OwnK B E k w' s rows :=
 ho.keep fun b hb => h.same b (ho.own.lt hb).2 (hn b hb)
theorem Mod.map {F : Nat → Prop} {w w' : World} (h : Mod F w w') {G : Value → Prop} {r : Nat} {kvs : List (Value × Value)} (hm : MapIs G w (some r) kvs) (hn : ¬ F r) : MapIs G w' (some r) kvs := hm.same (h.same r hm.lt hn)
theorem Mod.rdK {F : Nat → Prop} {w w' : World} (h : Mod F w w') {s : Sl} {k : Nat} {rows : List (List Value)} (hk : 0 < k) (hr : RdK w s k rows) (hn : rows ≠ [] → ∀ b, s.blk = some b → ¬ F b) : RdK w' s k rows :=
 hr.same' fun hne b hb => h.same b (hr.blk_lt hk hne hb) (hn hne b hb)
theorem two_puts {C x l : List Value} {a b N : Nat} (hb : b = a + x.length) (hN : N = b + l.length) (hC : N ≤ C.length) : (putCells (putCells C a x) b l).take N = C.take a ++ x ++ l := by
 have ha : (C.take a).length = a := by rw [List.length_take]; omega
 rw [putCells_eq x C a (by omega)]
 have hD : (C.take a ++ x).length = b := by rw [List.length_append, ha, hb]
 rw [putCells_eq _ _ _ (by rw [List.length_append, hD, List.length_drop]; omega), List.take_left' hD, List.take_left' (by rw [List.length_append, hD]; omega)]
theorem two_puts' {C x l : List Value} {a b N : Nat} (hb : b = a + x.length) (hN : N = b + l.length) (hC : N ≤ C.length) : (putCells (putCells C b l) a x).take N = C.take a ++ x ++ l := by
 have ha : (C.take a).length = a := by rw [List.length_take]; omega
 have hbl : (C.take b).length = b := by rw [List.length_take]; omega
 rw [putCells_eq l C b (by omega)]
 have h1 : (C.take b ++ l ++ C.drop (b + l.length)).take a = C.take a := by
  rw [List.append_assoc, List.take_append_of_le_length (by omega), List.take_take, Nat.min_eq_left (by omega)]
 have h2 : (C.take b ++ l ++ C.drop (b + l.length)).drop (a + x.length) = l ++ C.drop (b + l.length) := by
  rw [List.append_assoc, ← hb, List.drop_left' hbl]
 have hl : (C.take b ++ l ++ C.drop (b + l.length)).length = C.length := by simp; omega
 rw [putCells_eq _ _ _ (by rw [hl]; omega), h1, h2, ← List.append_assoc, List.take_left' (by simp only [List.length_append, ha]; omega)]
theorem mid_eq {lo hi : Nat} (h : lo + hi ≤ 1000000) : IntKind.wrap .i64 (((IntKind.wrap .u64 (IntKind.wrap .i64 ((lo : Int) + (hi : Int)))) : Int).fdiv (2 ^ (min (1 : Int).toNat 64))) = (((lo + hi) / 2 : Nat) : Int) := by
 rw [wrap_in (n := (lo : Int) + hi) (by unfold inI; omega)]
 have h2 : IntKind.wrap .u64 ((lo : Int) + hi) = lo + hi := by
  unfold IntKind.wrap
  simp only [IntKind.bits, IntKind.signed]
  simp
  omega
 rw [h2]
 have h3 : ((lo : Int) + hi).fdiv (2 ^ (min (1 : Int).toNat 64)) = (((lo + hi) / 2 : Nat) : Int) := by
  show ((lo : Int) + hi).fdiv 2 = _
  rw [Int.fdiv_eq_ediv_of_nonneg _ (by omega)]
  omega
 rw [h3, wrap_in (by unfold inI; omega)]
theorem Row.at {w : World} {g : Nat} {cs : List Value} {E : TypeId} (hr : Row w g cs E) (j : Nat) {v : Value} (h : cs[j]? = some v) : Vc.ld w (padd (some ⟨g, 0, none⟩) j) = some v := by
 rw [padd_row, hr.ld, Nat.zero_add]; exact h
theorem Row.put1 {w : World} {g : Nat} {cs : List Value} {E : TypeId} (hr : Row w g cs E) {j : Nat} {v : Value} (hj : j < cs.length) (hv : v.oneCell' = true) :
  Wr w (padd (some ⟨g, 0, none⟩) j) 1 ∧ ∀ w', w' = Vc.setP w (padd (some ⟨g, 0, none⟩) j) [v] → Row w' g (putCells cs j [v]) E ∧ Mod (fun i => i = g) w w' := by
 rw [padd_row, Nat.zero_add]
 have h1 : One [v] := by intro u hu; simp at hu; subst hu; exact hv
 refine ⟨hr.wr (by omega), fun w' e => ?_⟩
 rw [hr.setP (by simp; omega) h1] at e
 subst e
 exact ⟨hr.set _, rfl, rfl, rfl, by rw [setRow_size]; exact Nat.le_refl _, fun i _ hn => setRow_other _ _ _ _ hn⟩
theorem own_row {B E k : Nat} {w : World} {s : Sl} {rows : List (List Value)} (h : OwnK B E k w s rows) (hk : 0 < k) {b : Nat} (hb : s.blk = some b) : ∃ cs, Row w b cs E := by
 rcases h.form hk with ⟨hs, -⟩ | ⟨g0, cs, ha, hg0, hr, -⟩
 ·rw [hs] at hb; cases hb
 ·unfold Sl.blk at hb; rw [ha] at hb
  have : g0 = b := by simpa using hb
  exact ⟨cs, this ▸ hr⟩
end Go.Vc
namespace Go.Runs
open Go Go.Vc
abbrev Rn := Int × Int
def cellsR (l : List Rn) : List Int := l.flatMap fun r => List.replicate r.1.toNat r.2
def pushR (out : List Rn) (r : Rn) : List Rn :=
 if r.1 < 1 then out else
 match out.getLast? with
 | some q => if q.2 = r.2 then out.dropLast ++ [(q.1 + r.1, q.2)] else out ++ [r]
 | none => out ++ [r]
def ofC (c : List Int) : List Rn := c.foldl (fun o b => pushR o (1, b)) []
def sumR (l : List Rn) : Int := (l.map (·.1)).sum
inductive Nm : List Rn → Prop
 | nil : Nm []
 | snoc (l : List Rn) (r : Rn) (h : Nm l) (h1 : 1 ≤ r.1) (h2 : ∀ q, l.getLast? = some q → q.2 ≠ r.2) : Nm (l ++ [r])
theorem push_none {o : List Rn} {r : Rn} (h : r.1 < 1) : pushR o r = o := by unfold pushR; rw [if_pos h]
theorem push_same {l : List Rn} {q r : Rn} (h1 : 1 ≤ r.1) (e : q.2 = r.2) : pushR (l ++ [q]) r = l ++ [(q.1 + r.1, q.2)] := by
 unfold pushR
 have hl : (l ++ [q]).getLast? = some q := by simp
 rw [if_neg (by omega), hl]
 simp [e]
theorem push_new {l : List Rn} {r : Rn} (h1 : 1 ≤ r.1) (h2 : ∀ q, l.getLast? = some q → q.2 ≠ r.2) : pushR l r = l ++ [r] := by
 unfold pushR
 rw [if_neg (by omega)]
 split
 ·rename_i q hq
  rw [if_neg (h2 q hq)]
 ·rfl
theorem snoc_cases (l : List Rn) : l = [] ∨ ∃ m q, l = m ++ [q] := by
 rcases List.eq_nil_or_concat l with h | ⟨m, q, h⟩
 ·exact .inl h
 ·exact .inr ⟨m, q, by simpa using h⟩
theorem push_push (o : List Rn) {a c b : Int} (ha : 1 ≤ a) (hc : 1 ≤ c) : pushR (pushR o (a, b)) (c, b) = pushR o (a + c, b) := by
 have hac : 1 ≤ a + c := by omega
 rcases snoc_cases o with rfl | ⟨m, q, rfl⟩
 ·rw [push_new (l := []) (r := (a, b)) ha (by simp), push_new (l := []) (r := (a + c, b)) hac (by simp), push_same (q := (a, b)) (r := (c, b)) hc rfl]
 ·by_cases e : q.2 = b
  ·rw [push_same (r := (a, b)) ha e, push_same (r := (a + c, b)) hac e, push_same (q := (q.1 + a, q.2)) (r := (c, b)) hc e]
   simp [Int.add_assoc]
  ·have h2 : ∀ x : Int, ∀ p, (m ++ [q]).getLast? = some p → p.2 ≠ ((x, b) : Rn).2 := by
    intro x p hp
    simp at hp; subst hp; exact e
   rw [push_new (r := (a, b)) ha (h2 a), push_new (r := (a + c, b)) hac (h2 _), push_same (q := (a, b)) (r := (c, b)) hc rfl]
theorem push_rep (o : List Rn) (b : Int) : ∀ n : Nat, (List.replicate n b).foldl (fun o b => pushR o (1, b)) o = pushR o ((n : Int), b)
 | 0 => by rw [push_none (by simp)]; rfl
 | n + 1 => by
   rw [List.replicate_succ', List.foldl_append, push_rep o b n]
   show pushR (pushR o ((n : Int), b)) (1, b) = _
   rcases Nat.eq_zero_or_pos n with rfl | hn
   ·rw [push_none (r := (((0 : Nat) : Int), b)) (by simp)]; rfl
   ·rw [push_push o (by omega) (by omega)]; rfl
theorem ofC_app (c d : List Int) : ofC (c ++ d) = d.foldl (fun o b => pushR o (1, b)) (ofC c) := by unfold ofC; rw [List.foldl_append]
theorem push_ofC (c : List Int) (r : Rn) : pushR (ofC c) r = ofC (c ++ List.replicate r.1.toNat r.2) := by
 rw [ofC_app, push_rep]
 rcases Int.lt_or_le r.1 1 with h | h
 ·rw [push_none h, push_none (by show ((r.1.toNat : Nat) : Int) < 1; omega)]
 ·rw [show ((r.1.toNat : Nat) : Int) = r.1 from by omega]
theorem Nm.push {o : List Rn} (h : Nm o) (r : Rn) : Nm (pushR o r) := by
 rcases Int.lt_or_le r.1 1 with h1 | h1
 ·rw [push_none h1]; exact h
 ·cases h with
  | nil => rw [push_new h1 (by simp)]; exact .snoc _ _ .nil h1 (by simp)
  | snoc l q hl hq h2 =>
    by_cases e : q.2 = r.2
    ·rw [push_same h1 e]
     exact .snoc _ _ hl (by show 1 ≤ q.1 + r.1; omega) h2
    ·have h3 : ∀ p, (l ++ [q]).getLast? = some p → p.2 ≠ r.2 := by
      intro p hp; simp at hp; subst hp; exact e
     rw [push_new h1 h3]
     exact .snoc _ _ (.snoc _ _ hl hq h2) h1 h3
theorem Nm_ofC (c : List Int) : Nm (ofC c) := by
 have : ∀ (c : List Int) (o : List Rn), Nm o → Nm (c.foldl (fun o b => pushR o (1, b)) o) := by
  intro c
  induction c with
  | nil => intro o h; exact h
  | cons b c ih => intro o h; exact ih _ (h.push _)
 exact this c [] .nil
theorem cellsR_app (l m : List Rn) : cellsR (l ++ m) = cellsR l ++ cellsR m := by unfold cellsR; rw [List.flatMap_append]
theorem cellsR_one (r : Rn) : cellsR [r] = List.replicate r.1.toNat r.2 := by simp [cellsR]
theorem Nm.fix {l : List Rn} (h : Nm l) : ofC (cellsR l) = l := by
 induction h with
 | nil => rfl
 | snoc l r hl h1 h2 ih =>
   rw [cellsR_app, cellsR_one, ← push_ofC, ih, push_new h1 h2]
theorem Nm.pos {l : List Rn} (h : Nm l) : ∀ r ∈ l, 1 ≤ r.1 := by
 induction h with
 | nil => simp
 | snoc l r hl h1 h2 ih =>
   intro q hq
   rcases List.mem_append.1 hq with hq | hq
   ·exact ih q hq
   ·simp at hq; rw [hq]; exact h1
theorem cells_push {o : List Rn} (h : Nm o) (r : Rn) : cellsR (pushR o r) = cellsR o ++ List.replicate r.1.toNat r.2 := by
 rcases Int.lt_or_le r.1 1 with h1 | h1
 ·rw [push_none h1, show r.1.toNat = 0 from by omega]; simp
 ·cases h with
  | nil => rw [push_new h1 (by simp), cellsR_app, cellsR_one]
  | snoc l q hl hq h2 =>
    by_cases e : q.2 = r.2
    ·rw [push_same h1 e, cellsR_app, cellsR_app, cellsR_one, cellsR_one]
     show _ ++ List.replicate (q.1 + r.1).toNat q.2 = _
     rw [show (q.1 + r.1).toNat = q.1.toNat + r.1.toNat from by omega, ← List.replicate_append_replicate, e]
     simp
    ·rw [push_new h1 (by intro p hp; simp at hp; subst hp; exact e), cellsR_app, cellsR_one]
theorem cells_ofC (c : List Int) : cellsR (ofC c) = c := by
 have : ∀ (c : List Int) (o : List Rn), Nm o → cellsR (c.foldl (fun o b => pushR o (1, b)) o) = cellsR o ++ c := by
  intro c
  induction c with
  | nil => intro o h; simp
  | cons b c ih => intro o h; rw [List.foldl_cons, ih _ (h.push _), cells_push h]; simp
 rw [ofC, this c [] .nil]; rfl
theorem sumR_app (l m : List Rn) : sumR (l ++ m) = sumR l + sumR m := by simp [sumR]
theorem sumR_cells {l : List Rn} (h : ∀ r ∈ l, 0 ≤ r.1) : sumR l = ((cellsR l).length : Nat) := by
 induction l with
 | nil => rfl
 | cons r l ih =>
   have := ih fun q hq => h q (.tail _ hq)
   have hr := h r (.head _)
   simp only [sumR, List.map_cons, List.sum_cons] at this ⊢
   rw [this]
   simp [cellsR]
   omega
theorem sumR_ofC (c : List Int) : sumR (ofC c) = (c.length : Nat) := by
 rw [sumR_cells fun r hr => by have := (Nm_ofC c).pos r hr; omega, cells_ofC]
theorem Nm.len_le {l : List Rn} (h : Nm l) : l.length ≤ (cellsR l).length := by
 induction h with
 | nil => simp
 | snoc l r hl h1 h2 ih => rw [cellsR_app, cellsR_one]; simp; omega
theorem ofC_len (c : List Int) : (ofC c).length ≤ c.length := by
 have := (Nm_ofC c).len_le
 rwa [cells_ofC] at this
end Go.Runs
namespace Go.Runs
theorem mem_sum {l : List Rn} (h : ∀ r ∈ l, 0 ≤ r.1) {q : Rn} (hq : q ∈ l) : q.1 ≤ sumR l := by
 induction l with
 | nil => cases hq
 | cons r l ih =>
   have hr := h r (.head _)
   have hl : 0 ≤ sumR l := by rw [sumR_cells fun q hq => h q (.tail _ hq)]; omega
   have e : sumR (r :: l) = r.1 + sumR l := by simp [sumR]
   rw [e]
   rcases List.mem_cons.1 hq with rfl | hq
   ·omega
   ·have := ih (fun q hq => h q (.tail _ hq)) hq; omega
theorem mem_ofC {c : List Int} {q : Rn} (hq : q ∈ ofC c) : 1 ≤ q.1 ∧ q.1 ≤ (c.length : Nat) := by
 have h := (Nm_ofC c).pos
 refine ⟨h q hq, ?_⟩
 rw [← sumR_ofC]
 exact mem_sum (fun r hr => by have := h r hr; omega) hq
def seg (c : List Int) (a b : Int) : List Int := (c.take b.toNat).drop a.toNat
theorem seg_snoc (c : List Int) (n : Nat) (x a b : Int) (ha : 0 ≤ a) (hb : 0 ≤ b) :
  seg (c ++ List.replicate n x) a b = seg c a b ++ List.replicate (min b (c.length + n : Nat) - max a (c.length : Nat)).toNat x := by
 unfold seg
 rw [List.take_append, List.drop_append, List.take_replicate, List.drop_replicate, List.length_take]
 congr 2
 omega
end Go.Runs
namespace Go.Runs
def fillC (c : List Int) (a b x : Int) : List Int := c.mapIdx fun i y => if a ≤ (i : Int) ∧ (i : Int) < b then x else y
theorem fillC_len (c : List Int) (a b x : Int) : (fillC c a b x).length = c.length := by simp [fillC]
theorem fillC_none (c : List Int) (a b x : Int) (h : min (max b 0) (c.length : Int) ≤ min (max a 0) (c.length : Int)) : fillC c a b x = c := by
 apply List.ext_getElem?
 intro i
 unfold fillC
 rw [List.getElem?_mapIdx]
 rcases Nat.lt_or_ge i c.length with hi | hi
 ·rw [List.getElem?_eq_getElem hi]
  show some (if _ then x else _) = _
  rw [if_neg (by omega)]
 ·rw [List.getElem?_eq_none hi]; rfl
theorem fillC_seg (c : List Int) (a b x : Int) (h : min (max a 0) (c.length : Int) < min (max b 0) (c.length : Int)) :
  fillC c a b x = seg c 0 (min (max a 0) (c.length : Int)) ++ List.replicate (min (max b 0) (c.length : Int) - min (max a 0) (c.length : Int)).toNat x ++ seg c (min (max b 0) (c.length : Int)) c.length := by
 have h1 : (seg c 0 (min (max a 0) (c.length : Int))).length = (min (max a 0) (c.length : Int)).toNat := by unfold seg; simp; omega
 apply List.ext_getElem?
 intro i
 unfold fillC
 rw [List.getElem?_mapIdx, List.append_assoc]
 rcases Nat.lt_or_ge i c.length with hi | hi
 ·rw [List.getElem?_eq_getElem hi]
  show some (if _ then x else _) = _
  rcases Nat.lt_or_ge i (min (max a 0) (c.length : Int)).toNat with hl | hl
  ·rw [if_neg (by omega), List.getElem?_append_left (by omega)]
   unfold seg
   rw [List.getElem?_drop, List.getElem?_take]
   simp only [Int.toNat_zero, Nat.zero_add]
   rw [if_pos hl, List.getElem?_eq_getElem hi]
  ·rw [List.getElem?_append_right (by omega), h1]
   rcases Nat.lt_or_ge i (min (max b 0) (c.length : Int)).toNat with hm | hm
   ·rw [if_pos (by omega), List.getElem?_append_left (by rw [List.length_replicate]; omega), List.getElem?_replicate, if_pos (by omega)]
   ·rw [if_neg (by omega), List.getElem?_append_right (by rw [List.length_replicate]; omega), List.length_replicate]
    unfold seg
    rw [List.getElem?_drop, List.getElem?_take, if_pos (by omega)]
    rw [show (min (max b 0) (c.length : Int)).toNat + (i - (min (max a 0) (c.length : Int)).toNat - (min (max b 0) (c.length : Int) - min (max a 0) (c.length : Int)).toNat) = i from by omega]
    rw [List.getElem?_eq_getElem hi]
 ·rw [List.getElem?_eq_none hi]
  symm
  rw [Option.map_none, List.getElem?_eq_none]
  simp only [List.length_append, List.length_replicate, h1]
  unfold seg
  simp
  omega
theorem fillC_one (c : List Int) (i x : Int) (h0 : 0 ≤ i) (h1 : i < (c.length : Int)) : fillC c i (i + 1) x = c.set i.toNat x := by
 apply List.ext_getElem?
 intro j
 unfold fillC
 rw [List.getElem?_mapIdx, List.getElem?_set]
 rcases Nat.lt_or_ge j c.length with hj | hj
 ·rw [List.getElem?_eq_getElem hj]
  show some (if _ then x else _) = _
  by_cases e : i.toNat = j
  ·rw [if_pos (by omega), if_pos e, if_pos (by omega)]
  ·rw [if_neg (by omega), if_neg e]
 ·rw [List.getElem?_eq_none hj, if_neg (by omega)]; rfl
def atC (c : List Int) (i : Int) : Int := if i < 0 then -1 else c.getD i.toNat (-1)
theorem atC_out (c : List Int) (i : Int) (h : i < 0 ∨ (c.length : Int) ≤ i) : atC c i = -1 := by
 unfold atC
 split
 ·rfl
 ·rw [List.getD_eq_getElem?_getD, List.getElem?_eq_none (by omega)]; rfl
theorem atC_in (c d : List Int) (n : Nat) (x i : Int) (h0 : (c.length : Int) ≤ i) (h1 : i < (c.length : Int) + n) : atC (c ++ List.replicate n x ++ d) i = x := by
 unfold atC
 rw [if_neg (by omega), List.getD_eq_getElem?_getD, List.append_assoc, List.getElem?_append_right (by omega), List.getElem?_append_left (by rw [List.length_replicate]; omega), List.getElem?_replicate, if_pos (by omega)]
 rfl
def mayL (may : Int → Bool) : Option Int → Int → List Rn → Bool
 | _, left, [] => left == 0
 | prev, left, r :: t => if r.1 < 1 ∨ r.1 > left ∨ may r.2 = false ∨ prev = some r.2 then false else mayL may (some r.2) (left - r.1) t
def mayR (may : Int → Bool) (l : List Rn) (n : Int) : Bool := decide (0 < n) && mayL may none n l
theorem mayL_sum {may : Int → Bool} : ∀ {l : List Rn} {prev : Option Int} {left : Int}, mayL may prev left l = true → sumR l = left
 | [], _, left, h => by simp [mayL] at h; rw [h]; rfl
 | r :: t, prev, left, h => by
   unfold mayL at h
   split at h
   ·cases h
   ·have := mayL_sum h
    simp only [sumR, List.map_cons, List.sum_cons] at this ⊢
    omega
theorem mayL_true {may : Int → Bool} : ∀ {l : List Rn} {prev : Option Int} {left : Int}, (∀ r ∈ l, 1 ≤ r.1 ∧ may r.2 = true) → (∀ i q r, l[i]? = some q → l[i + 1]? = some r → q.2 ≠ r.2) → (∀ r, l.head? = some r → prev ≠ some r.2) → sumR l = left → mayL may prev left l = true
 | [], _, left, _, _, _, h => by simp [mayL, ← h, sumR]
 | r :: t, prev, left, h1, h2, h3, h => by
   have hr := h1 r (.head _)
   have ht : 0 ≤ sumR t := by rw [sumR_cells fun q hq => by have := h1 q (.tail _ hq); omega]; omega
   have e : sumR (r :: t) = r.1 + sumR t := by simp [sumR]
   unfold mayL
   rw [if_neg (by
    have := h3 r rfl
    rintro (h | h | h | h)
    ·omega
    ·omega
    ·rw [hr.2] at h; cases h
    ·exact this h)]
   refine mayL_true (fun q hq => h1 q (.tail _ hq)) (fun i q s hq hs => h2 (i + 1) q s (by simpa using hq) (by simpa using hs)) (fun q hq => ?_) (by omega)
   have := h2 0 r q rfl (by cases t <;> simp_all)
   intro e2; exact this (Option.some.inj e2)
theorem Nm.next {l : List Rn} (h : Nm l) : ∀ i q r, l[i]? = some q → l[i + 1]? = some r → q.2 ≠ r.2 := by
 induction h with
 | nil => intro i q r h; simp at h
 | snoc l p hl h1 h2 ih =>
   intro i q r hq hr
   rcases Nat.lt_or_ge (i + 1) l.length with hlt | hge
   ·rw [List.getElem?_append_left (by omega)] at hq hr
    exact ih i q r hq hr
   ·have hi := (List.getElem?_eq_some_iff.1 hr).1
    simp at hi
    have : i + 1 = l.length := by omega
    rw [List.getElem?_append_left (by omega)] at hq
    rw [List.getElem?_append_right (by omega), this] at hr
    simp at hr; subst hr
    refine h2 q ?_
    rw [List.getLast?_eq_getElem?, show l.length - 1 = i from by omega]
    exact hq
theorem mem_cells {l : List Rn} {r : Rn} (h : r ∈ l) (h1 : 1 ≤ r.1) : r.2 ∈ cellsR l := by
 unfold cellsR
 refine List.mem_flatMap.2 ⟨r, h, ?_⟩
 rw [List.mem_replicate]
 exact ⟨by omega, rfl⟩
end Go.Runs
namespace Go.Runs
theorem atC_get {c : List Int} {i : Int} (h0 : 0 ≤ i) (h1 : i < (c.length : Int)) : c[i.toNat]? = some (atC c i) := by
 unfold atC
 rw [if_neg (by omega), List.getD_eq_getElem?_getD, List.getElem?_eq_getElem (by omega)]; rfl
end Go.Runs
namespace Go.Code
open Go Go.Vc Go.Runs
def numF : Nat → Int → List Int
 | 0, _ => []
 | k + 1, x => if x < 128 then [x] else (128 + x % 128) :: numF k (x / 128)
def numB (n : Int) : List Int := if n < 0 ∨ n > 1048576 then [] else numF 3 n
def digG : Nat → Nat → Int → List Int → Int × Int × Int
 | 0, _, _, _ => (0, 0, 2)
 | _ + 1, _, _, [] => (0, 0, 3)
 | k + 1, i, n, c :: t => if c ≥ 128 then digG k (i + 1) (n + c % 128 * 128 ^ i) t
   else if (c = 0 ∧ 0 < i) ∨ n + c % 128 * 128 ^ i > 1048576 then (0, 0, 2) else (n + c % 128 * 128 ^ i, (i : Int) + 1, 0)
def digB (b : List Int) : Int × Int × Int := digG 3 0 0 b
theorem wrap_u8 (x : Int) : IntKind.wrap .u8 x = x % 256 := by
 unfold IntKind.wrap
 simp [IntKind.bits, IntKind.signed]
theorem or128 (x : Int) (h : 0 ≤ x) : bOr .u8 (IntKind.wrap .u8 x) 128 = 128 + x % 128 := by
 rw [wrap_u8]
 have key : ∀ a < 256, bOr .u8 ((a : Nat) : Int) 128 = 128 + ((a : Nat) : Int) % 128 := by decide +kernel
 have := key (x % 256).toNat (by omega)
 rw [show (((x % 256).toNat : Nat) : Int) = x % 256 from by omega] at this
 rw [this]; omega
theorem andNot128 (c : Int) (h : 0 ≤ c) (h' : c < 256) : bAndNot .u8 c 128 = c % 128 := by
 have key : ∀ a < 256, bAndNot .u8 ((a : Nat) : Int) 128 = ((a : Nat) : Int) % 128 := by decide +kernel
 have := key c.toNat (by omega)
 rwa [show ((c.toNat : Nat) : Int) = c from by omega] at this
theorem or_add (n c k : Nat) (h : n < 2 ^ k) (hb : n + c * 2 ^ k < 4611686018427387904) : bOr .i64 (n : Int) ((c * 2 ^ k : Nat) : Int) = ((n + c * 2 ^ k : Nat) : Int) := by
 unfold bOr
 have e1 : ∀ m : Nat, m < 4611686018427387904 → (BitVec.ofInt IntKind.i64.bits (m : Int)).toNat = m := by
  intro m hm
  rw [BitVec.toNat_ofInt]
  show ((m : Int) % ((2 ^ 64 : Nat) : Int)).toNat = m
  rw [show ((2 ^ 64 : Nat) : Int) = 18446744073709551616 from by decide]
  omega
 rw [BitVec.toNat_or, e1 n (by omega), e1 _ (by omega), Nat.or_comm]
 have := Nat.shiftLeft_add_eq_or_of_lt h c
 rw [Nat.shiftLeft_eq] at this
 rw [← this, Nat.add_comm]
 exact wrap_in (by unfold inI; omega)
end Go.Code
namespace Go.Code
open Go Go.Vc Go.Runs
theorem orStep (k : Nat) (hk : k < 3) (n c : Int) (h0 : 0 ≤ n) (h1 : n < 128 ^ k) (hc : 0 ≤ c) (hc' : c < 256) :
  bOr .i64 n (IntKind.wrap .i64 ((IntKind.wrap .i64 (bAndNot .u8 c 128)) * 2 ^ (min ((IntKind.wrap .i64 (7 * (k : Int))) : Int).toNat 64))) = n + c % 128 * 128 ^ k ∧ 0 ≤ IntKind.wrap .i64 (7 * (k : Int)) := by
 have hw := wrap_in (n := 7 * (k : Int)) (by unfold inI; omega)
 rw [hw, andNot128 c hc hc', wrap_in (n := c % 128) (by unfold inI; omega)]
 refine ⟨?_, by omega⟩
 have e : ((2 : Int) ^ (min ((7 * (k : Int)) : Int).toNat 64)) = 128 ^ k := by
  have : k = 0 ∨ k = 1 ∨ k = 2 := by omega
  rcases this with rfl | rfl | rfl <;> decide
 rw [e]
 have hp : (128 : Int) ^ k ≤ 16384 ∧ 1 ≤ (128 : Int) ^ k := by
  have : k = 0 ∨ k = 1 ∨ k = 2 := by omega
  rcases this with rfl | rfl | rfl <;> decide
 have hm : c % 128 * 128 ^ k ≤ 127 * 16384 := by
  have : k = 0 ∨ k = 1 ∨ k = 2 := by omega
  rcases this with rfl | rfl | rfl <;> simp <;> omega
 have hm0 : 0 ≤ c % 128 * 128 ^ k := Int.mul_nonneg (by omega) (by omega)
 rw [wrap_in (n := c % 128 * 128 ^ k) (by unfold inI; omega)]
 have e7 : ((2 ^ (7 * k) : Nat) : Int) = 128 ^ k := by
  have : k = 0 ∨ k = 1 ∨ k = 2 := by omega
  rcases this with rfl | rfl | rfl <;> decide
 have e2 : c % 128 * 128 ^ k = (((c % 128).toNat * 2 ^ (7 * k) : Nat) : Int) := by
  rw [Int.natCast_mul, e7, show (((c % 128).toNat : Nat) : Int) = c % 128 from by omega]
 have := or_add n.toNat (c % 128).toNat (7 * k) (by
  have : ((n.toNat : Nat) : Int) < ((2 ^ (7 * k) : Nat) : Int) := by rw [e7]; omega
  omega) (by
  have : (((c % 128).toNat * 2 ^ (7 * k) : Nat) : Int) ≤ 127 * 16384 := by rw [← e2]; exact hm
  omega)
 rw [e2, show n = ((n.toNat : Nat) : Int) from by omega]
 rw [this]; simp
theorem digStep {k j : Nat} {n c : Int} {t : List Int} : digG (j + 1) k n (c :: t) = if c ≥ 128 then digG j (k + 1) (n + c % 128 * 128 ^ k) t
   else if (c = 0 ∧ 0 < k) ∨ n + c % 128 * 128 ^ k > 1048576 then (0, 0, 2) else (n + c % 128 * 128 ^ k, (k : Int) + 1, 0) := rfl
theorem pow_step (k : Nat) (n c : Int) (h1 : n < 128 ^ k) : n + c % 128 * 128 ^ k < 128 ^ (k + 1) := by
 have hp : 0 ≤ (128 : Int) ^ k := Int.pow_nonneg (by omega)
 have : c % 128 * 128 ^ k ≤ 127 * 128 ^ k := Int.mul_le_mul_of_nonneg_right (by omega) hp
 rw [Int.pow_succ]; omega
end Go.Code
namespace Go.Code
open Go Go.Vc Go.Runs
def chkL : Int → List Rn → Bool
 | _, [] => true
 | left, r :: t => if r.1 < 1 ∨ r.1 > left then false else chkL (left - r.1) t
theorem chkL_pos : ∀ {l : List Rn} {left : Int}, chkL left l = true → (∀ r ∈ l, 1 ≤ r.1) ∧ (l ≠ [] → sumR l ≤ left)
 | [], _, _ => ⟨by simp, fun h => absurd rfl h⟩
 | r :: t, left, h => by
   unfold chkL at h
   split at h
   ·cases h
   ·obtain ⟨h1, h2⟩ := chkL_pos h
    refine ⟨fun q hq => ?_, fun _ => ?_⟩
    ·rcases List.mem_cons.1 hq with rfl | hq
     ·omega
     ·exact h1 q hq
    ·have e : sumR (r :: t) = r.1 + sumR t := by simp [sumR]
     by_cases ht : t = []
     ·subst ht; rw [e]; simp [sumR]; omega
     ·have := h2 ht; omega
def okW (may : Int → Bool) (l : List Rn) : Bool := chkL 1048576 l && mayR may l (sumR l)
def wrB (l : List Rn) : List Int := l.flatMap fun r => r.2 % 256 :: numB r.1
theorem wrB_app (l m : List Rn) : wrB (l ++ m) = wrB l ++ wrB m := by unfold wrB; rw [List.flatMap_append]
theorem wrB_succ {l : List Rn} {k : Nat} {r : Rn} (hr : l[k]? = some r) : wrB (l.take (k + 1)) = wrB (l.take k) ++ (r.2 % 256 :: numB r.1) := by
 rw [List.take_add_one, hr, wrB_app]; simp [wrB]
theorem numF_len : ∀ (k : Nat) (x : Int), (numF k x).length ≤ k
 | 0, _ => by simp [numF]
 | k + 1, x => by
   unfold numF
   split
   ·simp
   ·have := numF_len k (x / 128); simp; omega
theorem numB_len (n : Int) : (numB n).length ≤ 3 := by
 unfold numB
 split
 ·simp
 ·exact numF_len 3 n
theorem wrB_len (l : List Rn) : (wrB l).length ≤ 4 * l.length := by
 induction l with
 | nil => simp [wrB]
 | cons r l ih =>
   have := numB_len r.1
   unfold wrB at ih ⊢
   rw [List.flatMap_cons, List.length_append, List.length_cons, List.length_cons]
   omega
theorem numF_in : ∀ (k : Nat) (x : Int), 0 ≤ x → ∀ c ∈ numF k x, 0 ≤ c ∧ c < 256
 | 0, _, _, c, h => by simp [numF] at h
 | k + 1, x, hx, c, h => by
   unfold numF at h
   split at h
   ·simp at h; omega
   ·rcases List.mem_cons.1 h with rfl | h
    ·omega
    ·exact numF_in k (x / 128) (by omega) c h
theorem numB_in (n : Int) : ∀ c ∈ numB n, 0 ≤ c ∧ c < 256 := by
 intro c h
 unfold numB at h
 split at h
 ·simp at h
 ·exact numF_in 3 n (by omega) c h
theorem wrB_in (l : List Rn) : ∀ c ∈ wrB l, 0 ≤ c ∧ c < 256 := by
 intro c h
 unfold wrB at h
 obtain ⟨r, _, hc⟩ := List.mem_flatMap.1 h
 rcases List.mem_cons.1 hc with rfl | hc
 ·omega
 ·exact numB_in r.1 c hc
end Go.Code
namespace Go.Code
open Go Go.Vc Go.Runs
end Go.Code
namespace Go.Code
open Go Go.Vc Go.Runs
theorem chkL_true : ∀ {l : List Rn} {left : Int}, (∀ r ∈ l, 1 ≤ r.1) → sumR l ≤ left → chkL left l = true
 | [], _, _, _ => rfl
 | r :: t, left, h, hs => by
   have e : sumR (r :: t) = r.1 + sumR t := by simp [sumR]
   have h1 := h r (.head _)
   have ht : 0 ≤ sumR t := by rw [sumR_cells fun q hq => by have := h q (.tail _ hq); omega]; omega
   unfold chkL
   rw [if_neg (by omega)]
   exact chkL_true (fun q hq => h q (.tail _ hq)) (by omega)
theorem okW_nm {may : Int → Bool} {l : List Rn} (h : Nm l) (hm : ∀ r ∈ l, may r.2 = true) (hs : sumR l ≤ 1048576) (hne : l ≠ []) : okW may l = true := by
 unfold okW
 rw [chkL_true h.pos hs]
 unfold mayR
 have hp : 0 < sumR l := by
  cases l with
  | nil => exact absurd rfl hne
  | cons r t =>
    have e : sumR (r :: t) = r.1 + sumR t := by simp [sumR]
    have h1 := h.pos r (.head _)
    have ht : 0 ≤ sumR t := by rw [sumR_cells fun q hq => by have := h.pos q (.tail _ hq); omega]; omega
    omega
 rw [decide_eq_true hp, mayL_true (fun r hr => ⟨h.pos r hr, hm r hr⟩) h.next (fun r _ => by simp) rfl]
 rfl
end Go.Code
namespace Go.Code
open Go Go.Vc Go.Runs
def readG (may : Int → Bool) : Nat → List Int → Int → Int → List Rn → List Rn × Int
 | 0, _, _, _, _ => ([], 3)
 | _ + 1, [], n, _, acc => if n > 0 then ([], 3) else (acc, 0)
 | f + 1, c :: t, n, last, acc =>
   if may c = false ∨ c = last then ([], 2)
   else if (digB t).2.2 ≠ 0 then ([], (digB t).2.2)
   else if (digB t).1 = 0 ∨ (digB t).1 > n then ([], 2)
   else if n - (digB t).1 = 0 then (if t.drop (digB t).2.1.toNat = [] then (acc ++ [((digB t).1, c)], 0) else ([], 2))
   else readG may f (t.drop (digB t).2.1.toNat) (n - (digB t).1) c (acc ++ [((digB t).1, c)])
def readB (may : Int → Bool) (b : List Int) (n : Int) : List Rn × Int := readG may (b.length + 1) b n (-1) []
theorem digG_ok : ∀ (k i : Nat) (m : Int) (b : List Int), 0 ≤ m → (digG k i m b).2.2 = 0 → 0 ≤ (digG k i m b).1 ∧ (digG k i m b).1 ≤ 1048576 ∧ (i : Int) + 1 ≤ (digG k i m b).2.1 ∧ (digG k i m b).2.1 ≤ (i : Int) + b.length
 | 0, _, _, _, _, h => by simp [digG] at h
 | k + 1, i, m, [], _, h => by simp [digG] at h
 | k + 1, i, m, c :: t, h0, h => by
   have hp : 0 ≤ c % 128 * 128 ^ i := Int.mul_nonneg (by omega) (Int.pow_nonneg (by omega))
   rw [digStep] at h ⊢
   split
   ·rename_i hc
    rw [if_pos hc] at h
    have := digG_ok k (i + 1) _ t (by omega) h
    simp only [List.length_cons]
    omega
   ·rename_i hc
    rw [if_neg hc] at h
    split
    ·rename_i hz; rw [if_pos hz] at h; simp at h
    ·rename_i hz
     simp only [List.length_cons]
     refine ⟨by omega, ?_, by omega, by omega⟩
     rcases Int.lt_or_le 1048576 (m + c % 128 * 128 ^ i) with hh | hh
     ·exact absurd (.inr hh) hz
     ·exact hh
end Go.Code
namespace Go.Code
open Go Go.Vc Go.Runs
theorem readG_nil {may : Int → Bool} {f : Nat} {n last : Int} {acc : List Rn} : readG may (f + 1) [] n last acc = if n > 0 then ([], 3) else (acc, 0) := rfl
theorem readG_cons' (may : Int → Bool) (f : Nat) (c : Int) (t : List Int) (n last : Int) (acc : List Rn) : readG may (f + 1) (c :: t) n last acc =
  if may c = false ∨ c = last then ([], 2)
  else if (digB t).2.2 ≠ 0 then ([], (digB t).2.2)
  else if (digB t).1 = 0 ∨ (digB t).1 > n then ([], 2)
  else if n - (digB t).1 = 0 then (if t.drop (digB t).2.1.toNat = [] then (acc ++ [((digB t).1, c)], 0) else ([], 2))
  else readG may f (t.drop (digB t).2.1.toNat) (n - (digB t).1) c (acc ++ [((digB t).1, c)]) := rfl
theorem readG_len {may : Int → Bool} : ∀ (f : Nat) (b : List Int) (n last : Int) (acc : List Rn), (readG may f b n last acc).1.length ≤ acc.length + b.length
 | 0, _, _, _, _ => by simp [readG]
 | f + 1, [], n, _, acc => by rw [readG_nil]; split <;> simp
 | f + 1, c :: t, n, last, acc => by
   rw [readG_cons']
   split
   ·simp
   split
   ·simp
   split
   ·simp
   split
   ·split <;> simp
   ·have := readG_len (may := may) f (t.drop (digB t).2.1.toNat) (n - (digB t).1) c (acc ++ [((digB t).1, c)])
    simp only [List.length_append, List.length_cons, List.length_nil, List.length_drop] at this ⊢
    omega
theorem readB_len {may : Int → Bool} (b : List Int) (n : Int) : (readB may b n).1.length ≤ b.length := by
 have := readG_len (may := may) (b.length + 1) b n (-1) []
 simpa [readB] using this
def Follow (may : Int → Bool) : Int → List Rn → Prop
 | _, [] => True
 | last, r :: t => 1 ≤ r.1 ∧ r.1 ≤ 1048576 ∧ 0 ≤ r.2 ∧ r.2 < 256 ∧ may r.2 = true ∧ r.2 ≠ last ∧ Follow may r.2 t
theorem Follow.pos {may : Int → Bool} : ∀ {l : List Rn} {last : Int}, Follow may last l → ∀ r ∈ l, 1 ≤ r.1
 | [], _, _ => by simp
 | q :: t, _, h => by
   obtain ⟨h1, _, _, _, _, _, h7⟩ := h
   intro r hr
   rcases List.mem_cons.1 hr with rfl | hr
   ·exact h1
   ·exact h7.pos r hr
theorem wrB_cons (r : Rn) (t : List Rn) (h : 0 ≤ r.2 ∧ r.2 < 256) : wrB (r :: t) = r.2 :: (numB r.1 ++ wrB t) := by
 unfold wrB
 rw [List.flatMap_cons, Int.emod_eq_of_lt h.1 h.2]; rfl
theorem sumR_cons (r : Rn) (t : List Rn) : sumR (r :: t) = r.1 + sumR t := by simp [sumR]
theorem numB_dig {t : List Int} (hi : ∀ c ∈ t, 0 ≤ c ∧ c < 256) (h : (digB t).2.2 = 0) : numB (digB t).1 = t.take (digB t).2.1.toNat := by
 unfold digB at h ⊢
 cases t with
 | nil => simp [digG] at h
 | cons a t =>
   have ha := hi a (.head _)
   rw [digStep] at h ⊢
   split
   ·rename_i ha2
    rw [if_pos ha2] at h
    cases t with
    | nil => simp [digG] at h
    | cons b t =>
      have hb := hi b (.tail _ (.head _))
      rw [digStep] at h ⊢
      split
      ·rename_i hb2
       rw [if_pos hb2] at h
       cases t with
       | nil => simp [digG] at h
       | cons c t =>
         have hc := hi c (.tail _ (.tail _ (.head _)))
         rw [digStep] at h ⊢
         split
         ·rename_i hc2
          rw [if_pos hc2] at h
          simp [digG] at h
         ·rename_i hc2
          rw [if_neg hc2] at h
          split
          ·rename_i hz; rw [if_pos hz] at h; simp at h
          ·rename_i hz
           have e : (0 + a % 128 * 128 ^ 0 + b % 128 * 128 ^ (0 + 1) + c % 128 * 128 ^ (0 + 1 + 1) : Int) = a % 128 + b % 128 * 128 + c % 128 * 16384 := by
            simp
           rw [e] at hz ⊢
           have hc0 : c ≠ 0 := fun e0 => hz (.inl ⟨e0, by omega⟩)
           have hle : a % 128 + b % 128 * 128 + c % 128 * 16384 ≤ 1048576 := by
            rcases Int.lt_or_le 1048576 (a % 128 + b % 128 * 128 + c % 128 * 16384) with hh | hh
            ·exact absurd (.inr hh) hz
            ·exact hh
           have ec : c % 128 = c := by omega
           rw [ec] at hle ⊢
           unfold numB
           rw [if_neg (by omega)]
           simp only [numF]
           rw [if_neg (by omega), if_neg (by omega), if_pos (by omega)]
           have e1 : 128 + (a % 128 + b % 128 * 128 + c * 16384) % 128 = a := by omega
           have e2 : 128 + (a % 128 + b % 128 * 128 + c * 16384) / 128 % 128 = b := by omega
           have e3 : (a % 128 + b % 128 * 128 + c * 16384) / 128 / 128 = c := by omega
           rw [e1, e2, e3]
           rfl
      ·rename_i hb2
       rw [if_neg hb2] at h
       split
       ·rename_i hz; rw [if_pos hz] at h; simp at h
       ·rename_i hz
        have e : (0 + a % 128 * 128 ^ 0 + b % 128 * 128 ^ (0 + 1) : Int) = a % 128 + b % 128 * 128 := by simp
        rw [e] at hz ⊢
        have hb0 : b ≠ 0 := fun e0 => hz (.inl ⟨e0, by omega⟩)
        have ec : b % 128 = b := by omega
        rw [ec] at hz ⊢
        unfold numB
        rw [if_neg (by omega)]
        simp only [numF]
        rw [if_neg (by omega), if_pos (by omega)]
        have e1 : 128 + (a % 128 + b * 128) % 128 = a := by omega
        have e2 : (a % 128 + b * 128) / 128 = b := by omega
        rw [e1, e2]
        rfl
   ·rename_i ha2
    rw [if_neg ha2] at h
    split
    ·rename_i hz; rw [if_pos hz] at h; simp at h
    ·have ec : a % 128 = a := by omega
     rw [ec]
     have e : (0 + a * 128 ^ 0 : Int) = a := by simp
     rw [e]
     unfold numB
     rw [if_neg (by omega)]
     simp only [numF]
     rw [if_pos (by omega)]
     rfl
theorem readG_again {may : Int → Bool} : ∀ (f : Nat) (b : List Int) (n last : Int) (acc : List Rn), (∀ c ∈ b, 0 ≤ c ∧ c < 256) → 1 ≤ n → (readG may f b n last acc).2 = 0 →
  ∃ l, (readG may f b n last acc).1 = acc ++ l ∧ wrB l = b ∧ Follow may last l ∧ sumR l = n ∧ l ≠ []
 | 0, _, _, _, _, _, _, h => by simp [readG] at h
 | f + 1, [], n, _, acc, _, hn, h => by rw [readG_nil, if_pos (by omega)] at h; simp at h
 | f + 1, c :: t, n, last, acc, hi, hn, h => by
   have hc := hi c (.head _)
   have ht : ∀ c ∈ t, 0 ≤ c ∧ c < 256 := fun q hq => hi q (.tail _ hq)
   rw [readG_cons'] at h ⊢
   split
   ·rename_i h1; rw [if_pos h1] at h; simp at h
   rename_i h1
   rw [if_neg h1] at h
   split
   ·rename_i h2; rw [if_pos h2] at h; exact absurd h h2
   rename_i h2
   rw [if_neg h2] at h
   split
   ·rename_i h3; rw [if_pos h3] at h; simp at h
   rename_i h3
   rw [if_neg h3] at h
   have h2' : (digB t).2.2 = 0 := Decidable.not_not.1 h2
   have hd := digG_ok 3 0 0 t (by omega) h2'
   have hnum := numB_dig ht h2'
   rw [show digG 3 0 0 t = digB t from rfl] at hd
   generalize hdg : digB t = d at *
   obtain ⟨sz, k, er⟩ := d
   simp only at h h3 hd hnum ⊢
   have hmay : may c = true := by
    cases hm : may c with
    | true => rfl
    | false => exact absurd (.inl hm) h1
   have hcl : c ≠ last := fun e => h1 (.inr e)
   have htk : numB sz ++ t.drop k.toNat = t := by rw [hnum]; exact List.take_append_drop _ _
   split
   ·rename_i h4
    rw [if_pos h4] at h
    split
    ·rename_i h5
     refine ⟨[(sz, c)], rfl, ?_, ⟨by show 1 ≤ sz; omega, by show sz ≤ 1048576; omega, hc.1, hc.2, hmay, hcl, trivial⟩, by simp [sumR]; omega, by simp⟩
     rw [wrB_cons _ _ hc]
     rw [h5, List.append_nil] at htk
     simp [htk, wrB]
    ·rename_i h5; rw [if_neg h5] at h; simp at h
   ·rename_i h4
    rw [if_neg h4] at h
    obtain ⟨l, e1, e2, e3, e4, e5⟩ := readG_again f (t.drop k.toNat) (n - sz) c (acc ++ [(sz, c)]) (fun q hq => ht q (List.mem_of_mem_drop hq)) (by omega) h
    refine ⟨(sz, c) :: l, by rw [e1]; simp, ?_, ⟨by show 1 ≤ sz; omega, by show sz ≤ 1048576; omega, hc.1, hc.2, hmay, hcl, e3⟩, by rw [sumR_cons]; show sz + sumR l = n; omega, by simp⟩
    rw [wrB_cons _ _ hc, e2]
    show c :: (numB sz ++ t.drop k.toNat) = _
    rw [htk]
theorem Follow.of {may : Int → Bool} : ∀ {l : List Rn} {last : Int}, (∀ r ∈ l, 1 ≤ r.1 ∧ r.1 ≤ 1048576 ∧ 0 ≤ r.2 ∧ r.2 < 256 ∧ may r.2 = true) → (∀ i q r, l[i]? = some q → l[i + 1]? = some r → q.2 ≠ r.2) → (∀ r, l.head? = some r → r.2 ≠ last) → Follow may last l
 | [], _, _, _, _ => trivial
 | r :: t, last, h1, h2, h3 => by
   obtain ⟨a, b, c, d, e⟩ := h1 r (.head _)
   refine ⟨a, b, c, d, e, h3 r rfl, Follow.of (fun q hq => h1 q (.tail _ hq)) (fun i q s hq hs => h2 (i + 1) q s (by simpa using hq) (by simpa using hs)) (fun q hq => ?_)⟩
   have := h2 0 r q rfl (by cases t <;> simp_all)
   exact fun e => this e.symm
theorem Follow.next {may : Int → Bool} : ∀ {l : List Rn} {last : Int}, Follow may last l → ∀ i q r, l[i]? = some q → l[i + 1]? = some r → q.2 ≠ r.2
 | [], _, _, i, q, r, h, _ => by simp at h
 | [x], _, _, i, q, r, h, h' => by simp at h'
 | x :: y :: t, _, h, 0, q, r, hq, hr => by
   simp at hq hr; subst hq; subst hr
   exact fun e => h.2.2.2.2.2.2.2.2.2.2.2.1 e.symm
 | x :: y :: t, _, h, i + 1, q, r, hq, hr => h.2.2.2.2.2.2.next i q r (by simpa using hq) (by simpa using hr)
theorem Follow.mem {may : Int → Bool} : ∀ {l : List Rn} {last : Int}, Follow may last l → ∀ r ∈ l, 1 ≤ r.1 ∧ r.1 ≤ 1048576 ∧ 0 ≤ r.2 ∧ r.2 < 256 ∧ may r.2 = true
 | [], _, _, r, h => by cases h
 | q :: t, _, h, r, hr => by
   rcases List.mem_cons.1 hr with rfl | hr
   ·exact ⟨h.1, h.2.1, h.2.2.1, h.2.2.2.1, h.2.2.2.2.1⟩
   ·exact h.2.2.2.2.2.2.mem r hr
theorem Follow.mayR {may : Int → Bool} {l : List Rn} {last : Int} (h : Follow may last l) (hne : 1 ≤ sumR l) : mayR may l (sumR l) = true := by
 unfold Go.Runs.mayR
 rw [decide_eq_true (by omega), mayL_true (fun r hr => ⟨h.pos r hr, (h.mem r hr).2.2.2.2⟩) h.next (fun r _ => by simp) rfl]
 rfl
end Go.Code
namespace Go.Chk
open Go Go.Vc
abbrev Ce := Int × Int × Int
abbrev Po := Int × Int
theorem tdm {a b : Int} (hb : 0 < b) : (a.tmod b < 0 → a / b = a.tdiv b - 1 ∧ a % b = a.tmod b + b) ∧ (0 ≤ a.tmod b → a / b = a.tdiv b ∧ a % b = a.tmod b) ∧ -b < a.tmod b ∧ a.tmod b < b := by
 have h1 : b * a.tdiv b + a.tmod b = a := Int.mul_tdiv_add_tmod a b
 have h2 : a.tmod b < b := Int.tmod_lt_of_pos a hb
 have h3 : -b < a.tmod b := by
  have := Int.tmod_lt_of_pos (-a) hb
  rw [Int.neg_tmod] at this
  omega
 refine ⟨fun h => ?_, fun h => ?_, h3, h2⟩
 ·have := (Int.ediv_emod_unique hb (a := a) (q := a.tdiv b - 1) (r := a.tmod b + b)).2 ⟨by rw [Int.mul_sub]; omega, by omega, by omega⟩
  exact this
 ·exact (Int.ediv_emod_unique hb (a := a) (q := a.tdiv b) (r := a.tmod b)).2 ⟨by omega, by omega, by omega⟩
theorem ediv_in {a b : Int} (ha : inI a) (hb : 0 < b) : inI (a / b) := by
 unfold inI at *
 have h1 := Int.emod_nonneg a (by omega : b ≠ 0)
 have h2 := Int.emod_lt_of_pos a hb
 have h3 := Int.mul_ediv_add_emod a b
 rcases Int.lt_or_le a 0 with h | h
 ·have h4 : a ≤ a / b := by
   rw [Int.le_ediv_iff_mul_le hb]
   have := Int.mul_le_mul_of_nonpos_left (a := a) (b := b) (c := 1) (by omega) (by omega)
   omega
  have h5 : a / b < 0 := Int.ediv_neg_of_neg_of_pos h hb
  omega
 ·have h4 : a / b ≤ a := Int.ediv_le_self b h
  have h5 : 0 ≤ a / b := Int.ediv_nonneg h (by omega)
  omega
theorem tdiv_in {a b : Int} (ha : inI a) (hb : 0 < b) : inI (a.tdiv b) := by
 unfold inI at *
 rcases Int.lt_or_le a 0 with h | h
 ·have h1 : a.tdiv b = -((-a) / b) := by
   rw [← Int.tdiv_eq_ediv_of_nonneg (by omega), Int.neg_tdiv]; omega
  have h4 : (-a) / b ≤ -a := Int.ediv_le_self b (by omega)
  have h5 : 0 ≤ (-a) / b := Int.ediv_nonneg (by omega) (by omega)
  omega
 ·rw [Int.tdiv_eq_ediv_of_nonneg h]
  have h4 : a / b ≤ a := Int.ediv_le_self b h
  have h5 : 0 ≤ a / b := Int.ediv_nonneg h (by omega)
  omega
theorem u64_in (n : Int) : 0 ≤ IntKind.wrap .u64 n ∧ IntKind.wrap .u64 n < 18446744073709551616 := by
 unfold IntKind.wrap
 simp only [IntKind.bits, IntKind.signed]
 simp
 omega
def mix (seed x z : Int) : Int := IntKind.wrap .u64 ((IntKind.wrap .u64 ((IntKind.wrap .u64 ((IntKind.wrap .u64 seed) * 11400714819323198485)) + (IntKind.wrap .u64 ((IntKind.wrap .u64 x) * 14029467366897019727)))) + (IntKind.wrap .u64 ((IntKind.wrap .u64 z) * 1609587929392839161)))
def hash (seed x z : Int) : Int :=
 bXor .u64 (IntKind.wrap .u64 ((bXor .u64 (mix seed x z) (mix seed x z / 536870912)) * 13787848793156543929)) (IntKind.wrap .u64 ((bXor .u64 (mix seed x z) (mix seed x z / 536870912)) * 13787848793156543929) / 4294967296)
theorem hash_in (seed x z : Int) : 0 ≤ hash seed x z := by
 unfold hash bXor
 exact (u64_in _).1
theorem sh29 (n : Int) : (IntKind.wrap .u64 n).fdiv (2 ^ (min (29 : Int).toNat 64)) = IntKind.wrap .u64 n / 536870912 := Int.fdiv_eq_ediv_of_nonneg _ (by decide)
theorem sh32 (n : Int) : (IntKind.wrap .u64 n).fdiv (2 ^ (min (32 : Int).toNat 64)) = IntKind.wrap .u64 n / 4294967296 := Int.fdiv_eq_ediv_of_nonneg _ (by decide)
def corner (seed x z : Int) : Int := hash seed x z % 9
def ground (seed x z : Int) : Int :=
 6 + (corner seed (x / 8) (z / 8) * ((8 - x % 8) * (8 - z % 8)) + corner seed (x / 8 + 1) (z / 8) * (x % 8 * (8 - z % 8)) + corner seed (x / 8) (z / 8 + 1) * ((8 - x % 8) * (z % 8)) + corner seed (x / 8 + 1) (z / 8 + 1) * (x % 8 * (z % 8))) / 64
def ofG (y g : Int) : Int :=
 if y < 0 ∨ 32 ≤ y then 0 else if y = 0 ∨ y < g - 3 then 1 else if y < g - 1 ∨ (y = g - 1 ∧ 9 < g) then 2 else if y = g - 1 then 3 else if y < 9 then 8 else 0
theorem mul_bd {c u v : Int} (hc : 0 ≤ c ∧ c ≤ 8) (hu : 0 ≤ u ∧ u ≤ 8) (hv : 0 ≤ v ∧ v ≤ 8) : 0 ≤ u * v ∧ u * v ≤ 64 ∧ 0 ≤ c * (u * v) ∧ c * (u * v) ≤ 512 := by
 have h1 : 0 ≤ u * v := Int.mul_nonneg hu.1 hv.1
 have h2 : u * v ≤ 8 * 8 := Int.mul_le_mul hu.2 hv.2 hv.1 (by decide)
 have h3 : 0 ≤ c * (u * v) := Int.mul_nonneg hc.1 h1
 have h4 : c * (u * v) ≤ 8 * 64 := Int.mul_le_mul hc.2 h2 h1 (by decide)
 exact ⟨h1, h2, h3, h4⟩
theorem corner_in (s x z : Int) : 0 ≤ corner s x z ∧ corner s x z ≤ 8 := by
 unfold corner; omega
theorem ground_in (s x z : Int) : 6 ≤ ground s x z ∧ ground s x z ≤ 100 := by
 unfold ground
 have a := mul_bd (corner_in s (x / 8) (z / 8)) (u := 8 - x % 8) (v := 8 - z % 8) (by omega) (by omega)
 have b := mul_bd (corner_in s (x / 8 + 1) (z / 8)) (u := x % 8) (v := 8 - z % 8) (by omega) (by omega)
 have c := mul_bd (corner_in s (x / 8) (z / 8 + 1)) (u := 8 - x % 8) (v := z % 8) (by omega) (by omega)
 have d := mul_bd (corner_in s (x / 8 + 1) (z / 8 + 1)) (u := x % 8) (v := z % 8) (by omega) (by omega)
 omega
def idx (c : Ce) : Int := (c.2.1 * 16 + c.2.2 % 16) * 16 + c.1 % 16
def inY (c : Ce) : Prop := 0 ≤ c.2.1 ∧ c.2.1 < 32
def pos (c : Ce) : Po := (c.1 / 16, c.2.2 / 16)
def cellAt (p : Po) (i : Int) : Ce := (p.1 * 16 + i % 16, i / 256, p.2 * 16 + i / 16 % 16)
theorem idx_in {c : Ce} (h : inY c) : 0 ≤ idx c ∧ idx c < 8192 := by
 unfold idx; unfold inY at h; omega
theorem cellAt_idx {c : Ce} (h : inY c) : cellAt (pos c) (idx c) = c := by
 unfold cellAt idx pos
 unfold inY at h
 refine Prod.ext ?_ (Prod.ext ?_ ?_) <;> simp only <;> omega
def made (seed : Int) (p : Po) : List Int := (List.range 8192).map fun i : Nat => ofG ((i : Int) / 256) (ground seed (p.1 * 16 + (i : Int) % 16) (p.2 * 16 + (i : Int) / 16 % 16))
theorem made_len (seed : Int) (p : Po) : (made seed p).length = 8192 := by simp [made]
theorem ofG_cases (y g : Int) : ofG y g = 0 ∨ ofG y g = 1 ∨ ofG y g = 2 ∨ ofG y g = 3 ∨ ofG y g = 8 := by
 unfold ofG
 split
 ·exact .inl rfl
 ·split
  ·exact .inr (.inl rfl)
  ·split
   ·exact .inr (.inr (.inl rfl))
   ·split
    ·exact .inr (.inr (.inr (.inl rfl)))
    ·split
     ·exact .inr (.inr (.inr (.inr rfl)))
     ·exact .inl rfl
end Go.Chk
namespace Go.Chk
open Go Go.Vc
end Go.Chk
namespace Go.Chk
open Go Go.Vc Go.Runs
end Go.Chk
namespace Go.Chk
open Go Go.Vc Go.Runs
end Go.Chk
namespace Go.Chk
open Go Go.Vc Go.Runs
theorem Nm_of : ∀ (n : Nat) (l : List Rn), l.length = n → (∀ r ∈ l, 1 ≤ r.1) → (∀ i q r, l[i]? = some q → l[i + 1]? = some r → q.2 ≠ r.2) → Nm l
 | 0, l, hn, _, _ => by
   have : l = [] := List.eq_nil_of_length_eq_zero hn
   subst this; exact .nil
 | n + 1, l, hn, h1, h2 => by
   rcases snoc_cases l with rfl | ⟨m, q, rfl⟩
   ·simp at hn
   ·have hm : m.length = n := by simpa using hn
    refine .snoc m q (Nm_of n m hm (fun r hr => h1 r (List.mem_append_left _ hr)) (fun i a b ha hb => ?_)) (h1 q (by simp)) (fun p hp => ?_)
    ·have hb' := (List.getElem?_eq_some_iff.1 hb).1
     exact h2 i a b (by rw [List.getElem?_append_left (by omega)]; exact ha) (by rw [List.getElem?_append_left (by omega)]; exact hb)
    ·have hne : m ≠ [] := by rintro rfl; simp at hp
     have hlen : 0 < m.length := List.length_pos_iff.2 hne
     rw [List.getLast?_eq_getElem?] at hp
     refine h2 (m.length - 1) p q ?_ ?_
     ·rw [List.getElem?_append_left (by omega)]; exact hp
     ·rw [show m.length - 1 + 1 = m.length by omega, List.getElem?_append_right (Nat.le_refl _), Nat.sub_self]; rfl
theorem mayL_inv {may : Int → Bool} : ∀ {l : List Rn} {prev : Option Int} {left : Int}, mayL may prev left l = true →
  (∀ r ∈ l, 1 ≤ r.1 ∧ may r.2 = true) ∧ (∀ i q r, l[i]? = some q → l[i + 1]? = some r → q.2 ≠ r.2) ∧ ∀ r, l.head? = some r → prev ≠ some r.2
 | [], _, _, _ => ⟨by simp, by simp, by simp⟩
 | r :: t, prev, left, h => by
   unfold mayL at h
   split at h
   ·cases h
   ·rename_i hn
    obtain ⟨a1, a2, a3⟩ := mayL_inv h
    have hm : may r.2 = true := by
     cases hq : may r.2 with
     | true => rfl
     | false => exact absurd (.inr (.inr (.inl hq))) hn
    have hp : prev ≠ some r.2 := fun e => hn (.inr (.inr (.inr e)))
    refine ⟨fun q hq => ?_, fun i q s hq hs => ?_, fun q hq => ?_⟩
    ·rcases List.mem_cons.1 hq with rfl | hq
     ·exact ⟨by omega, hm⟩
     ·exact a1 q hq
    ·cases i with
     | zero =>
       simp only [List.getElem?_cons_zero, Option.some.injEq] at hq
       subst hq
       simp only [List.getElem?_cons_succ] at hs
       have : t.head? = some s := by cases t <;> simp_all
       intro e
       exact a3 s this (by rw [e])
     | succ i => exact a2 i q s (by simpa using hq) (by simpa using hs)
    ·simp only [List.head?_cons, Option.some.injEq] at hq
     subst hq; exact hp
theorem mayR_inv {may : Int → Bool} {l : List Rn} {n : Int} (h : mayR may l n = true) : ofC (cellsR l) = l ∧ (∀ b ∈ cellsR l, may b = true) ∧ ((cellsR l).length : Int) = n := by
 unfold mayR at h
 rw [Bool.and_eq_true] at h
 obtain ⟨a1, a2, _⟩ := mayL_inv h.2
 refine ⟨(Nm_of l.length l rfl (fun r hr => (a1 r hr).1) a2).fix, fun b hb => ?_, ?_⟩
 ·unfold cellsR at hb
  obtain ⟨r, hr, hb⟩ := List.mem_flatMap.1 hb
  rw [(List.mem_replicate.1 hb).2]
  exact (a1 r hr).2
 ·rw [← sumR_cells fun r hr => by have := (a1 r hr).1; omega]
  exact mayL_sum h.2
end Go.Chk
namespace Go.Chk
open Go Go.Vc Go.Runs
def inT (p : Po) : Prop := (-524288 ≤ p.1 ∧ p.1 < 524288) ∧ -524288 ≤ p.2 ∧ p.2 < 524288
instance (p : Po) : Decidable (inT p) := by unfold inT; exact inferInstance
def idK (p : Po) : Int := if inT p then (p.1 + 524288) * 1048576 + (p.2 + 524288) + 1 else 0
theorem idK_out {p : Po} (h : ¬ inT p) : idK p = 0 := by unfold idK; rw [if_neg h]
end Go.Chk
namespace Go.Chk
open Go Go.Vc Go.Runs
def firstI {α : Type} (q : α → Bool) : List α → Int
 | [] => -1
 | x :: t => if q x then 0 else if firstI q t < 0 then -1 else firstI q t + 1
theorem firstI_none {α : Type} {q : α → Bool} : ∀ {l : List α}, (∀ y ∈ l, q y = false) → firstI q l = -1
 | [], _ => rfl
 | x :: t, h => by
   have h1 := h x (.head _)
   have h2 := firstI_none (l := t) fun y hy => h y (.tail _ hy)
   unfold firstI
   rw [if_neg (by rw [h1]; decide), if_pos (by omega)]
theorem firstI_at {α : Type} {q : α → Bool} : ∀ {l : List α} {k : Nat} {x : α}, l[k]? = some x → q x = true → (∀ j, j < k → ∀ y, l[j]? = some y → q y = false) → firstI q l = k
 | [], k, x, h, _, _ => by simp at h
 | y :: t, 0, x, h, hq, _ => by
   simp at h; subst h
   unfold firstI
   rw [if_pos hq]; rfl
 | y :: t, k + 1, x, h, hq, hn => by
   have h1 := hn 0 (by omega) y rfl
   have h2 := firstI_at (l := t) (k := k) (x := x) (by simpa using h) hq (fun j hj z hz => hn (j + 1) (by omega) z (by simpa using hz))
   unfold firstI
   rw [if_neg (by rw [h1]; decide), if_neg (by omega), h2]
   omega
theorem firstI_cases {α : Type} (q : α → Bool) : ∀ (l : List α), (firstI q l = -1 ∧ ∀ y ∈ l, q y = false) ∨ ∃ k x, l[k]? = some x ∧ q x = true ∧ firstI q l = (k : Nat) ∧ ∀ j, j < k → ∀ y, l[j]? = some y → q y = false
 | [] => .inl ⟨rfl, by simp⟩
 | x :: t => by
   cases hq : q x with
   | true => exact .inr ⟨0, x, rfl, hq, by unfold firstI; rw [if_pos hq]; rfl, by omega⟩
   | false =>
     rcases firstI_cases q t with ⟨h1, h2⟩ | ⟨k, y, h1, h2, h3, h4⟩
     ·refine .inl ⟨by unfold firstI; rw [if_neg (by rw [hq]; decide), if_pos (by omega)], fun y hy => ?_⟩
      rcases List.mem_cons.1 hy with rfl | hy
      ·exact hq
      ·exact h2 y hy
     ·refine .inr ⟨k + 1, y, by simpa using h1, h2, by unfold firstI; rw [if_neg (by rw [hq]; decide), if_neg (by omega), h3]; omega, fun j hj z hz => ?_⟩
      cases j with
      | zero => simp at hz; subst hz; exact hq
      | succ j => exact h4 j (by omega) z (by simpa using hz)
theorem firstI_map {α β : Type} (f : α → β) (q : β → Bool) : ∀ l : List α, firstI q (l.map f) = firstI (fun a => q (f a)) l
 | [] => rfl
 | x :: t => by simp only [List.map_cons, firstI, firstI_map f q t]
end Go.Chk
namespace Go.Chk
open Go Go.Vc Go.Runs
abbrev W16 := BitVec 16
abbrev Bys (b : List Int) : Prop := ∀ c ∈ b, 0 ≤ c ∧ c < 256
def cI (v : W16) : Int := (v.toNat : Nat)
def st1 (c : W16) : W16 := if c.msb then (c <<< 1) ^^^ 0x1021#16 else c <<< 1
def st4 (c : W16) : W16 := st1 (st1 (st1 (st1 c)))
def st8 (c : W16) : W16 := st4 (st4 c)
def byW (x : Int) : W16 := BitVec.ofInt 16 x
def crc1 (c : W16) (x : Int) : W16 := st8 (c ^^^ (byW x <<< 8))
def crcF (c : W16) (b : List Int) : W16 := b.foldl crc1 c
def crcB (b : List Int) : W16 := crcF 0xFFFF#16 b
def crcY (b : List Int) : List Int := [cI (crcB b) / 256, cI (crcB b) % 256]
theorem cI_bd (v : W16) : 0 ≤ cI v ∧ cI v < 65536 := by unfold cI; have := v.isLt; omega
theorem cI_inj {a b : W16} : cI a = cI b ↔ a = b := by
 unfold cI
 refine ⟨fun h => BitVec.eq_of_toNat_eq (by omega), fun h => by rw [h]⟩
theorem byW_nat {x : Int} (h : 0 ≤ x ∧ x < 65536) : (byW x).toNat = x.toNat := by
 unfold byW
 rw [BitVec.toNat_ofInt]
 simp only [show ((2 ^ 16 : Nat) : Int) = 65536 from rfl]
 rw [Int.emod_eq_of_lt h.1 h.2]
theorem cI_byW {x : Int} (h : 0 ≤ x ∧ x < 65536) : cI (byW x) = x := by unfold cI; rw [byW_nat h]; omega
theorem byW_cI (v : W16) : byW (cI v) = v := cI_inj.1 (cI_byW (cI_bd v))
theorem bits16 {a b : W16} (h : ∀ i : Nat, i < 16 → a.getLsbD i = b.getLsbD i) : a = b := BitVec.eq_of_getLsbD_eq h
theorem lt16 {i : Nat} (h : i < 16) : i = 0 ∨ i = 1 ∨ i = 2 ∨ i = 3 ∨ i = 4 ∨ i = 5 ∨ i = 6 ∨ i = 7 ∨ i = 8 ∨ i = 9 ∨ i = 10 ∨ i = 11 ∨ i = 12 ∨ i = 13 ∨ i = 14 ∨ i = 15 := by omega
theorem shl_xor (a b : W16) (n : Nat) : (a ^^^ b) <<< n = (a <<< n) ^^^ (b <<< n) := by
 apply bits16
 intro i hi
 simp only [BitVec.getLsbD_xor, BitVec.getLsbD_shiftLeft]
 cases decide (i < 16) <;> cases decide (i < n) <;> simp
theorem st1_xor (a b : W16) : st1 (a ^^^ b) = st1 a ^^^ st1 b := by
 unfold st1
 rw [BitVec.msb_xor, shl_xor]
 cases a.msb <;> cases b.msb <;> simp
 ·rw [BitVec.xor_assoc]
 ·rw [BitVec.xor_assoc, BitVec.xor_assoc]
  congr 1
  rw [BitVec.xor_comm]
 ·generalize a <<< 1 = x
  generalize b <<< 1 = y
  apply bits16
  intro i _
  simp only [BitVec.getLsbD_xor]
  cases x.getLsbD i <;> cases y.getLsbD i <;> cases (4129#16).getLsbD i <;> rfl
theorem st4_xor (a b : W16) : st4 (a ^^^ b) = st4 a ^^^ st4 b := by unfold st4; rw [st1_xor, st1_xor, st1_xor, st1_xor]
theorem msb_iff (c : W16) : c.msb = true ↔ 32768 ≤ c.toNat := by
 rw [BitVec.msb_eq_decide]; simp
theorem st1_low {c : W16} (h : c.toNat < 32768) : st1 c = c <<< 1 ∧ (c <<< 1).toNat = 2 * c.toNat := by
 constructor
 ·unfold st1
  rw [if_neg]
  rw [msb_iff]; omega
 ·rw [BitVec.toNat_shiftLeft, Nat.shiftLeft_eq]
  omega
theorem shl_shl (c : W16) (m n : Nat) : (c <<< m) <<< n = c <<< (m + n) := (BitVec.shiftLeft_add c m n).symm
theorem st4_low {c : W16} (h : c.toNat < 4096) : st4 c = c <<< 4 := by
 unfold st4
 have h1 := st1_low (c := c) (by omega)
 rw [h1.1]
 have h2 := st1_low (c := c <<< 1) (by omega)
 rw [h2.1]
 have h3 := st1_low (c := c <<< 1 <<< 1) (by omega)
 rw [h3.1]
 have h4 := st1_low (c := c <<< 1 <<< 1 <<< 1) (by omega)
 rw [h4.1, shl_shl, shl_shl, shl_shl]
theorem nib_step (v y : W16) (hy : y.toNat < 16) : (v <<< 4) ^^^ st4 (((v >>> 12) ^^^ y) <<< 12) = st4 (v ^^^ (y <<< 12)) := by
 have e : v ^^^ (y <<< 12) = (((v >>> 12) ^^^ y) <<< 12) ^^^ (v &&& 0xFFF#16) := by
  apply bits16
  intro i hi
  simp only [BitVec.getLsbD_xor, BitVec.getLsbD_shiftLeft, BitVec.getLsbD_ushiftRight, BitVec.getLsbD_and]
  rcases lt16 hi with rfl | rfl | rfl | rfl | rfl | rfl | rfl | rfl | rfl | rfl | rfl | rfl | rfl | rfl | rfl | rfl <;> simp
 have hl : (v &&& 0xFFF#16).toNat < 4096 := by
  rw [BitVec.toNat_and]
  exact Nat.lt_of_le_of_lt Nat.and_le_right (by decide)
 have e2 : (v &&& 0xFFF#16) <<< 4 = v <<< 4 := by
  apply bits16
  intro i hi
  simp only [BitVec.getLsbD_shiftLeft, BitVec.getLsbD_and]
  rcases lt16 hi with rfl | rfl | rfl | rfl | rfl | rfl | rfl | rfl | rfl | rfl | rfl | rfl | rfl | rfl | rfl | rfl <;> simp
 rw [e, st4_xor, st4_low hl, e2, BitVec.xor_comm]
theorem byte_step (v x : W16) (hx : x.toNat < 256) : st4 (st4 (v ^^^ ((x >>> 4) <<< 12)) ^^^ ((x &&& 15#16) <<< 12)) = st8 (v ^^^ (x <<< 8)) := by
 have e : v ^^^ (x <<< 8) = (v ^^^ ((x >>> 4) <<< 12)) ^^^ ((x &&& 15#16) <<< 8) := by
  apply bits16
  intro i hi
  simp only [BitVec.getLsbD_xor, BitVec.getLsbD_shiftLeft, BitVec.getLsbD_ushiftRight, BitVec.getLsbD_and]
  rcases lt16 hi with rfl | rfl | rfl | rfl | rfl | rfl | rfl | rfl | rfl | rfl | rfl | rfl | rfl | rfl | rfl | rfl <;> simp
 have hl : (x &&& 15#16).toNat < 16 := by
  rw [BitVec.toNat_and]
  exact Nat.lt_of_le_of_lt Nat.and_le_right (by decide)
 have hl2 : ((x &&& 15#16) <<< 8).toNat < 4096 := by
  rw [BitVec.toNat_shiftLeft, Nat.shiftLeft_eq]; omega
 unfold st8
 rw [e, st4_xor (v ^^^ _), st4_low hl2, shl_shl]
theorem crcF_append (c : W16) (a b : List Int) : crcF c (a ++ b) = crcF (crcF c a) b := List.foldl_append ..
theorem wrap_u16 (x : Int) : IntKind.wrap .u16 x = x % 65536 := by
 simp [IntKind.wrap, IntKind.bits, IntKind.signed]
theorem ofInt_cI (n : Nat) (hn : 16 ≤ n) (v : W16) : (BitVec.ofInt n (cI v)).toNat = v.toNat := by
 unfold cI
 rw [BitVec.toNat_ofInt]
 have h1 := v.isLt
 have h2 : (2 : Nat) ^ 16 ≤ 2 ^ n := Nat.pow_le_pow_right (by decide) hn
 generalize (2 : Nat) ^ n = m at *
 rw [Int.emod_eq_of_lt (by omega) (by omega)]
 omega
theorem bXor16 (a b : W16) : bXor .u16 (cI a) (cI b) = cI (a ^^^ b) := by
 show IntKind.wrap .u16 ((BitVec.ofInt 16 (cI a) ^^^ BitVec.ofInt 16 (cI b)).toNat : Nat) = _
 rw [BitVec.toNat_xor, ofInt_cI 16 (by decide), ofInt_cI 16 (by decide), ← BitVec.toNat_xor, wrap_u16]
 show cI _ % 65536 = cI _
 have := cI_bd (a ^^^ b)
 omega
theorem cI_shl (v : W16) (n : Nat) : cI (v <<< n) = cI v * 2 ^ n % 65536 := by
 unfold cI
 rw [BitVec.toNat_shiftLeft, Nat.shiftLeft_eq, Int.natCast_emod, Int.natCast_mul, Int.natCast_pow]
 rfl
theorem cI_shr (v : W16) (n : Nat) : cI (v >>> n) = cI v / 2 ^ n := by
 unfold cI
 rw [BitVec.toNat_ushiftRight, Nat.shiftRight_eq_div_pow, Int.natCast_ediv, Int.natCast_pow]
 rfl
theorem and_msb (v : W16) : cI (v &&& 0x8000#16) = 0 ↔ v.msb = false := by
 have e15 : v.msb = v.getLsbD 15 := rfl
 constructor
 ·intro h
  have h0 : v &&& 0x8000#16 = 0#16 := cI_inj.1 (by rw [h]; rfl)
  have := congrArg (fun u : W16 => u.getLsbD 15) h0
  simp only [BitVec.getLsbD_and] at this
  rw [e15]
  simpa using this
 ·intro h
  have h0 : v &&& 0x8000#16 = 0#16 := by
   apply bits16
   intro i hi
   rw [e15] at h
   simp only [BitVec.getLsbD_and]
   rcases lt16 hi with rfl | rfl | rfl | rfl | rfl | rfl | rfl | rfl | rfl | rfl | rfl | rfl | rfl | rfl | rfl | rfl <;> first | (simp; done) | simpa using h
  rw [h0]; rfl
theorem bAnd16 (a b : W16) : bAnd .u16 (cI a) (cI b) = cI (a &&& b) := by
 show IntKind.wrap .u16 ((BitVec.ofInt 16 (cI a) &&& BitVec.ofInt 16 (cI b)).toNat : Nat) = _
 rw [BitVec.toNat_and, ofInt_cI 16 (by decide), ofInt_cI 16 (by decide), ← BitVec.toNat_and, wrap_u16]
 show cI _ % 65536 = cI _
 have := cI_bd (a &&& b)
 omega
theorem w_shl (v : W16) (n : Nat) : IntKind.wrap .u16 (cI v * 2 ^ n) = cI (v <<< n) := by rw [wrap_u16, cI_shl]
theorem w_shr (v : W16) (n : Nat) : (cI v).fdiv (2 ^ n) = cI (v >>> n) := by
 rw [cI_shr, Int.fdiv_eq_ediv_of_nonneg]
 exact Int.le_of_lt (Int.pow_pos (by decide))
theorem w_hi {x : Int} (h : 0 ≤ x ∧ x < 256) : IntKind.wrap .u16 (x.fdiv (2 ^ 4)) = cI (byW x >>> 4) := by
 rw [cI_shr, cI_byW (by omega), Int.fdiv_eq_ediv_of_nonneg _ (by decide), wrap_u16]
 simp only [show (2 : Int) ^ 4 = 16 from rfl]
 omega
theorem w_lo {x : Int} (h : 0 ≤ x ∧ x < 256) : IntKind.wrap .u16 (bAnd .u8 x 15) = cI (byW x &&& 15#16) := by
 have e : bAnd .u8 x 15 = cI (byW x &&& 15#16) := by
  show IntKind.wrap .u8 ((BitVec.ofInt 8 x &&& BitVec.ofInt 8 15).toNat : Nat) = _
  have e8 : (BitVec.ofInt 8 x).toNat = (byW x).toNat := by
   rw [byW_nat (by omega), BitVec.toNat_ofInt]
   simp only [show ((2 ^ 8 : Nat) : Int) = 256 from rfl]
   rw [Int.emod_eq_of_lt h.1 h.2]
  rw [BitVec.toNat_and, e8]
  unfold cI
  rw [BitVec.toNat_and]
  have : (byW x).toNat &&& (15#16).toNat < 16 := Nat.lt_of_le_of_lt Nat.and_le_right (by decide)
  show IntKind.wrap .u8 (((byW x).toNat &&& (15#16).toNat : Nat) : Int) = _
  simp only [IntKind.wrap, IntKind.bits, IntKind.signed, Bool.false_and, Bool.false_eq_true, if_false, show (2 : Int) ^ 8 = 256 from rfl]
  omega
 rw [e, wrap_u16]
 have := cI_bd (byW x &&& 15#16)
 omega
theorem nib_lt {a b : W16} (ha : a.toNat < 16) (hb : b.toNat < 16) : (a ^^^ b).toNat < 16 := by
 rw [BitVec.toNat_xor]
 exact Nat.xor_lt_two_pow (n := 4) ha hb
theorem shr_lt (v : W16) : (v >>> 12).toNat < 16 := by
 rw [BitVec.toNat_ushiftRight, Nat.shiftRight_eq_div_pow]
 have := v.isLt
 omega
theorem hi_lt {x : Int} (h : 0 ≤ x ∧ x < 256) : (byW x >>> 4).toNat < 16 := by
 rw [BitVec.toNat_ushiftRight, Nat.shiftRight_eq_div_pow, byW_nat (by omega)]
 omega
theorem lo_lt (x : W16) : (x &&& 15#16).toNat < 16 := by
 rw [BitVec.toNat_and]
 exact Nat.lt_of_le_of_lt Nat.and_le_right (by decide)
def tv (i : Nat) : Value := .int .u16 (cI (st4 (byW i <<< 12)))
def tS : List Value := [tv 0, tv 1, tv 2, tv 3, tv 4, tv 5, tv 6, tv 7, tv 8, tv 9, tv 10, tv 11, tv 12, tv 13, tv 14, tv 15]
def tT (k : Nat) : List Value := tS.take k ++ List.replicate (16 - k) (.int .u16 0)
theorem tT_set {k : Nat} (hk : k < 16) : (tT k).set k (tv k) = tT (k + 1) := by
 rcases lt16 hk with rfl | rfl | rfl | rfl | rfl | rfl | rfl | rfl | rfl | rfl | rfl | rfl | rfl | rfl | rfl | rfl <;> rfl
theorem tS_at {u : W16} (hu : u.toNat < 16) : tS[(cI u).toNat]? = some (.int .u16 (cI (st4 (u <<< 12)))) := by
 have e : ∀ k : Nat, k < 16 → tS[k]? = some (tv k) := fun k hk => by
  rcases lt16 hk with rfl | rfl | rfl | rfl | rfl | rfl | rfl | rfl | rfl | rfl | rfl | rfl | rfl | rfl | rfl | rfl <;> rfl
 have h1 : (cI u).toNat = u.toNat := rfl
 rw [h1, e _ hu]
 unfold tv
 have : byW (u.toNat : Int) = u := byW_cI u
 rw [this]
theorem with_byte (v : W16) {x : Int} (h : 0 ≤ x ∧ x < 256) :
  cI ((((v <<< 4) ^^^ st4 (((v >>> 12) ^^^ (byW x >>> 4)) <<< 12)) <<< 4) ^^^ st4 (((((v <<< 4) ^^^ st4 (((v >>> 12) ^^^ (byW x >>> 4)) <<< 12)) >>> 12) ^^^ (byW x &&& 15#16)) <<< 12)) = cI (crc1 v x) := by
 rw [nib_step v _ (hi_lt h), nib_step _ _ (lo_lt _), byte_step v _ (by rw [byW_nat (by omega)]; omega)]
 rfl
end Go.Chk
namespace Go.Chk
open Go Go.Vc Go.Runs
def be : Nat → Int → List Int
 | 0, _ => []
 | m + 1, n => n / 256 ^ m % 256 :: be m n
def numY (b : List Int) : Int := b.foldl (fun n c => n * 256 + c) 0
def recB (v : Int) (body : List Int) : List Int := be 4 v ++ be 3 body.length ++ body
def sealB (b : List Int) : List Int := b ++ crcY b
def wrS (v : Int) (body : List Int) : List Int × Int := if v < 1 ∨ v > 1073741824 ∨ (body.length : Int) > 65536 then ([], 1) else (sealB (recB v body), 0)
def tkS (b : List Int) : List Int × Int := if b.length < 2 then ([], 3) else if crcB b = 0#16 then (b.take (b.length - 2), 0) else ([], 4)
def rdS (b : List Int) : Int × List Int × Int :=
 if (tkS b).2 ≠ 0 then (0, [], (tkS b).2)
 else if (tkS b).1.length < 7 then (0, [], 3)
 else if numY ((tkS b).1.take 4) < 1 ∨ numY ((tkS b).1.take 4) > 1073741824 ∨ numY (((tkS b).1.drop 4).take 3) > 65536 ∨ numY (((tkS b).1.drop 4).take 3) ≠ (((tkS b).1.drop 7).length : Int) then (0, [], 2)
 else (numY ((tkS b).1.take 4), (tkS b).1.drop 7, 0)
theorem be_len : ∀ (m : Nat) (n : Int), (be m n).length = m
 | 0, _ => rfl
 | m + 1, n => by simp [be, be_len m n]
theorem be_in : ∀ (m : Nat) (n : Int), Bys (be m n)
 | 0, _ => fun c hc => by cases hc
 | m + 1, n => fun c hc => by
   rcases List.mem_cons.1 hc with rfl | hc
   ·omega
   ·exact be_in m n c hc
theorem numY_app (b : List Int) (c : Int) : numY (b ++ [c]) = numY b * 256 + c := by unfold numY; rw [List.foldl_append]; rfl
theorem crcY_in (b : List Int) : Bys (crcY b) := fun c hc => by
 have := cI_bd (crcB b)
 simp only [crcY, List.mem_cons, List.not_mem_nil, or_false] at hc
 rcases hc with rfl | rfl <;> omega
theorem crcY_len (b : List Int) : (crcY b).length = 2 := rfl
theorem Bys.app {a b : List Int} (ha : Bys a) (hb : Bys b) : Bys (a ++ b) := fun c hc => (List.mem_append.1 hc).elim (ha c) (hb c)
theorem recB_in {v : Int} {body : List Int} (h : Bys body) : Bys (recB v body) := ((be_in 4 v).app (be_in 3 _)).app h
theorem sealB_in {b : List Int} (h : Bys b) : Bys (sealB b) := h.app (crcY_in b)
theorem wrS_in {v : Int} {body : List Int} (h : Bys body) : Bys (wrS v body).1 := by
 unfold wrS
 split
 ·intro c hc; cases hc
 ·exact sealB_in (recB_in h)
theorem recB_len (v : Int) (body : List Int) : (recB v body).length = 7 + body.length := by unfold recB; simp [be_len]; omega
theorem sealB_len (b : List Int) : (sealB b).length = b.length + 2 := by unfold sealB; rw [List.length_append, crcY_len]
theorem rdS_v {b : List Int} : (rdS b).2.2 = 0 → 1 ≤ (rdS b).1 ∧ (rdS b).1 ≤ 1073741824 := by
 intro h
 unfold rdS at h ⊢
 split at h
 ·rename_i q; exact absurd h q
 ·rename_i q
  rw [if_neg q]
  split at h
  ·cases h
  ·rename_i q2
   rw [if_neg q2]
   split at h
   ·cases h
   ·rename_i q3
    rw [if_neg q3]
    simp only [not_or] at q3
    simp only; omega
theorem rdS_n {b : List Int} : (rdS b).2.2 ≠ 0 → (rdS b).1 = 0 ∧ (rdS b).2.1 = [] := by
 intro h
 unfold rdS at h ⊢
 split
 ·exact ⟨rfl, rfl⟩
 ·split
  ·exact ⟨rfl, rfl⟩
  ·split
   ·exact ⟨rfl, rfl⟩
   ·rename_i q q2 q3
    rw [if_neg q, if_neg q2, if_neg q3] at h
    exact absurd rfl h
theorem numY_bd {b : List Int} (hb : Bys b) : ∀ k : Nat, 0 ≤ numY (b.take k) ∧ numY (b.take k) < 256 ^ k
 | 0 => by rw [List.take_zero]; exact ⟨Int.le_refl 0, by decide⟩
 | k + 1 => by
   obtain ⟨h1, h2⟩ := numY_bd hb k
   rw [List.take_add_one]
   cases hx : b[k]? with
   | none =>
     rw [Int.pow_succ]
     simp only [Option.toList_none, List.append_nil]
     generalize (256 : Int) ^ k = p at *
     omega
   | some x =>
     have := hb x (List.mem_of_getElem? hx)
     rw [Int.pow_succ]
     simp only [Option.toList_some]
     rw [numY_app]
     generalize (256 : Int) ^ k = p at *
     omega
theorem numY_small {b : List Int} (hb : Bys b) {k : Nat} (hk : k ≤ 4) : 0 ≤ numY (b.take k) ∧ numY (b.take k) < 4294967296 := by
 obtain ⟨h1, h2⟩ := numY_bd hb k
 have h3 : (256 : Int) ^ k ≤ 4294967296 := by
  rcases k with _ | _ | _ | _ | _ | k
  ·decide
  ·decide
  ·decide
  ·decide
  ·decide
  ·omega
 exact ⟨h1, Int.lt_of_lt_of_le h2 h3⟩
theorem bOr_byte {n c : Int} (hn : 0 ≤ n ∧ n < 281474976710656) (hc : 0 ≤ c ∧ c < 256) : bOr .i64 (n * 256) c = n * 256 + c := by
 show IntKind.wrap .i64 ((BitVec.ofInt 64 (n * 256) ||| BitVec.ofInt 64 c).toNat : Nat) = _
 have e1 : (BitVec.ofInt 64 (n * 256)).toNat = 2 ^ 8 * n.toNat := by
  rw [BitVec.toNat_ofInt]
  simp only [show ((2 ^ 64 : Nat) : Int) = 18446744073709551616 from rfl, show (2 : Nat) ^ 8 = 256 from rfl]
  omega
 have e2 : (BitVec.ofInt 64 c).toNat = c.toNat := by
  rw [BitVec.toNat_ofInt]
  simp only [show ((2 ^ 64 : Nat) : Int) = 18446744073709551616 from rfl]
  omega
 rw [BitVec.toNat_or, e1, e2, ← Nat.two_pow_add_eq_or_of_lt (i := 8) (b := c.toNat) (by omega) n.toNat]
 simp only [show (2 : Nat) ^ 8 = 256 from rfl]
 have : ((256 * n.toNat + c.toNat : Nat) : Int) = n * 256 + c := by omega
 rw [this]
 exact wrap_in (by unfold inI; omega)
abbrev Wr1 := Int × List Int
structure Dk where
 room : Int
 fails : Int
 wait : Int
 safe : List Wr1
 l : List Wr1
def layG : Bool → List Wr1 → Wr1 → List Wr1
 | done, [], w => if done then [] else [w]
 | done, x :: t, w => (if done = false ∧ x.1 ≥ w.1 then [w] else []) ++ (if x.1 ≠ w.1 then [x] else []) ++ layG (done || decide (x.1 ≥ w.1)) t w
def lay (l : List Wr1) (w : Wr1) : List Wr1 := layG false l w
def nowD (d : Dk) : List Wr1 := d.l.foldl lay d.safe
def lenB (l : List Wr1) : Nat := (l.map fun x => x.2.length).sum
def getB (l : List Wr1) (k : Int) : Option (List Int) := (l.find? fun x => x.1 == k).map (·.2)
def askD (d : Dk) : Dk × Bool := if 0 < d.wait then ({ d with wait := 0 }, false) else if 0 < d.fails then ({ d with fails := d.fails - 1 }, true) else (d, false)
def putD (d : Dk) (k : Int) (b : List Int) : Dk × Int :=
 if (askD d).2 = true then ((askD d).1, 9) else if (lenB (lay (nowD d) (k, b)) : Int) > d.room then ((askD d).1, 8) else ({ (askD d).1 with l := d.l ++ [(k, b)] }, 0)
def getD (d : Dk) (k : Int) : List Int := (getB (nowD d) k).getD []
def syncD (d : Dk) : Dk × Int := if (askD d).2 = true then ((askD d).1, 9) else ({ (askD d).1 with safe := nowD d, l := [] }, 0)
theorem layG_true : ∀ (l : List Wr1) (w : Wr1), layG true l w = l.filter fun x => decide (x.1 ≠ w.1)
 | [], _ => rfl
 | x :: t, w => by
   unfold layG
   rw [if_neg (by simp), Bool.true_or, layG_true t w, List.filter_cons]
   by_cases h : x.1 = w.1 <;> simp [h]
theorem lay_perm : ∀ (l : List Wr1) (w : Wr1), (lay l w).Perm (w :: l.filter fun x => decide (x.1 ≠ w.1))
 | [], _ => .refl _
 | x :: t, w => by
   unfold lay layG
   rw [Bool.false_or]
   by_cases h : x.1 ≥ w.1
   ·rw [if_pos ⟨rfl, h⟩, decide_eq_true h, layG_true, List.filter_cons]
    by_cases h2 : x.1 = w.1
    ·rw [if_neg (by simp [h2]), if_neg (by simp [h2])]; exact .refl _
    ·rw [if_pos h2, if_pos (by simp [h2])]; exact .refl _
   ·rw [if_neg fun q => h q.2, decide_eq_false h, if_pos (by omega), List.filter_cons, if_pos (by simp; omega)]
    have ih := lay_perm t w
    unfold lay at ih
    exact (List.Perm.cons x ih).trans (List.Perm.swap _ _ _)
def keysOf (l : List Wr1) : List Int := l.map (·.1)
theorem filter_nodup {l : List Wr1} (p : Wr1 → Bool) (h : (keysOf l).Nodup) : (keysOf (l.filter p)).Nodup := h.sublist ((List.filter_sublist).map _)
theorem lay_nodup {l : List Wr1} {w : Wr1} (h : (keysOf l).Nodup) : (keysOf (lay l w)).Nodup := by
 refine ((lay_perm l w).map (·.1)).nodup_iff.2 ?_
 rw [List.map_cons]
 refine List.nodup_cons.2 ⟨fun hm => ?_, filter_nodup _ h⟩
 obtain ⟨x, hx, e⟩ := List.mem_map.1 hm
 have := (List.mem_filter.1 hx).2
 simp at this
 exact this e
theorem foldl_nodup : ∀ (t : List Wr1) {l : List Wr1}, (keysOf l).Nodup → (keysOf (t.foldl lay l)).Nodup
 | [], _, h => h
 | w :: t, _, h => foldl_nodup t (lay_nodup h)
theorem lenB_perm {a b : List Wr1} (h : a.Perm b) : lenB a = lenB b := (h.map fun x : Wr1 => x.2.length).sum_nat
theorem lenB_cons (x : Wr1) (t : List Wr1) : lenB (x :: t) = x.2.length + lenB t := rfl
theorem getB_some {l : List Wr1} (h : (keysOf l).Nodup) {k : Int} {b : List Int} : getB l k = some b ↔ (k, b) ∈ l := by
 unfold getB
 induction l with
 | nil => simp
 | cons x t ih =>
   have hn := List.nodup_cons.1 h
   rw [List.find?_cons]
   by_cases e : x.1 = k
   ·rw [beq_iff_eq.2 e]
    simp only [Option.map_some, Option.some.injEq, List.mem_cons]
    constructor
    ·rintro rfl; exact .inl (by rw [← e])
    ·rintro (q | q)
     ·rw [← q]
     ·exact absurd (List.mem_map.2 ⟨_, q, e.symm⟩) hn.1
   ·rw [show (x.1 == k) = false by simpa using e, ih hn.2]
    simp only [List.mem_cons]
    constructor
    ·exact .inr
    ·rintro (q | q)
     ·exact absurd (by rw [← q]) e
     ·exact q
theorem getB_none {l : List Wr1} {k : Int} : getB l k = none ↔ ∀ x ∈ l, x.1 ≠ k := by
 unfold getB
 rw [Option.map_eq_none_iff, List.find?_eq_none]
 simp
theorem getB_perm {a b : List Wr1} (h : a.Perm b) (ha : (keysOf a).Nodup) (k : Int) : getB a k = getB b k := by
 have hb : (keysOf b).Nodup := (h.map fun x : Wr1 => x.1).nodup_iff.1 ha
 cases q : getB b k with
 | some x => exact (getB_some ha).2 (h.mem_iff.2 ((getB_some hb).1 q))
 | none => exact getB_none.2 fun x hx => getB_none.1 q x (h.mem_iff.1 hx)
theorem lenB_filter {l : List Wr1} (h : (keysOf l).Nodup) (k : Int) : lenB (l.filter fun x => decide (x.1 ≠ k)) + ((getB l k).getD []).length = lenB l := by
 induction l with
 | nil => rfl
 | cons x t ih =>
   have hn := List.nodup_cons.1 h
   rw [List.filter_cons]
   by_cases e : x.1 = k
   ·rw [if_neg (by simp [e])]
    have hg : getB (x :: t) k = some x.2 := by unfold getB; rw [List.find?_cons, beq_iff_eq.2 e]; rfl
    have ht : t.filter (fun x => decide (x.1 ≠ k)) = t := List.filter_eq_self.2 fun y hy => by
     simp only [ne_eq, decide_not, Bool.not_eq_true', decide_eq_false_iff_not]
     intro q
     exact hn.1 (List.mem_map.2 ⟨y, hy, q.trans e.symm⟩)
    rw [hg, ht, lenB_cons, Option.getD_some]; omega
   ·rw [if_pos (by simp [e])]
    have hg : getB (x :: t) k = getB t k := by unfold getB; rw [List.find?_cons, show (x.1 == k) = false by simpa using e]
    have := ih hn.2
    rw [hg, lenB_cons, lenB_cons]; omega
theorem lenB_lay {l : List Wr1} (h : (keysOf l).Nodup) (w : Wr1) : lenB (lay l w) + ((getB l w.1).getD []).length = lenB l + w.2.length := by
 have := lenB_filter h w.1
 rw [lenB_perm (lay_perm l w), lenB_cons]; omega
structure DkOk (d : Dk) : Prop where
 nd : (keysOf d.safe).Nodup
 len : ∀ k, (lenB ((d.l.take k).foldl lay d.safe) : Int) ≤ d.room
 w : 0 ≤ d.wait ∧ d.wait ≤ 1
 f : 0 ≤ d.fails ∧ d.fails ≤ 9223372036854775807
 r : 0 ≤ d.room ∧ d.room ≤ 1048576
theorem DkOk.now {d : Dk} (h : DkOk d) : (keysOf (nowD d)).Nodup := foldl_nodup _ h.nd
theorem DkOk.nlen {d : Dk} (h : DkOk d) : (lenB (nowD d) : Int) ≤ d.room := by
 have := h.len d.l.length
 rwa [List.take_length] at this
theorem askD_safe (d : Dk) : (askD d).1.safe = d.safe ∧ (askD d).1.l = d.l ∧ (askD d).1.room = d.room := by
 unfold askD
 split
 ·exact ⟨rfl, rfl, rfl⟩
 ·split <;> exact ⟨rfl, rfl, rfl⟩
theorem DkOk.ask {d : Dk} (h : DkOk d) : DkOk (askD d).1 := by
 obtain ⟨e1, e2, e3⟩ := askD_safe d
 refine ⟨by rw [e1]; exact h.nd, by rw [e1, e2, e3]; exact h.len, ?_, ?_, by rw [e3]; exact h.r⟩
 ·unfold askD
  have := h.w
  split
  ·simp
  ·split <;> exact this
 ·unfold askD
  have := h.f
  split
  ·exact this
  ·split
   ·simp only; omega
   ·exact this
theorem DkOk.put {d : Dk} (h : DkOk d) (k : Int) (b : List Int) : DkOk (putD d k b).1 := by
 have ha := h.ask
 obtain ⟨e1, e2, e3⟩ := askD_safe d
 unfold putD
 split
 ·exact ha
 ·split
  ·exact ha
  ·rename_i hr
   refine ⟨by rw [e1]; exact h.nd, fun n => ?_, ha.w, ha.f, ha.r⟩
   rw [e1, e3]
   simp only
   by_cases hn : n ≤ d.l.length
   ·rw [List.take_append_of_le_length hn]; exact h.len n
   ·rw [List.take_of_length_le (by simp; omega), List.foldl_append]
    show (lenB (lay (nowD d) (k, b)) : Int) ≤ _
    omega
theorem DkOk.sync {d : Dk} (h : DkOk d) : DkOk (syncD d).1 := by
 have ha := h.ask
 obtain ⟨e1, e2, e3⟩ := askD_safe d
 unfold syncD
 split
 ·exact ha
 ·refine ⟨h.now, fun n => ?_, ha.w, ha.f, ha.r⟩
  simp only [List.take_nil, List.foldl_nil]
  rw [e3]; exact h.nlen
end Go.Chk
namespace Go.Chk
open Go Go.Vc Go.Runs
open Classical in
noncomputable def insE {α : Type} (f : α → Int) (l : List α) (x : α) : List α := if ∃ y ∈ l, f y = f x then l.map (fun y => if f y = f x then x else y) else l ++ [x]
theorem insE_perm {α : Type} (f : α → Int) (x : α) : ∀ {l : List α}, (l.map f).Nodup → (insE f l x).Perm (x :: l.filter fun y => decide (f y ≠ f x))
 | [], _ => by unfold insE; rw [if_neg (by simp)]; exact .refl _
 | y :: t, h => by
   have hn := List.nodup_cons.1 h
   have ih := insE_perm f x hn.2
   by_cases e : f y = f x
   ·have hno : ∀ z ∈ t, f z ≠ f x := fun z hz q => hn.1 (List.mem_map.2 ⟨z, hz, q.trans e.symm⟩)
    unfold insE
    rw [if_pos ⟨y, .head _, e⟩, List.map_cons, if_pos e, List.filter_cons, if_neg (by simp [e])]
    rw [List.filter_eq_self.2 (fun z hz => by simpa using hno z hz)]
    have : t.map (fun y => if f y = f x then x else y) = t := by
     conv => rhs; rw [← List.map_id t]
     exact List.map_congr_left fun z hz => by rw [if_neg (hno z hz)]; rfl
    rw [this]
   ·rw [List.filter_cons, if_pos (by simp [e])]
    refine List.Perm.trans ?_ (List.Perm.swap _ _ _)
    refine List.Perm.trans ?_ (List.Perm.cons y ih)
    unfold insE
    by_cases q : ∃ z ∈ t, f z = f x
    ·obtain ⟨z, hz, qz⟩ := q
     rw [if_pos ⟨z, .tail _ hz, qz⟩, if_pos ⟨z, hz, qz⟩, List.map_cons, if_neg e]
    ·rw [if_neg (by
      rintro ⟨z, hz, qz⟩
      rcases List.mem_cons.1 hz with rfl | hz
      ·exact e qz
      ·exact q ⟨z, hz, qz⟩), if_neg q]
     exact .refl _
theorem insE_mem {α : Type} {f : α → Int} {l : List α} {x y : α} (h : y ∈ insE f l x) : y = x ∨ y ∈ l := by
 unfold insE at h
 split at h
 ·obtain ⟨z, hz, e⟩ := List.mem_map.1 h
  split at e
  ·exact .inl e.symm
  ·exact .inr (e ▸ hz)
 ·rcases List.mem_append.1 h with h | h
  ·exact .inr h
  ·exact .inl (by simpa using h)
theorem insE_lay {α : Type} {f : α → Int} {g : α → List Int} {l : List α} {s : List Wr1} (x : α) (h : (l.map fun y => (f y, g y)).Perm s) (hn : (keysOf s).Nodup) : ((insE f l x).map fun y => (f y, g y)).Perm (lay s (f x, g x)) := by
 have hk : (l.map f).Nodup := by
  have := (h.map fun y : Wr1 => y.1).nodup_iff.2 hn
  rwa [List.map_map] at this
 refine ((insE_perm f x hk).map _).trans ?_
 refine List.Perm.trans ?_ (lay_perm s (f x, g x)).symm
 rw [List.map_cons]
 refine List.Perm.cons _ ?_
 have := h.filter fun y => decide (y.1 ≠ f x)
 rw [List.filter_map] at this
 exact this
abbrev Rc := Int × Int × List Int
def stepS (best : Rc) (slot : Int) (r : Int × List Int × Int) : Rc := if r.2.2 = 0 ∧ r.1 > best.2.1 then (slot, r.1, r.2.1) else best
def ofS (D : Dk) (id : Int) : Rc := stepS (stepS (2 * id + 1, 0, []) (2 * id) (rdS (getD D (2 * id)))) (2 * id + 1) (rdS (getD D (2 * id + 1)))
def mayS (id : Int) : Bool := decide (0 ≤ id) && decide (id ≤ 1099511627776)
def ldS (D : Dk) (id : Int) : List Int × Int × Bool := if mayS id = true then ((ofS D id).2.2, (ofS D id).2.1, decide ((ofS D id).2.1 > 0)) else ([], 0, false)
def svS (D : Dk) (id : Int) (body : List Int) : Dk × Int :=
 if mayS id = true then
  if (wrS ((ofS D id).2.1 + 1) body).2 ≠ 0 then (D, (wrS ((ofS D id).2.1 + 1) body).2)
  else if (putD D (4 * id + 1 - (ofS D id).1) (wrS ((ofS D id).2.1 + 1) body).1).2 ≠ 0 then putD D (4 * id + 1 - (ofS D id).1) (wrS ((ofS D id).2.1 + 1) body).1
  else syncD (putD D (4 * id + 1 - (ofS D id).1) (wrS ((ofS D id).2.1 + 1) body).1).1
 else (D, 1)
theorem xor_one (n : Nat) : (2 * n) ^^^ 1 = 2 * n + 1 ∧ (2 * n + 1) ^^^ 1 = 2 * n := by
 have h1 := Nat.xor_div_two (a := 2 * n) (b := 1)
 have par : ∀ a : Nat, (a ^^^ 1) % 2 = 1 ↔ ¬ a % 2 = 1 := fun a => by
  have := Nat.testBit_xor a 1 0
  rw [Nat.testBit_zero, Nat.testBit_zero, Nat.testBit_zero] at this
  simp only [Nat.reduceMod, decide_true, Bool.xor_true] at this
  rw [← decide_eq_true_iff (p := (a ^^^ 1) % 2 = 1), this]
  simp
 have h2 := par (2 * n)
 have h3 := Nat.xor_div_two (a := 2 * n + 1) (b := 1)
 have h4 := par (2 * n + 1)
 rw [show 1 / 2 = 0 from rfl, Nat.xor_zero] at h1 h3
 omega
theorem bXor_one {id : Int} (h : 0 ≤ id ∧ id ≤ 1099511627776) : bXor .i64 (2 * id) 1 = 2 * id + 1 ∧ bXor .i64 (2 * id + 1) 1 = 2 * id := by
 have key : ∀ n : Nat, n ≤ 2 ^ 60 → bXor .i64 (n : Int) 1 = ((n ^^^ 1 : Nat) : Int) := fun n hn => by
  show IntKind.wrap .i64 ((BitVec.ofInt 64 (n : Int) ^^^ BitVec.ofInt 64 1).toNat : Nat) = _
  have e1 : (BitVec.ofInt 64 (n : Int)).toNat = n := by
   rw [BitVec.toNat_ofInt]
   simp only [show ((2 ^ 64 : Nat) : Int) = 18446744073709551616 from rfl]
   omega
  rw [BitVec.toNat_xor, e1]
  show IntKind.wrap .i64 ((n ^^^ 1 : Nat) : Int) = _
  have : n ^^^ 1 < 2 ^ 61 := Nat.xor_lt_two_pow (by omega) (by decide)
  exact wrap_in (by unfold inI; omega)
 obtain ⟨x1, x2⟩ := xor_one id.toNat
 constructor
 ·have := key (2 * id.toNat) (by omega)
  rw [x1] at this
  rw [show 2 * id = ((2 * id.toNat : Nat) : Int) by omega, this]; omega
 ·have := key (2 * id.toNat + 1) (by omega)
  rw [x2] at this
  rw [show 2 * id + 1 = ((2 * id.toNat + 1 : Nat) : Int) by omega, this]; omega
theorem stepS_slot {best : Rc} {slot : Int} {r : Int × List Int × Int} : (stepS best slot r).1 = best.1 ∨ (stepS best slot r).1 = slot := by
 unfold stepS
 split
 ·exact .inr rfl
 ·exact .inl rfl
theorem ofS_slot (D : Dk) (id : Int) : (ofS D id).1 = 2 * id ∨ (ofS D id).1 = 2 * id + 1 := by
 unfold ofS
 rcases stepS_slot (best := stepS (2 * id + 1, 0, []) (2 * id) (rdS (getD D (2 * id)))) (slot := 2 * id + 1) (r := rdS (getD D (2 * id + 1))) with h | h
 ·rw [h]
  rcases stepS_slot (best := (2 * id + 1, 0, [])) (slot := 2 * id) (r := rdS (getD D (2 * id))) with h | h
  ·exact .inr h
  ·exact .inl h
 ·exact .inr h
theorem rdS_vb (b : List Int) : 0 ≤ (rdS b).1 ∧ (rdS b).1 ≤ 1073741824 := by
 by_cases h : (rdS b).2.2 = 0
 ·have := rdS_v h; omega
 ·rw [(rdS_n h).1]; omega
theorem stepS_v {best : Rc} {slot : Int} (b : List Int) (h : 0 ≤ best.2.1 ∧ best.2.1 ≤ 1073741824) : 0 ≤ (stepS best slot (rdS b)).2.1 ∧ (stepS best slot (rdS b)).2.1 ≤ 1073741824 := by
 unfold stepS
 split
 ·exact rdS_vb b
 ·exact h
theorem ofS_v (D : Dk) (id : Int) : 0 ≤ (ofS D id).2.1 ∧ (ofS D id).2.1 ≤ 1073741824 := stepS_v _ (stepS_v _ (show (0 : Int) ≤ 0 ∧ (0 : Int) ≤ 1073741824 by decide))
theorem ask_l (D : Dk) : (askD D).1.l = D.l := (askD_safe D).2.1
theorem put_l (D : Dk) (k : Int) (b : List Int) : (putD D k b).1.l.length ≤ D.l.length + 1 := by
 unfold putD
 split
 ·rw [ask_l]; omega
 ·split
  ·rw [ask_l]; omega
  ·simp
theorem sync_l (D : Dk) : (syncD D).1.l.length ≤ D.l.length := by
 unfold syncD
 split
 ·rw [ask_l]; omega
 ·simp
theorem save_l (D : Dk) (id : Int) (b : List Int) : (svS D id b).1.l.length ≤ D.l.length + 1 := by
 unfold svS
 split
 ·split
  ·exact Nat.le_succ _
  ·split
   ·exact put_l _ _ _
   ·exact Nat.le_trans (sync_l _) (put_l _ _ _)
 ·exact Nat.le_succ _
end Go.Chk
namespace Go.Chk
open Go Go.Vc Go.Runs
theorem ldS_new {room id : Int} : ldS ⟨room, 0, 0, [], []⟩ id = ([], 0, false) := by
 unfold ldS
 split <;> rfl
end Go.Chk
