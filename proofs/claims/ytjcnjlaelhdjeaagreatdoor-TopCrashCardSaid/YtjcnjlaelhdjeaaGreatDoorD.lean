import Derived.Test.YtjcnjlaelhdjeaaGreatDoorC
import Derived.Lib.Overlaps
set_option linter.all false
namespace Go.Vc
open Go Go.RowKit
abbrev Ext (w w' : World) : Prop := Below w w w'
theorem Ext.rfl' (w : World) : Ext w w := Below.refl _ _
theorem Ext.tr {a b c : World} (h : Ext a b) (k : Ext b c) : Ext a c := Below.trans h (Below.mono k h.size)
theorem Ext.al (w : World) (o : Obj) : Ext w (w.alloc o) := (Below.refl _ w).alloc (ali34 _) o
theorem Ext.dr (w : World) : Ext w w.drew := (Below.refl _ w).drew
theorem Ext.of_alloc {a b c : World} {o : Obj} (h : Ext a b) (e : c = b.alloc o) : Ext a c := by subst e; exact h.tr (Ext.al _ _)
theorem eaa {b c : World} {o : Obj} (e : c = b.alloc o) : Ext b c := (Ext.rfl' _).of_alloc e
theorem Ext.drew {a b : World} (h : Ext a b) : Ext a b.drew := h.tr (Ext.dr _)
theorem setRow_other (w : World) (g j : Nat) (cs : Array Value) (h : j ≠ g) : (w.setRow g cs).heap[j]? = w.heap[j]? := by
 simp only [World.setRow, Array.getElem?_modify, if_neg (Ne.symm h)]
theorem setRow_size (w : World) (g : Nat) (cs : Array Value) : (w.setRow g cs).heap.size = w.heap.size := by simp [World.setRow]
theorem Ext.setRow {a b : World} (h : Ext a b) {g : Nat} (hg : a.heap.size ≤ g) (cs : Array Value) : Ext a (b.setRow g cs) :=
 ⟨h.os, h.tape, h.output, by rw [setRow_size]; exact h.size, fun k hk => by rw [setRow_other _ _ _ _ omm]; exact h.block k hk⟩
theorem Ext.of_setRow {a b c : World} {g : Nat} {cs : Array Value} (h : Ext a b) (e : c = b.setRow g cs) (hg : a.heap.size ≤ g) : Ext a c := by subst e; exact h.setRow hg cs
theorem cell_lt {w : World} {a : Addr} {v : Value} (h : w.cell? a = some v) : a.block < w := by
 unfold World.cell? at h
 split at h
 ·rename_i hb; exact (ali22.1 hb).1
 ·cases h
theorem Ext.ld {w w' : World} (h : Ext w w') {p : Option Addr} {v : Value} (hl : ld w p = some v) : ld w' p = some v := by
 cases p with
 | none => simp [Vc.ld] at hl
 | some a =>
   have hl' : w.cell? a = some v := hl
   show w'.cell? a = some v
   rw [Below.cell h (cell_lt hl')]; exact hl'
theorem Ext.heap {w w' : World} (h : Ext w w') {i : Nat} (hi : i < w) : w'.heap[i]? = w.heap[i]? := h.block i hi
theorem Ext.k {w w' : World} (h : Ext w w') {i : Nat} (hi : i < w.heap.size := by omega) : w'.heap[i]? = w.heap[i]? := h.block i hi
theorem padd_padd (p : Option Addr) (m n : Nat) : padd (padd p m) n = padd p (m + n) := by
 cases p with
 | none => rfl
 | some a =>
   simp only [padd, alj69, Option.some.injEq, Addr.add]
   by_cases hm : m = 0
   ·subst hm; simp
   ·by_cases hn : n = 0
    ·subst hn; simp [hm]
    ·simp [hm, hn, Nat.add_assoc]
@[simp] theorem padd_isSome (p : Option Addr) (n : Nat) : (padd p n).isSome = p.isSome := by cases p <;> rfl
theorem pblk_padd (p : Option Addr) (n : Nat) : pblk (padd p n) = pblk p := by
 cases p with
 | none => rfl
 | some a => simp only [padd, pblk, alj69, Addr.add]; split <;> rfl
def Row (w : World) (g : Nat) (cs : LV) (t : TypeId) : Prop := w.heap[g]? = some (.cells cs.toArray t (0, 0))
theorem Row.new (w : World) (cs : LV) (t : TypeId) : Row (w.alloc (.cells cs.toArray t)) w.heap.size cs t := by
 show (w.heap.push _)[w.heap.size]? = _
 simp
theorem Row.lt {w : World} {g : Nat} {cs : LV} {t : TypeId} (h : Row w g cs t) : g < w := (ali22.1 h).1
theorem Row.ext {w w' : World} {g : Nat} {cs : LV} {t : TypeId} (h : Row w g cs t) (he : Ext w w') : Row w' g cs t := (he.heap h.lt).trans h
theorem Row.same {w w' : World} {g : Nat} {cs : LV} {t : TypeId} (h : Row w g cs t) (he : w'.heap[g]? = w.heap[g]?) : Row w' g cs t := he.trans h
theorem Row.set {w : World} {g : Nat} {cs : LV} {t : TypeId} (h : Row w g cs t) (cs' : LV) : Row (w.setRow g cs'.toArray) g cs' t := setRow_heap _ _ _ _ _ _ h
theorem Row.so {w w' : World} {g j : Nat} {cs : List Value} {t : TypeId} {c : Array Value} (h : Row w g cs t) (e : w' = w.setRow j c) (hn : g ≠ j := by omega) : Row w' g cs t := h.same (by rw [e]; exact setRow_other _ _ _ _ hn)
theorem Row.nw {w w' : World} {l : List Value} {t : TypeId} (e : w' = w.alloc (.cells l.toArray t)) : Row w' w.heap.size l t := by rw [e]; exact Row.new _ _ _
theorem Row.st {w w' : World} {g : Nat} {l cs : List Value} {t : TypeId} (h : Row w g cs t) (e : w' = w.setRow g l.toArray) : Row w' g l t := by rw [e]; exact h.set _
theorem Row.ld {w : World} {g : Nat} {cs : LV} {t : TypeId} (h : Row w g cs t) (j : Nat) : ld w (some ⟨g, j, none⟩) = cs[j]? := by
 simp [Vc.ld, World.cell?, show w.heap[g]? = _ from h]
theorem padd_row (g o j : Nat) : padd (some ⟨g, o, none⟩) j = some ⟨g, o + j, none⟩ := by simp [padd, add_loc]
theorem Row.wr {w : World} {g : Nat} {cs : LV} {t : TypeId} (h : Row w g cs t) {o n : Nat} (hn : o + n ≤ cs.length) : Wr w (some ⟨g, o, none⟩) n := by
 intro i hi
 refine ⟨_, rfl, ?_, ?_⟩
 ·rw [add_loc]
  simp [World.cell?, show w.heap[g]? = _ from h]
  omega
 ·rw [add_loc]; exact frozen_of h _
theorem Row.loadL {w : World} {g : Nat} {cs : LV} {t : TypeId} (h : Row w g cs t) {o : Nat} {vs : LV} (hv : ∀ j, j < vs.length → cs[o + j]? = vs[j]?) : LoadL w (some ⟨g, o, none⟩) 0 vs :=
 LoadL_cells fun j hj => by rw [padd_row, h.ld]; simpa using hv j hj
theorem Row.setP {w : World} {g : Nat} {cs : LV} {t : TypeId} (h : Row w g cs t) {o : Nat} {vs : LV} (hl : o + vs.length ≤ cs.length) (h1 : One vs) :
  setP w (some ⟨g, o, none⟩) vs = w.setRow g (putCells cs o vs).toArray := by
 have e1 := storeCells_run (P := default) ⟨g, o, none⟩ vs 0 w h1 (fun j hj => by
  obtain ⟨a, e, q⟩ := h.wr hl j hj
  cases e; simpa using q)
 have e2 := run_storeCells_at default g o t vs 0 cs.toArray w h (by simpa using hl) h1
 rw [e1] at e2
 injection e2 with _ e3
 show setCs w _ 0 vs = _
 rw [e3, putCells_eq _ _ _ hl]
 simp
inductive Own (B E size : Nat) (w : World) : Sl → LV → Prop
 | nil : Own B E size w ⟨none, 0, 0⟩ []
 | row (g n c : Nat) (cs : LV) (hg : B ≤ g) (hr : Row w g cs E) (hc : c * size ≤ cs.length) (hn : n ≤ c) : Own B E size w ⟨some ⟨g, 0, none⟩, n, c⟩ (cs.take (n * size))
def Sl.blk (s : Sl) : Option Nat := s.a.map (·.block)
theorem Own.len {B E size : Nat} {w : World} {s : Sl} {xs : LV} (h : Own B E size w s xs) : xs.length = s.n * size := by
 cases h with
 | nil => simp
 | row g n c cs hg hr hc hn =>
   have : n * size ≤ c * size := alj63 _ hn
   rw [ali12]
   show min (n * size) _ = n * size
   omega
theorem Own.rd {B E size : Nat} {w : World} {s : Sl} {xs : LV} (h : Own B E size w s xs) : Rd w s.a xs := by
 cases h with
 | nil => intro i v hi; simp at hi
 | row g n c cs hg hr hc hn =>
   intro i v hi
   rw [padd_row, hr.ld]
   rw [alj29] at hi
   split at hi
   ·simpa using hi
   ·cases hi
theorem Own.keep {B E size : Nat} {w w' : World} {s : Sl} {xs : LV} (h : Own B E size w s xs) (hk : ∀ g, s.blk = some g → w'.heap[g]? = w.heap[g]?) : Own B E size w' s xs := by
 cases h with
 | nil => exact .nil
 | row g n c cs hg hr hc hn => exact .row g n c cs hg (hr.same (hk g rfl)) hc hn
theorem Own.ext {B E size : Nat} {w w' : World} {s : Sl} {xs : LV} (h : Own B E size w s xs) (he : Ext w w') : Own B E size w' s xs := by
 cases h with
 | nil => exact .nil
 | row g n c cs hg hr hc hn => exact .row g n c cs hg (hr.ext he) hc hn
theorem Own.lt {B E size : Nat} {w : World} {s : Sl} {xs : LV} (h : Own B E size w s xs) {g : Nat} (hg : s.blk = some g) : B ≤ g ∧ g < w := by
 cases h with
 | nil => cases hg
 | row g' n c cs hg' hr hc hn => cases hg; exact ⟨hg', hr.lt⟩
theorem Own.append {B E size bytes : Nat} {w : World} {s : Sl} {xs : LV} (h : Own B E size w s xs) {m : Nat} {news : LV} (hB : B ≤ w) (hl : news.length = m * size) (h1 : One news)
  (hb : (s.n + m) * bytes ≤ 140737488355328) (hb' : s.n + m ≤ 9223372036854775807) :
  AppPre bytes size w s m news ∧ ∀ (s' : Sl) (w' : World), AppRes E size w s m news s' w' →
   Own B E size w' s' (xs ++ news) ∧ s'.n = s.n + m ∧ Below B w w' ∧ (∀ j, s.blk ≠ some j → j < w.heap.size → w'.heap[j]? = w.heap[j]?) ∧ (s'.blk = s.blk ∨ s'.blk = some w.heap.size) := by
 refine ⟨⟨fun hf => ?_, fun hg => ⟨xs, h.len, h.rd⟩, fun hg => ⟨growslice_fits hg hb, by omega⟩, hl, h1⟩, ?_⟩
 ·cases h with
  | nil =>
    have : m = 0 := by simp at hf; omega
    subst this
    intro i hi; omega
  | row g n c cs hg hr hc hn =>
    rw [padd_row]
    refine hr.wr ?_
    have : (n + m) * size ≤ c * size := alj63 _ hf
    rw [alj56] at this
    simp; omega
 ·intro s' w' hres
  cases hres with
  | fits hf =>
    cases h with
    | nil =>
      have : m = 0 := by simp at hf; omega
      subst this
      have : news = [] := alj31.1 omm
      subst this
      exact ⟨.nil, rfl, Below.refl _ _, fun _ _ _ => rfl, .inl rfl⟩
    | row g n c cs hg hr hc hn =>
      have hle : n * size + news.length ≤ cs.length := by
       have : (n + m) * size ≤ c * size := alj63 _ hf
       rw [alj56] at this
       omega
      rw [padd_row, ali37, hr.setP hle h1]
      have hr' := hr.set (putCells cs (n * size) news)
      have e : cs.take (n * size) ++ news = (putCells cs (n * size) news).take ((n + m) * size) := by
       have e0 : (n + m) * size = n * size + news.length := by rw [alj56, hl]
       rw [putCells_eq _ _ _ hle, e0]
       exact ((alj53 (by simp; omega)).trans (ali11 (by simp; omega))).symm
      refine ⟨?_, rfl, ⟨rfl, rfl, rfl, by rw [setRow_size]; exact ali34 _, fun k hk => setRow_other _ _ _ _ omm⟩, fun j hj _ => setRow_other _ _ _ _ (fun e => hj (by rw [e]; rfl)), .inl rfl⟩
      rw [e]
      exact .row g (n + m) c _ hg hr' (by rw [putCells_length]; exact hc) hf
  | grows hg olds rest cap e1 e2 e3 e4 =>
    have ho : olds = xs := by
     have hrd := h.rd
     have hlen := h.len
     apply ali20
     intro i
     rcases alj62 i xs.length with hi | hi
     ·have h1 := hrd i xs[i] (ali04 hi)
      have hi' : i < olds.length := by omega
      have h2 := e2 i olds[i] (ali04 hi')
      rw [h1] at h2
      rw [ali04 hi, ali04 hi']
      exact h2.symm
     ·rw [ali13 hi, ali13 omm]
    subst ho
    have hnew := Row.new w.drew (olds ++ news ++ rest) E
    have hlen := h.len
    refine ⟨?_, rfl, ?_, fun j _ hj => Below.heap_alloc _ _ _ hj, .inr rfl⟩
    ·have e : olds ++ news = (olds ++ news ++ rest).take ((s.n + m) * size) := by
      have e0 : (s.n + m) * size = olds.length + news.length := by rw [alj56, hl, e1]
      rw [e0]
      exact ((alj53 smm).trans (ali11 smm)).symm
     conv => rhs; rw [e]
     exact .row w.heap.size (s.n + m) cap _ hB hnew (Nat.le_of_eq e4.symm) e3
    ·exact (Below.refl B w).drew.alloc hB _
theorem calls_of_eq {P : Program} {pre : Prop} (hP : NoNG P) (hm : P.follows .mixedOrders = true) {f : FuncId} {fn : Func} {an : Ann} {args : LV} {w : World} {R : Ending → World → Prop} (hf : P.funcs[f]? = some fn)
  (h : pre) (e : pre = vcFn P an fn args w R) : Calls P f args.toArray w R := calls_of_vc hP hm hf (e ▸ h)
def panF (R : Ending → World → Prop) (e : Ending) (w' : World) (A : Prop) : Prop := match e with | .panicked c => R (.panicked c) w' | _ => A
theorem calls_of_eqP {P : Program} {pre : Prop} (hP : NoNG P) (hm : P.follows .mixedOrders = true) {f : FuncId} {fn : Func} {an : Ann} {args : LV} {w : World} {R : Ending → World → Prop} (hf : P.funcs[f]? = some fn)
  (h : pre) (e : pre = vcFnP P an fn args w R) : Calls P f args.toArray w R := calls_of_vcP hP hm hf (e ▸ h)
def ngB (P : Program) : Bool := P.funcs.toList.all fun fn => fn.name != "runtime.NumGoroutine"
theorem ngB_ok {P : Program} (h : ngB P = true) : NoNG P := fun f fn hf he => by
 have := alj10.1 h fn (by have := Array.mem_of_getElem? hf; simpa using this)
 simp [he] at this
def inI (n : Int) : Prop := -9223372036854775808 ≤ n ∧ n ≤ 9223372036854775807
theorem wrap_in {n : Int} (h : inI n) : wqq n = n := by
 unfold inI at h
 unfold IntKind.wrap
 simp only [IntKind.bits, IntKind.signed]
 simp only [alj05]
 split <;> simp_all <;> omega
theorem wI {n : Int} (h : inI n := by unfold inI; omega) : IntKind.wrap .i64 n = n := wrap_in h
theorem wkS {j : Nat} (h : inI ((j : Int) + 1) := by unfold inI; omega) : IntKind.wrap .i64 ((j : Int) + 1) = ((j + 1 : Nat) : Int) := by rw [wrap_in h]; omega
theorem wrap_inI (n : Int) : inI (wqq n) := by
 unfold inI IntKind.wrap
 simp only [IntKind.bits, IntKind.signed]
 simp only [alj05]
 split <;> simp_all <;> omega
def litVal {H : Type} : DataW H → Value
 | .lit (.int k n) => .int k n
 | .lit (.bool b) => .bool b
 | .lit (.string bs) => .string ⟨bs.toArray⟩
 | _ => .bool false
def aggCells {H : Type} : DataW H → LV
 | .agg l => l.flatMap fun
   | .agg m => m.map litVal
   | d => [litVal d]
 | d => [litVal d]
def layAll (P : Program) (l : List (String × DataW Unit)) (w : World) : World :=
 { w with heap := l.foldl (fun h x => match P.globalNamed x.1 with
   | some g => h.modify g fun
     | .cells _ t frozen => .cells (aggCells x.2).toArray t frozen
     | o => o
   | none => h) w.heap }
end Go.Vc
namespace Go.Vc
open Go Go.RowKit
structure RdK (w : World) (s : Sl) (k : Nat) (rows : List (LV)) : Prop where
 n : s.n = rows.length
 wd : ∀ r ∈ rows, r.length = k
 rd : ∀ i r, rows[i]? = some r → ∀ j v, r[j]? = some v → ld w (padd s.a (i * k + j)) = some v
theorem RdK.ext {w w' : World} {s : Sl} {k : Nat} {rows : List (LV)} (h : RdK w s k rows) (he : Ext w w') : RdK w' s k rows :=
 ⟨h.n, h.wd, fun i r hi j v hj => he.ld (h.rd i r hi j v hj)⟩
theorem RdK.isSome {w : World} {s : Sl} {k : Nat} {rows : List (LV)} (h : RdK w s k rows) (hk : 0 < k) {i : Nat} (hi : i < rows.length) : s.a.isSome = true := by
 have hr : rows[i]? = some rows[i] := ali04 hi
 have hl := h.wd _ (List.getElem_mem hi)
 have h0 : rows[i][0]? = some (rows[i][0]'omm) := ali04 omm
 have := h.rd i _ hr 0 _ h0
 cases hs : s.a with
 | none => rw [hs] at this; simp [ld, padd] at this
 | some a => rfl
theorem RdK.inB {w : World} {s : Sl} {k : Nat} {rows : List (LV)} (h : RdK w s k rows) (hk : 0 < k) {i : Int} (h0 : 0 ≤ i) (h1 : i < (s.n : Int)) : InB s.a i s.n :=
 ⟨h.isSome hk (i := i.toNat) (by have := h.n; omega), h0, h1⟩
theorem RdK.at {w : World} {s : Sl} {k : Nat} {rows : List (LV)} (h : RdK w s k rows) {i : Nat} {r : LV} (hi : rows[i]? = some r) {j : Nat} {v : Value} (hj : r[j]? = some v) : ld w (padd (padd s.a (i * k)) j) = some v := by
 rw [padd_padd]; exact h.rd i r hi j v hj
theorem LoadL_of {w : World} {p : Option Addr} : ∀ {vs : LV} {i : Nat}, (∀ j v, vs[j]? = some v → ld w (padd p (i + j)) = some v) → LoadL w p i vs
 | [], _, _ => trivial
 | [v], i, h => by have := h 0 v rfl; simpa [LoadL] using this
 | v :: u :: r, i, h => ⟨by have := h 0 v rfl; simpa using this, LoadL_of (i := i + 1) fun j x hj => by
   have := h (j + 1) x (by simpa using hj)
   rwa [show i + (j + 1) = i + 1 + j from by omega] at this⟩
theorem RdK.loadL {w : World} {s : Sl} {k : Nat} {rows : List (LV)} (h : RdK w s k rows) {i : Nat} {r : LV} (hi : rows[i]? = some r) : LoadL w (padd s.a (i * k)) 0 r :=
 LoadL_of fun j v hj => by rw [ali37]; exact h.at hi hj
theorem flatten_get {k : Nat} : ∀ {rows : List (LV)}, (∀ r ∈ rows, r.length = k) → ∀ {i : Nat} {r : LV}, rows[i]? = some r → ∀ {j : Nat}, j < k → rows.flatten[i * k + j]? = r[j]?
 | [], _, i, r, hi, j, _ => by simp at hi
 | a :: rows, h, 0, r, hi, j, hj => by
   simp at hi; subst hi
   have := h a (.head _)
   rw [ali21, ali18 omm]
   simp
 | a :: rows, h, i + 1, r, hi, j, hj => by
   have ha := h a (.head _)
   rw [ali21, ali19 (by rw [ha, alj65]; omega)]
   rw [show (i + 1) * k + j - a.length = i * k + j from by rw [ha, alj65]; omega]
   exact flatten_get (fun r hr => h r (.tail _ hr)) (by simpa using hi) hj
theorem flatten_len {k : Nat} : ∀ {rows : List (LV)}, (∀ r ∈ rows, r.length = k) → rows.flatten.length = rows.length * k
 | [], _ => by simp
 | a :: rows, h => by
   rw [ali21, ali07, flatten_len (fun r hr => h r (.tail _ hr)), h a (.head _), ali10, alj65, alj55]
structure OwnK (B E k : Nat) (w : World) (s : Sl) (rows : List (LV)) : Prop where
 own : Own B E k w s rows.flatten
 wd : ∀ r ∈ rows, r.length = k
theorem OwnK.rd {B E k : Nat} {w : World} {s : Sl} {rows : List (LV)} (h : OwnK B E k w s rows) (hk : 0 < k) : RdK w s k rows := by
 refine ⟨?_, h.wd, fun i r hi j v hj => ?_⟩
 ·have h1 := h.own.len
  rw [flatten_len h.wd] at h1
  exact (Nat.eq_of_mul_eq_mul_right hk h1).symm
 ·have hl := h.wd r (ali00 hi)
  have hjk : j < k := by rw [← hl]; exact (ali03.1 hj).1
  exact h.own.rd _ _ ((flatten_get h.wd hi hjk).trans hj)
theorem OwnK.nil {B E k : Nat} {w : World} : OwnK B E k w ⟨none, 0, 0⟩ [] := ⟨.nil, fun _ h => by cases h⟩
theorem OwnK.ext {B E k : Nat} {w w' : World} {s : Sl} {rows : List (LV)} (h : OwnK B E k w s rows) (he : Ext w w') : OwnK B E k w' s rows := ⟨h.own.ext he, h.wd⟩
theorem OwnK.keep {B E k : Nat} {w w' : World} {s : Sl} {rows : List (LV)} (h : OwnK B E k w s rows) (hk : ∀ g, s.blk = some g → w'.heap[g]? = w.heap[g]?) : OwnK B E k w' s rows := ⟨h.own.keep hk, h.wd⟩
theorem OwnK.low {B B' E k : Nat} {w : World} {s : Sl} {rows : List (LV)} (h : OwnK B E k w s rows) (hb : B' ≤ B) : OwnK B' E k w s rows := by
 refine ⟨?_, h.wd⟩
 have ho := h.own
 generalize rows.flatten = xs at ho
 cases ho with
 | nil => exact .nil
 | row g n c cs hg hr hc hn => exact .row g n c cs omm hr hc hn
theorem OwnK.append {B E k bytes : Nat} {w : World} {s : Sl} {rows : List (LV)} (h : OwnK B E k w s rows) {news : LV} (hB : B ≤ w) (hl : news.length = k) (h1 : One news)
  (hb : (s.n + 1) * bytes ≤ 140737488355328) (hb' : s.n + 1 ≤ 9223372036854775807) :
  AppPre bytes k w s 1 news ∧ ∀ (s' : Sl) (w' : World), AppRes E k w s 1 news s' w' →
   OwnK B E k w' s' (rows ++ [news]) ∧ s'.n = s.n + 1 ∧ Below B w w' ∧ (∀ j, s.blk ≠ some j → j < w.heap.size → w'.heap[j]? = w.heap[j]?) ∧ (s'.blk = s.blk ∨ s'.blk = some w.heap.size) := by
 obtain ⟨hp, hr⟩ := h.own.append (bytes := bytes) (m := 1) (news := news) hB (by rw [hl, Nat.one_mul]) h1 hb hb'
 refine ⟨hp, fun s' w' hres => ?_⟩
 obtain ⟨ho, hn, hx, hk, hbk⟩ := hr s' w' hres
 refine ⟨⟨by rw [alj21]; simpa using ho, fun r hr => ?_⟩, hn, hx, hk, hbk⟩
 rcases ali25.1 hr with hr | hr
 ·exact h.wd r hr
 ·simp at hr; rw [hr]; exact hl
theorem Own.set {B E size : Nat} {w : World} {s : Sl} {xs : LV} (h : Own B E size w s xs) {m : Nat} {v : Value} (hm : m < xs.length) (hv : v.oneCell' = true) :
  (padd s.a m).isSome = true ∧ Wr w (padd s.a m) 1 ∧ Own B E size (setP w (padd s.a m) [v]) s (xs.set m v) ∧ (∀ j, s.blk ≠ some j → (setP w (padd s.a m) [v]).heap[j]? = w.heap[j]?) := by
 cases h with
 | nil => simp at hm
 | row g n c cs hg hr hc hn =>
   rw [ali12] at hm
   rw [padd_row]
   have h1 : One [v] := by intro u hu; simp at hu; subst hu; exact hv
   have hs := hr.setP (o := 0 + m) (vs := [v]) (by simp; omega) h1
   refine ⟨rfl, hr.wr omm, ?_, fun j hj => ?_⟩
   ·rw [← List.take_set]
    rw [hs]
    refine .row g n c _ hg ?_ (by simpa using hc) hn
    have e : putCells cs (0 + m) [v] = cs.set m v := by simp [putCells]
    rw [e]
    exact hr.set (cs.set m v)
   ·rw [hs]
    exact setRow_other _ _ _ _ (fun e => hj (by rw [e]; rfl))
end Go.Vc
namespace Go.Vc
open Go Go.RowKit
theorem Below.setP {B : Nat} {a b : World} (h : Below B a b) {p : Option Addr} {vs : LV} (hp : ∀ x, p = some x → B ≤ x.block) : Below B a (setP b p vs) := by
 cases p with
 | none => exact h
 | some x =>
   have hx := hp x rfl
   show Below B a (setCs b x 0 vs)
   have key : ∀ (vs : LV) (i : Nat) (b : World), Below B a b → Below B a (setCs b x i vs) := by
    intro vs
    induction vs with
    | nil => intro i b h; exact h
    | cons v r ih =>
      intro i b h
      refine ih _ _ (Below.setCell h ?_ _)
      unfold Addr.add; split <;> exact hx
   exact key vs 0 b h
theorem one_i (k : IntKind) (a : Int) : One [.int k a] := by intro v hv; simp at hv; subst hv; rfl
theorem one_ii (k k' : IntKind) (a b : Int) : One [.int k a, .int k' b] := by
 intro v hv; simp at hv
 rcases hv with rfl | rfl <;> rfl
theorem OwnK.app1 {B E k bytes : Nat} {w : World} {s : Sl} {rows : List (LV)} (h : OwnK B E k w s rows) {news : LV} (o : Obj) (hB : B ≤ w) (hl : news.length = k) (h1 : One news)
  (hb : (s.n + 1) * bytes ≤ 140737488355328) (hb' : s.n + 1 ≤ 9223372036854775807) :
  AppPre bytes k (w.alloc o) s 1 news ∧ ∀ (s' : Sl) (w' : World), AppRes E k (w.alloc o) s 1 news s' w' →
   w'.heap[w.heap.size]? = (w.alloc o).heap[w.heap.size]? ∧ OwnK B E k w' s' (rows ++ [news]) ∧ s'.n = s.n + 1 ∧ Below B w w' ∧ (∀ j, s.blk ≠ some j → j < w.heap.size → w'.heap[j]? = w.heap[j]?) ∧ (s'.blk = s.blk ∨ s'.blk = some (w.heap.size + 1)) := by
 have xa := Ext.al w o
 obtain ⟨hp, hr⟩ := (h.ext xa).append (bytes := bytes) (news := news) (ali41 hB xa.size) hl h1 hb hb'
 refine ⟨hp, fun s' w' hres => ?_⟩
 obtain ⟨ho, hn, hx, hk, hbk⟩ := hr s' w' hres
 have hz : (w.alloc o).heap.size = w.heap.size + 1 := by simp
 refine ⟨hk _ (fun hb => absurd (h.own.lt hb).2 (alj59 _)) smm, ho, hn, (Below.mono xa hB).trans hx, fun j hj hlt => ?_, by rw [← hz]; exact hbk⟩
 rw [hk j hj omm]
 exact xa.heap hlt
theorem OwnK.set {B E k : Nat} {w : World} {s : Sl} {rows : List (List Value)} (h : OwnK B E k w s rows) {i j : Nat} {r : List Value} {v : Value} (hi : rows[i]? = some r) (hj : j < k) (hv : v.oneCell' = true) (hB : B ≤ w.heap.size) :
  (padd (padd s.a (i * k)) j).isSome = true ∧ Wr w (padd (padd s.a (i * k)) j) 1 ∧ OwnK B E k (setP w (padd (padd s.a (i * k)) j) [v]) s (rows.set i (r.set j v)) ∧
   Below B w (setP w (padd (padd s.a (i * k)) j) [v]) ∧ (∀ m, s.blk ≠ some m → (setP w (padd (padd s.a (i * k)) j) [v]).heap[m]? = w.heap[m]?) := by
 have hlen := flatten_len h.wd
 have hil : i < rows.length := (List.getElem?_eq_some_iff.1 hi).1
 have hm : i * k + j < rows.flatten.length := by
  rw [hlen]
  have : (i + 1) * k ≤ rows.length * k := Nat.mul_le_mul_right _ hil
  rw [Nat.succ_mul] at this
  omega
 obtain ⟨h1, h2, h3, h4⟩ := h.own.set (v := v) hm hv
 rw [padd_padd]
 refine ⟨h1, h2, ⟨?_, fun q hq => ?_⟩, ?_, h4⟩
 ·have e : (rows.set i (r.set j v)).flatten = rows.flatten.set (i * k + j) v := by
   have hw := h.wd
   clear h h1 h2 h3 h4 hm hlen hv
   induction rows generalizing i with
   | nil => simp at hi
   | cons a rows ih =>
     have ha := hw a (.head _)
     cases i with
     | zero =>
       simp at hi; subst hi
       simp only [List.set_cons_zero, List.flatten_cons, Nat.zero_mul, Nat.zero_add]
       rw [List.set_append_left _ _ (by omega)]
     | succ i =>
       simp only [List.set_cons_succ, List.flatten_cons]
       rw [List.set_append_right _ _ (by rw [ha, Nat.succ_mul]; omega), show (i + 1) * k + j - a.length = i * k + j from by rw [ha, Nat.succ_mul]; omega]
       rw [ih (by simpa using hi) (by simpa using hil) (fun r hr => hw r (.tail _ hr))]
  rw [e]; exact h3
 ·rcases List.mem_or_eq_of_mem_set hq with hq | rfl
  ·exact h.wd q hq
  ·rw [List.length_set]; exact h.wd r (List.mem_of_getElem? hi)
 ·refine Below.setP (Below.refl _ _) fun x hx => ?_
  have ho := h.own
  generalize rows.flatten = xs at ho
  cases ho with
  | nil => simp [padd] at hx
  | row g n c cs hg hr hc hn => simp [padd, add_loc] at hx; subst hx; exact hg
end Go.Vc
namespace Go.Vc
open Go Go.RowKit
theorem AppRes_zero {E size : Nat} {w w' : World} {a : Option Addr} {n : Nat} {news : LV} {s' : Sl} (h : AppRes E size w ⟨a, 0, 0⟩ n news s' w') (hl : news.length = n * size) {j : Nat} (hj : j < w) : w'.heap[j]? = w.heap[j]? := by
 cases h with
 | fits hf =>
   have : n = 0 := by simp at hf; omega
   subst this
   have : news = [] := alj13 omm
   subst this
   cases hp : padd a (0 * size) with
   | none => simp [hp, Go.Vc.setP]
   | some x => simp only [hp, Go.Vc.setP]; rfl
 | grows hf olds rest cap h1 h2 h3 h4 => exact ((Ext.dr w).tr (Ext.al _ _)).heap hj
theorem RdK.flat {w : World} {s : Sl} {k : Nat} {rows : List (LV)} (h : RdK w s k rows) (hk : 0 < k) : Rd w s.a rows.flatten := by
 intro i v hi
 have hil : i < rows.flatten.length := (ali03.1 hi).1
 rw [flatten_len h.wd] at hil
 have hik : i / k < rows.length := Nat.div_lt_of_lt_mul (by rw [Nat.mul_comm]; exact hil)
 have hr : rows[i / k]? = some rows[i / k] := ali04 hik
 have hm : i % k < k := Nat.mod_lt _ hk
 have e : i / k * k + i % k = i := by rw [Nat.mul_comm]; exact Nat.div_add_mod i k
 have := flatten_get h.wd hr hm
 rw [e, hi] at this
 have := h.rd _ _ hr _ v this.symm
 rwa [e] at this
theorem One_flatten {rows : List (LV)} (h : ∀ r ∈ rows, One r) : One rows.flatten := by
 intro v hv
 obtain ⟨r, hr, hvr⟩ := List.mem_flatten.1 hv
 exact h r hr v hvr
end Go.Vc
namespace Go.Vc
open Go Go.RowKit
theorem putCells_take : ∀ (vs cs : LV) (off N : Nat), (putCells cs off vs).take N = putCells (cs.take N) off vs
 | [], _, _, _ => rfl
 | v :: r, cs, off, N => by
   show (putCells (cs.set off v) (off + 1) r).take N = putCells ((cs.take N).set off v) (off + 1) r
   rw [putCells_take, List.take_set]
theorem putCells_right (a : LV) : ∀ (vs b : LV) (o : Nat), putCells (a ++ b) (a.length + o) vs = a ++ putCells b o vs
 | [], _, _ => rfl
 | v :: r, b, o => by
   show putCells ((a ++ b).set (a.length + o) v) (a.length + o + 1) r = a ++ putCells (b.set o v) (o + 1) r
   rw [List.set_append_right _ _ omm, Nat.add_sub_cancel_left, Nat.add_assoc]
   exact putCells_right a r _ _
theorem Own.put {B E size : Nat} {w : World} {s : Sl} {xs : LV} (h : Own B E size w s xs) {m : Nat} {vs : LV} (hm : m + vs.length ≤ xs.length) (hx : 0 < xs.length) (hv : One vs) :
  (padd s.a m).isSome = true ∧ Wr w (padd s.a m) vs.length ∧ Own B E size (setP w (padd s.a m) vs) s (putCells xs m vs) ∧ (∀ j, s.blk ≠ some j → (setP w (padd s.a m) vs).heap[j]? = w.heap[j]?) := by
 cases h with
 | nil => simp at hx
 | row g n c cs hg hr hc hn =>
   rw [ali12] at hm
   rw [padd_row]
   have hs := hr.setP (o := 0 + m) (vs := vs) omm hv
   refine ⟨rfl, hr.wr omm, ?_, fun j hj => ?_⟩
   ·rw [← putCells_take, hs, ali37]
    exact .row g n c _ hg (hr.set _) (by rw [Go.Vc.putCells_length]; exact hc) hn
   ·rw [hs]
    exact setRow_other _ _ _ _ (fun e => hj (by rw [e]; rfl))
theorem OwnK.put {B E k : Nat} {w : World} {s : Sl} {rows : List (List Value)} (h : OwnK B E k w s rows) {i : Nat} {r : List Value} (hi : i < rows.length) (hk : 0 < k) (hr : r.length = k) (hv : One r) :
  (padd s.a (i * k)).isSome = true ∧ Wr w (padd s.a (i * k)) k ∧ OwnK B E k (setP w (padd s.a (i * k)) r) s (rows.set i r) ∧
   Below B w (setP w (padd s.a (i * k)) r) ∧ (∀ m, s.blk ≠ some m → (setP w (padd s.a (i * k)) r).heap[m]? = w.heap[m]?) := by
 have hlen := flatten_len h.wd
 have h1 : (i + 1) * k ≤ rows.length * k := Nat.mul_le_mul_right _ hi
 rw [Nat.succ_mul] at h1
 obtain ⟨p1, p2, p3, p4⟩ := h.own.put (m := i * k) (vs := r) (by omega) (by omega) hv
 rw [hr] at p2
 refine ⟨p1, p2, ⟨?_, fun q hq => ?_⟩, ?_, p4⟩
 ·have e : (rows.set i r).flatten = putCells rows.flatten (i * k) r := by
   have hw := h.wd
   clear h p1 p2 p3 p4 hlen h1
   induction rows generalizing i with
   | nil => simp at hi
   | cons a rows ih =>
     have ha := hw a (.head _)
     cases i with
     | zero =>
       simp only [List.set_cons_zero, List.flatten_cons, Nat.zero_mul]
       rw [putCells_eq _ _ _ (by rw [List.length_append]; omega), hr, Nat.zero_add, List.drop_left' ha]
       simp
     | succ i =>
       simp only [List.set_cons_succ, List.flatten_cons]
       rw [show (i + 1) * k = a.length + i * k from by rw [ha, Nat.succ_mul]; omega, putCells_right]
       rw [ih (by simpa using hi) (fun r hr => hw r (.tail _ hr))]
  rw [e]; exact p3
 ·rcases List.mem_or_eq_of_mem_set hq with hq | rfl
  ·exact h.wd q hq
  ·exact hr
 ·refine Below.setP (Below.refl _ _) fun x hx => ?_
  have ho := h.own
  generalize rows.flatten = xs at ho
  cases ho with
  | nil => simp [padd] at hx
  | row g n c cs hg hr hc hn => simp [padd, add_loc] at hx; subst hx; exact hg
theorem padd_slBase (a : Option Addr) (m size j : Nat) : padd (slBase a 0 m size) j = padd a j := by
 unfold slBase
 split
 ·rfl
 ·show padd (padd a (0 * size)) j = _
  rw [padd_padd]; simp
theorem RdK.cut {w : World} {s : Sl} {k : Nat} {rows : List (LV)} (h : RdK w s k rows) {m c' c'' : Nat} (hm : m ≤ rows.length) : RdK w ⟨slBase s.a 0 c' k, m, c''⟩ k (rows.take m) := by
 refine ⟨by simp; omega, fun r hr => h.wd r (alj44 hr), fun i r hi j v hj => ?_⟩
 show ld w (padd (slBase s.a 0 c' k) _) = _
 rw [padd_slBase]
 rw [alj29] at hi
 split at hi
 ·exact h.rd i r hi j v hj
 ·cases hi
end Go.Vc
namespace Go.Vc
open Go Go.RowKit
theorem OwnK.appN {B E k bytes : Nat} {w : World} {s : Sl} {rows more : List (LV)} (h : OwnK B E k w s rows) (hB : B ≤ w) (hl : ∀ r ∈ more, r.length = k) (h1 : ∀ r ∈ more, One r)
  (hb : (s.n + more.length) * bytes ≤ 140737488355328) (hb' : s.n + more.length ≤ 9223372036854775807) :
  AppPre bytes k w s more.length more.flatten ∧ ∀ (s' : Sl) (w' : World), AppRes E k w s more.length more.flatten s' w' →
   OwnK B E k w' s' (rows ++ more) ∧ s'.n = s.n + more.length ∧ Below B w w' ∧ (∀ j, s.blk ≠ some j → j < w.heap.size → w'.heap[j]? = w.heap[j]?) ∧ (s'.blk = s.blk ∨ s'.blk = some w.heap.size) := by
 obtain ⟨hp, hr⟩ := h.own.append (bytes := bytes) (m := more.length) (news := more.flatten) hB (flatten_len hl) (One_flatten h1) hb hb'
 refine ⟨hp, fun s' w' hres => ?_⟩
 obtain ⟨ho, hn, hx, hk, hbk⟩ := hr s' w' hres
 refine ⟨⟨by rw [alj21]; exact ho, fun r hr => ?_⟩, hn, hx, hk, hbk⟩
 rcases ali25.1 hr with hr | hr
 ·exact h.wd r hr
 ·exact hl r hr
end Go.Vc
namespace Go.Vc
open Go Go.RowKit
theorem RdK.rest {w : World} {s : Sl} {k : Nat} {rows : List (LV)} (h : RdK w s k rows) {l m n' c' : Nat} (hn : n' = rows.length - l) (hm : m = l → rows.length ≤ l) : RdK w ⟨slBase s.a l m k, n', c'⟩ k (rows.drop l) := by
 refine ⟨by simpa using hn, fun r hr => h.wd r (alj43 hr), fun i r hi j v hj => ?_⟩
 rw [alj24] at hi
 show ld w (padd (slBase s.a l m k) _) = _
 unfold slBase
 split
 ·rename_i e
  have := hm e
  rw [ali13 omm] at hi; cases hi
 ·show ld w (padd (padd s.a (l * k)) _) = _
  rw [padd_padd]
  have := h.rd (l + i) r hi j v hj
  rwa [alj56, Nat.add_assoc] at this
end Go.Vc
namespace Go.Vc
open Go Go.RowKit
theorem callV_mono {P : Program} {fv : Value} {args : LV} {w : World} {R R' : Ending → World → Prop} (h : callV P fv args w R) (hr : ∀ e w', R e w' → R' e w') : callV P fv args w R' := by
 unfold callV at h ⊢
 split at h
 ·split at h
  ·exact h.mono hr
  ·obtain ⟨e, he, v, w', h1, h2⟩ := h
   exact ⟨e, he, v, w', h1, hr _ _ h2⟩
 ·obtain ⟨h1, fn, tmps, assign, body, h2, h3⟩ := h
  exact ⟨h1, fn, tmps, assign, body, h2, h3.mono hr⟩
 ·exact h.elim
theorem callV_fn {P : Program} {f : FuncId} {first cap : Array Value} {args : LV} {w : World} {R : Ending → World → Prop} (hb : hasBody P f = true) (h : Calls P f (first.toList ++ args ++ cap.toList).toArray w R) :
  callV P (.func (.func f) first cap) args w R := by
 unfold callV
 simp only [hb]
 exact h
theorem callV_of {P : Program} {f : FuncId} {first cap : Array Value} {args : LV} {w : World} {R : Ending → World → Prop} {asx : Array Value} (hb : hasBody P f = true) (ha : (first.toList ++ args ++ cap.toList).toArray = asx) (h : Calls P f asx w R) :
  callV P (.func (.func f) first cap) args w R := callV_fn hb (by rw [ha]; exact h)
structure Mod (F : Nat → Prop) (w w' : World) : Prop where
 os : w'.os = w.os
 tape : w'.tape = w.tape
 output : w'.output = w.output
 size : w.heap.size ≤ w'.heap.size
 same : ∀ i, i < w.heap.size → ¬ F i → w'.heap[i]? = w.heap[i]?
theorem Mod.refl (F : Nat → Prop) (w : World) : Mod F w w := ⟨rfl, rfl, rfl, ali34 _, fun _ _ _ => rfl⟩
theorem Mod.of_ext {F : Nat → Prop} {w w' : World} (h : Ext w w') : Mod F w w' := ⟨h.os, h.tape, h.output, h.size, fun i hi _ => h.block i hi⟩
theorem Mod.trans {F : Nat → Prop} {a b c : World} (h : Mod F a b) (k : Mod F b c) : Mod F a c :=
 ⟨k.os.trans h.os, k.tape.trans h.tape, k.output.trans h.output, ali41 h.size k.size, fun i hi hn => (k.same i (ali35 hi h.size) hn).trans (h.same i hi hn)⟩
theorem Mod.mono {F F' : Nat → Prop} {a b : World} (h : Mod F a b) (hs : ∀ i, i < a.heap.size → F i → F' i) : Mod F' a b := ⟨h.os, h.tape, h.output, h.size, fun i hi hn => h.same i hi fun hf => hn (hs i hi hf)⟩
theorem Mod.tr {F F' : Nat → Prop} {a b c : World} (h : Mod F a b) (k : Mod F' b c) (hs : ∀ i, F' i → F i ∨ a.heap.size ≤ i) : Mod F a c :=
 ⟨k.os.trans h.os, k.tape.trans h.tape, k.output.trans h.output, ali41 h.size k.size, fun i hi hn => (k.same i (ali35 hi h.size) fun hf => by
  rcases hs i hf with hf | hf
  ·exact hn hf
  ·omega).trans (h.same i hi hn)⟩
theorem Mod.below {F : Nat → Prop} {B : Nat} {w w' : World} (h : Mod F w w') (hB : B ≤ w) (hF : ∀ i, F i → B ≤ i) : Below B w w' := ⟨h.os, h.tape, h.output, h.size, fun i hi => h.same i omm fun hf => by have := hF i hf; omega⟩
theorem Mod.ext {F : Nat → Prop} {w0 w w' : World} (h : Mod F w w') (x : Ext w0 w) (hF : ∀ i, F i → w0.heap.size ≤ i) : Ext w0 w' := x.trans (h.below x.size hF)
theorem Mod.of_rec {r : Nat} {w w' : World} (h : Rec r w w') : Mod (fun i => i = r) w w' := ⟨h.os, h.tape, h.output, Nat.le_of_eq h.size.symm, fun i _ hn => h.same i hn⟩
theorem ld_same {w w' : World} {p : Option Addr} (h : ∀ b, pblk p = some b → w'.heap[b]? = w.heap[b]?) : ld w' p = ld w p := by
 cases p with
 | none => rfl
 | some a =>
   show w'.cell? a = w.cell? a
   have := h a.block rfl
   simp only [World.cell?, this]
theorem RdK.same {w w' : World} {s : Sl} {k : Nat} {rows : List (LV)} (h : RdK w s k rows) (hs : ∀ b, s.blk = some b → w'.heap[b]? = w.heap[b]?) : RdK w' s k rows :=
 ⟨h.n, h.wd, fun i r hi j v hj => by
  rw [ld_same fun b hb => hs b (by rw [pblk_padd] at hb; exact hb)]
  exact h.rd i r hi j v hj⟩
end Go.Vc
namespace Go.Vc
open Go Go.RowKit
theorem RdK.blk_lt {w : World} {s : Sl} {k : Nat} {rows : List (LV)} (h : RdK w s k rows) (hk : 0 < k) (hne : rows ≠ []) {b : Nat} (hb : s.blk = some b) : b < w := by
 cases rows with
 | nil => exact absurd rfl hne
 | cons r rows =>
   have hl := h.wd r (.head _)
   have h0 : r[0]? = some (r[0]'omm) := ali04 omm
   have := h.rd 0 r rfl 0 _ h0
   cases ha : s.a with
   | none => rw [ha] at this; simp [ld, padd] at this
   | some a =>
     rw [ha] at this
     have hlt := cell_lt (w := w) (a := a.add (0 * k + 0)) this
     have : (a.add (0 * k + 0)).block = a.block := by unfold Addr.add; split <;> rfl
     rw [this] at hlt
     simp [Sl.blk, ha] at hb
     omega
theorem RdK.same' {w w' : World} {s : Sl} {k : Nat} {rows : List (LV)} (h : RdK w s k rows) (hs : rows ≠ [] → ∀ b, s.blk = some b → w'.heap[b]? = w.heap[b]?) : RdK w' s k rows := by
 cases rows with
 | nil => exact ⟨h.n, h.wd, fun i r hi => by simp at hi⟩
 | cons r rows => exact h.same (hs smm)
end Go.Vc
namespace Go.Vc
open Go Go.RowKit
end Go.Vc
namespace Go.Vc
open Go Go.RowKit
theorem OwnK.form {B E k : Nat} {w : World} {s : Sl} {rows : List (LV)} (h : OwnK B E k w s rows) (hk : 0 < k) : (s = ⟨none, 0, 0⟩ ∧ rows = []) ∨
  ∃ g cs, s.a = pzq g ∧ B ≤ g ∧ Row w g cs E ∧ s.c * k ≤ cs.length ∧ s.n ≤ s.c ∧ cs.take (s.n * k) = rows.flatten ∧ s.n = rows.length := by
 have hn := (h.rd hk).n
 have ho := h.own
 have hf := flatten_len h.wd
 generalize hx : rows.flatten = xs at ho hf
 cases ho with
 | nil => exact .inl ⟨rfl, alj13 (by rw [← hn])⟩
 | row g n c cs hg hr hc hn' => exact .inr ⟨g, cs, rfl, hg, hr, hc, hn', rfl, hn⟩
theorem OwnK.of_row {B E k : Nat} {w : World} {g n c : Nat} {cs : LV} {rows : List (LV)} (hg : B ≤ g) (hr : Row w g cs E) (hc : c * k ≤ cs.length) (hn : n ≤ c) (ht : cs.take (n * k) = rows.flatten) (hw : ∀ r ∈ rows, r.length = k) :
  OwnK B E k w ⟨pzq g, n, c⟩ rows := ⟨by rw [← ht]; exact .row g n c cs hg hr hc hn, hw⟩
theorem slBase_zero (a : Option Addr) (m size : Nat) : slBase a 0 m size = a := by
 unfold slBase
 split
 ·rfl
 ·cases a <;> simp [Addr.add]
theorem slBase_row (g l m size : Nat) : slBase (pzq g) l m size = if m = l then pzq g else some ⟨g, l * size, none⟩ := by
 unfold slBase
 split
 ·rfl
 ·simp [add_loc]
theorem Row.peek {w : World} {g : Nat} {cs vs : LV} {E : TypeId} (hr : Row w g cs E) {l m size : Nat} (hm : m = l → vs = []) (hv : ∀ j, j < vs.length → cs[l * size + j]? = vs[j]?) : Rd w (slBase (pzq g) l m size) vs := by
 intro j v hj
 have hlt := (ali03.1 hj).1
 rw [slBase_row, if_neg (fun e => by rw [hm e] at hlt; simp at hlt), padd_row, hr.ld, hv j hlt]
 exact hj
theorem Row.poke {w : World} {g : Nat} {cs vs : LV} {E : TypeId} (hr : Row w g cs E) {l m size : Nat} (hm : m = l → vs = []) (hl : l * size + vs.length ≤ cs.length) (h1 : One vs) :
  Wr w (slBase (pzq g) l m size) vs.length ∧ Row (Go.Vc.setP w (slBase (pzq g) l m size) vs) g (putCells cs (l * size) vs) E ∧ Mod (fun i => i = g) w (Go.Vc.setP w (slBase (pzq g) l m size) vs) := by
 by_cases e : m = l
 ·have := hm e
  subst this
  rw [slBase_row, if_pos e]
  exact ⟨fun i hi => by simp at hi, hr, Mod.refl _ _⟩
 ·rw [slBase_row, if_neg e, hr.setP hl h1]
  exact ⟨hr.wr hl, hr.set _, ⟨rfl, rfl, rfl, by rw [setRow_size]; exact ali34 _, fun i _ hn => setRow_other _ _ _ _ hn⟩⟩
theorem Rd_unique {w : World} {a : Option Addr} {xs ys : LV} (hx : Rd w a xs) (hy : Rd w a ys) (hl : xs.length = ys.length) : xs = ys := by
 apply ali20
 intro i
 rcases alj62 i xs.length with hi | hi
 ·have h1 := hx i xs[i] (ali04 hi)
  have h2 := hy i (ys[i]'omm) (ali04 omm)
  rw [h1] at h2
  rw [ali04 hi, ali04 omm]
  exact h2
 ·rw [ali13 hi, ali13 omm]
theorem Row.rd0 {w : World} {g : Nat} {cs vs : LV} {E : TypeId} (hr : Row w g cs E) (hv : ∀ j, j < vs.length → cs[j]? = vs[j]?) : Rd w (pzq g) vs := by
 intro j v hj
 have hlt := (ali03.1 hj).1
 rw [padd_row, hr.ld, ali37, hv j hlt]
 exact hj
theorem Row.ne {w : World} {g g' : Nat} {cs cs' : LV} {E E' : TypeId} (hr : Row w g cs E) (hr' : Row w g' cs' E') (hE : E ≠ E') : g ≠ g' := by
 rintro rfl
 have := hr.symm.trans hr'
 simp at this
 exact hE this.2
theorem Row.ne_map {w : World} {g r : Nat} {cs : LV} {E : TypeId} {G : Value → Prop} {kvs : List (Value × Value)} (hr : Row w g cs E) (hm : MapIs G w (some r) kvs) : g ≠ r := by
 rintro rfl
 exact hm.not_cells _ _ _ hr
theorem MapIs.same {w w' : World} {G : Value → Prop} {r : Nat} {kvs : List (Value × Value)} (hm : MapIs G w (some r) kvs) (h : w'.heap[r]? = w.heap[r]?) : MapIs G w' (some r) kvs := by
 obtain ⟨es, c, h1, h2⟩ := hm
 exact ⟨es, c, h.trans h1, h2⟩
theorem MapIs.lt {w : World} {G : Value → Prop} {r : Nat} {kvs : List (Value × Value)} (hm : MapIs G w (some r) kvs) : r < w := by
 obtain ⟨es, c, h1, h2⟩ := hm
 exact (ali22.1 h1).1
theorem MapIs.new {w : World} {G : Value → Prop} : MapIs G (w.alloc (.map #[] 0)) (some w.heap.size) [] :=
 ⟨#[], 0, World.alloc_heap_new w _, rfl, by simp, by simp, by simp, by simp⟩
end Go.Vc
namespace Go.Vc
open Go Go.RowKit
theorem take_flatten {k : Nat} : ∀ {rows : List (LV)} (m : Nat), (∀ r ∈ rows, r.length = k) → rows.flatten.take (m * k) = (rows.take m).flatten
 | [], m, _ => by simp
 | r :: rows, 0, _ => by simp
 | r :: rows, m + 1, hw => by
   have hr := hw r (.head _)
   rw [List.take_succ_cons, ali21, ali21, show (m + 1) * k = r.length + m * k by rw [alj65, hr]; omega, List.take_append, ali11 omm, Nat.add_sub_cancel_left, take_flatten m fun q hq => hw q (.tail _ hq)]
theorem OwnK.cut {B E k : Nat} {w : World} {s : Sl} {rows : List (LV)} (h : OwnK B E k w s rows) (hk : 0 < k) {m : Nat} (hm : m ≤ rows.length) : OwnK B E k w ⟨slBase s.a 0 m k, m, m⟩ (rows.take m) := by
 rw [slBase_zero]
 rcases h.form hk with ⟨rfl, rfl⟩ | ⟨g, cs, ha, hg, hr, hc, hn, ht, hl⟩
 ·have : m = 0 := by simpa using hm
  subst this; exact .nil
 ·rw [ha]
  have h1 : m * k ≤ s.n * k := alj63 _ omm
  have h2 : s.n * k ≤ s.c * k := alj63 _ hn
  refine OwnK.of_row hg hr omm (ali34 _) ?_ (fun r hr => h.wd r (alj44 hr))
  have e1 : cs.take (m * k) = (cs.take (s.n * k)).take (m * k) := by rw [List.take_take, Nat.min_eq_left h1]
  rw [e1, ht, take_flatten m h.wd]
end Go.Vc
namespace Go.Vc
open Go Go.RowKit
structure Turned (F F' : Nat → Prop) (w w' : World) : Prop where
 mod : Mod F w w'
 sub : ∀ i, F' i → F i ∨ w.heap.size ≤ i
theorem Turned.refl (F : Nat → Prop) (w : World) : Turned F F w w := ⟨Mod.refl _ _, fun _ h => .inl h⟩
theorem Turned.trans {F G H : Nat → Prop} {a b c : World} (h : Turned F G a b) (k : Turned G H b c) : Turned F H a c :=
 ⟨h.mod.tr k.mod h.sub, fun i hi => by
  rcases k.sub i hi with hg | hg
  ·exact h.sub i hg
  ·exact .inr (ali41 h.mod.size hg)⟩
theorem Turned.of_ext {F : Nat → Prop} {w w' : World} (h : Ext w w') : Turned F F w w' := ⟨Mod.of_ext h, fun _ h => .inl h⟩
theorem Turned.apart {F F' G : Nat → Prop} {w w' : World} (h : Turned F F' w w') (hd : ∀ i, F i → ¬ G i) (hl : ∀ i, G i → i < w.heap.size) : ∀ i, F' i → ¬ G i := fun i hi hg => by
 rcases h.sub i hi with hf | hf
 ·exact hd i hf hg
 ·have := hl i hg; omega
theorem Mod.of_app {w w' : World} {s : Sl} (hb : Below 0 w w') (hk : ∀ j, s.blk ≠ some j → j < w.heap.size → w'.heap[j]? = w.heap[j]?) : Mod (fun i => s.blk = some i) w w' :=
 ⟨hb.os, hb.tape, hb.output, hb.size, fun i hi hn => hk i hn hi⟩
theorem Mod.row {F : Nat → Prop} {w w' : World} (h : Mod F w w') {g : Nat} {cs : LV} {t : TypeId} (hr : Row w g cs t) (hn : ¬ F g) : Row w' g cs t := hr.same (h.same g hr.lt hn)
theorem Mod.ownK {F : Nat → Prop} {w w' : World} (h : Mod F w w') {B E k : Nat} {s : Sl} {rows : List (LV)} (ho : OwnK B E k w s rows) (hn : ∀ b, s.blk = some b → ¬ F b) : OwnK B E k w' s rows :=
 ho.keep fun b hb => h.same b (ho.own.lt hb).2 (hn b hb)
theorem Mod.map {F : Nat → Prop} {w w' : World} (h : Mod F w w') {G : Value → Prop} {r : Nat} {kvs : List (Value × Value)} (hm : MapIs G w (some r) kvs) (hn : ¬ F r) : MapIs G w' (some r) kvs := hm.same (h.same r hm.lt hn)
theorem Mod.rdK {F : Nat → Prop} {w w' : World} (h : Mod F w w') {s : Sl} {k : Nat} {rows : List (LV)} (hk : 0 < k) (hr : RdK w s k rows) (hn : rows ≠ [] → ∀ b, s.blk = some b → ¬ F b) : RdK w' s k rows :=
 hr.same' fun hne b hb => h.same b (hr.blk_lt hk hne hb) (hn hne b hb)
theorem two_puts {C x l : LV} {a b N : Nat} (hb : b = a + x.length) (hN : N = b + l.length) (hC : N ≤ C.length) : (putCells (putCells C a x) b l).take N = C.take a ++ x ++ l := by
 have ha : (C.take a).length = a := by rw [ali12]; omega
 rw [putCells_eq x C a omm]
 have hD : (C.take a ++ x).length = b := by rw [ali07, ha, hb]
 rw [putCells_eq _ _ _ (by rw [ali07, hD, alj30]; omega), alj54 hD, alj54 (by rw [ali07, hD]; omega)]
theorem two_puts' {C x l : LV} {a b N : Nat} (hb : b = a + x.length) (hN : N = b + l.length) (hC : N ≤ C.length) : (putCells (putCells C b l) a x).take N = C.take a ++ x ++ l := by
 have ha : (C.take a).length = a := by rw [ali12]; omega
 have hbl : (C.take b).length = b := by rw [ali12]; omega
 rw [putCells_eq l C b omm]
 have h1 : (C.take b ++ l ++ C.drop (b + l.length)).take a = C.take a := by
  rw [ali15, alj53 omm, List.take_take, Nat.min_eq_left omm]
 have h2 : (C.take b ++ l ++ C.drop (b + l.length)).drop (a + x.length) = l ++ C.drop (b + l.length) := by
  rw [ali15, ← hb, List.drop_left' hbl]
 have hl : (C.take b ++ l ++ C.drop (b + l.length)).length = C.length := by simp; omega
 rw [putCells_eq _ _ _ (by rw [hl]; omega), h1, h2, ← ali15, alj54 (by simp only [ali07, ha]; omega)]
theorem mid_eq {lo hi : Nat} (h : lo + hi ≤ 1000000) : wqq (((w64q (wqq ((lo : Int) + (hi : Int)))) : Int).fdiv (2 ^ (min (1 : Int).toNat 64))) = (((lo + hi) / 2 : Nat) : Int) := by
 rw [wrap_in (n := (lo : Int) + hi) (by unfold inI; omega)]
 have h2 : w64q ((lo : Int) + hi) = lo + hi := by
  unfold IntKind.wrap
  simp only [IntKind.bits, IntKind.signed]
  simp
  omega
 rw [h2]
 have h3 : ((lo : Int) + hi).fdiv (2 ^ (min (1 : Int).toNat 64)) = (((lo + hi) / 2 : Nat) : Int) := by
  show ((lo : Int) + hi).fdiv 2 = _
  rw [ali24 _ omm]
  omega
 rw [h3, wI]
theorem Row.at {w : World} {g : Nat} {cs : LV} {E : TypeId} (hr : Row w g cs E) (j : Nat) {v : Value} (h : cs[j]? = some v) : Vc.ld w (padd (pzq g) j) = some v := by
 rw [padd_row, hr.ld, ali37]; exact h
theorem Row.put1 {w : World} {g : Nat} {cs : LV} {E : TypeId} (hr : Row w g cs E) {j : Nat} {v : Value} (hj : j < cs.length) (hv : v.oneCell' = true) :
  Wr w (padd (pzq g) j) 1 ∧ ∀ w', w' = Vc.setP w (padd (pzq g) j) [v] → Row w' g (putCells cs j [v]) E ∧ Mod (fun i => i = g) w w' := by
 rw [padd_row, ali37]
 have h1 : One [v] := by intro u hu; simp at hu; subst hu; exact hv
 refine ⟨hr.wr omm, fun w' e => ?_⟩
 rw [hr.setP (by simp; omega) h1] at e
 subst e
 exact ⟨hr.set _, rfl, rfl, rfl, by rw [setRow_size]; exact ali34 _, fun i _ hn => setRow_other _ _ _ _ hn⟩
theorem own_row {B E k : Nat} {w : World} {s : Sl} {rows : List (LV)} (h : OwnK B E k w s rows) (hk : 0 < k) {b : Nat} (hb : s.blk = some b) : ∃ cs, Row w b cs E := by
 rcases h.form hk with ⟨hs, -⟩ | ⟨g0, cs, ha, hg0, hr, -⟩
 ·rw [hs] at hb; cases hb
 ·unfold Sl.blk at hb; rw [ha] at hb
  have : g0 = b := by simpa using hb
  exact ⟨cs, this ▸ hr⟩
end Go.Vc
namespace Go.Runs
open Go Go.Vc
abbrev Rn := Int × Int
def cellsR (l : List Rn) : List Int := l.flatMap fun r => List.replicate r.1.toNat r.2
def pushR (out : List Rn) (r : Rn) : List Rn :=
 if r.1 < 1 then out else
 match out.getLast? with
 | some q => if q.2 = r.2 then out.dropLast ++ [(q.1 + r.1, q.2)] else out ++ [r]
 | none => out ++ [r]
def ofC (c : List Int) : List Rn := c.foldl (fun o b => pushR o (1, b)) []
def sumR (l : List Rn) : Int := (l.map (·.1)).sum
inductive Nm : List Rn → Prop
 | nil : Nm []
 | snoc (l : List Rn) (r : Rn) (h : Nm l) (h1 : 1 ≤ r.1) (h2 : ∀ q, l.getLast? = some q → q.2 ≠ r.2) : Nm (l ++ [r])
theorem push_none {o : List Rn} {r : Rn} (h : r.1 < 1) : pushR o r = o := by unfold pushR; rw [if_pos h]
theorem push_same {l : List Rn} {q r : Rn} (h1 : 1 ≤ r.1) (e : q.2 = r.2) : pushR (l ++ [q]) r = l ++ [(q.1 + r.1, q.2)] := by
 unfold pushR
 have hl : (l ++ [q]).getLast? = some q := by simp
 rw [if_neg omm, hl]
 simp [e]
theorem push_new {l : List Rn} {r : Rn} (h1 : 1 ≤ r.1) (h2 : ∀ q, l.getLast? = some q → q.2 ≠ r.2) : pushR l r = l ++ [r] := by
 unfold pushR
 rw [if_neg omm]
 split
 ·rename_i q hq
  rw [if_neg (h2 q hq)]
 ·rfl
theorem snoc_cases (l : List Rn) : l = [] ∨ ∃ m q, l = m ++ [q] := by
 rcases List.eq_nil_or_concat l with h | ⟨m, q, h⟩
 ·exact .inl h
 ·exact .inr ⟨m, q, by simpa using h⟩
theorem push_push (o : List Rn) {a c b : Int} (ha : 1 ≤ a) (hc : 1 ≤ c) : pushR (pushR o (a, b)) (c, b) = pushR o (a + c, b) := by
 have hac : 1 ≤ a + c := by omega
 rcases snoc_cases o with rfl | ⟨m, q, rfl⟩
 ·rw [push_new (l := []) (r := (a, b)) ha smm, push_new (l := []) (r := (a + c, b)) hac smm, push_same (q := (a, b)) (r := (c, b)) hc rfl]
 ·by_cases e : q.2 = b
  ·rw [push_same (r := (a, b)) ha e, push_same (r := (a + c, b)) hac e, push_same (q := (q.1 + a, q.2)) (r := (c, b)) hc e]
   simp [Int.add_assoc]
  ·have h2 : ∀ x : Int, ∀ p, (m ++ [q]).getLast? = some p → p.2 ≠ ((x, b) : Rn).2 := by
    intro x p hp
    simp at hp; subst hp; exact e
   rw [push_new (r := (a, b)) ha (h2 a), push_new (r := (a + c, b)) hac (h2 _), push_same (q := (a, b)) (r := (c, b)) hc rfl]
theorem push_rep (o : List Rn) (b : Int) : ∀ n : Nat, (List.replicate n b).foldl (fun o b => pushR o (1, b)) o = pushR o ((n : Int), b)
 | 0 => by rw [push_none smm]; rfl
 | n + 1 => by
   rw [List.replicate_succ', alj22, push_rep o b n]
   show pushR (pushR o ((n : Int), b)) (1, b) = _
   rcases alj57 n with rfl | hn
   ·rw [push_none (r := (((0 : Nat) : Int), b)) smm]; rfl
   ·rw [push_push o omm omm]; rfl
theorem ofC_app (c d : List Int) : ofC (c ++ d) = d.foldl (fun o b => pushR o (1, b)) (ofC c) := by unfold ofC; rw [alj22]
theorem push_ofC (c : List Int) (r : Rn) : pushR (ofC c) r = ofC (c ++ List.replicate r.1.toNat r.2) := by
 rw [ofC_app, push_rep]
 rcases alj07 r.1 1 with h | h
 ·rw [push_none h, push_none (by show ((r.1.toNat : Nat) : Int) < 1; omega)]
 ·rw [show ((r.1.toNat : Nat) : Int) = r.1 from by omega]
theorem Nm.push {o : List Rn} (h : Nm o) (r : Rn) : Nm (pushR o r) := by
 rcases alj07 r.1 1 with h1 | h1
 ·rw [push_none h1]; exact h
 ·cases h with
  | nil => rw [push_new h1 smm]; exact .snoc _ _ .nil h1 smm
  | snoc l q hl hq h2 =>
    by_cases e : q.2 = r.2
    ·rw [push_same h1 e]
     exact .snoc _ _ hl (by show 1 ≤ q.1 + r.1; omega) h2
    ·have h3 : ∀ p, (l ++ [q]).getLast? = some p → p.2 ≠ r.2 := by
      intro p hp; simp at hp; subst hp; exact e
     rw [push_new h1 h3]
     exact .snoc _ _ (.snoc _ _ hl hq h2) h1 h3
theorem Nm_ofC (c : List Int) : Nm (ofC c) := by
 have : ∀ (c : List Int) (o : List Rn), Nm o → Nm (c.foldl (fun o b => pushR o (1, b)) o) := by
  intro c
  induction c with
  | nil => intro o h; exact h
  | cons b c ih => intro o h; exact ih _ (h.push _)
 exact this c [] .nil
theorem cellsR_app (l m : List Rn) : cellsR (l ++ m) = cellsR l ++ cellsR m := by unfold cellsR; rw [List.flatMap_append]
theorem cellsR_one (r : Rn) : cellsR [r] = List.replicate r.1.toNat r.2 := by simp [cellsR]
theorem Nm.fix {l : List Rn} (h : Nm l) : ofC (cellsR l) = l := by
 induction h with
 | nil => rfl
 | snoc l r hl h1 h2 ih =>
   rw [cellsR_app, cellsR_one, ← push_ofC, ih, push_new h1 h2]
theorem Nm.pos {l : List Rn} (h : Nm l) : ∀ r ∈ l, 1 ≤ r.1 := by
 induction h with
 | nil => simp
 | snoc l r hl h1 h2 ih =>
   intro q hq
   rcases ali25.1 hq with hq | hq
   ·exact ih q hq
   ·simp at hq; rw [hq]; exact h1
theorem cells_push {o : List Rn} (h : Nm o) (r : Rn) : cellsR (pushR o r) = cellsR o ++ List.replicate r.1.toNat r.2 := by
 rcases alj07 r.1 1 with h1 | h1
 ·rw [push_none h1, show r.1.toNat = 0 from by omega]; simp
 ·cases h with
  | nil => rw [push_new h1 smm, cellsR_app, cellsR_one]
  | snoc l q hl hq h2 =>
    by_cases e : q.2 = r.2
    ·rw [push_same h1 e, cellsR_app, cellsR_app, cellsR_one, cellsR_one]
     show _ ++ List.replicate (q.1 + r.1).toNat q.2 = _
     rw [show (q.1 + r.1).toNat = q.1.toNat + r.1.toNat from by omega, ← List.replicate_append_replicate, e]
     simp
    ·rw [push_new h1 (by intro p hp; simp at hp; subst hp; exact e), cellsR_app, cellsR_one]
theorem cells_ofC (c : List Int) : cellsR (ofC c) = c := by
 have : ∀ (c : List Int) (o : List Rn), Nm o → cellsR (c.foldl (fun o b => pushR o (1, b)) o) = cellsR o ++ c := by
  intro c
  induction c with
  | nil => intro o h; simp
  | cons b c ih => intro o h; rw [alj23, ih _ (h.push _), cells_push h]; simp
 rw [ofC, this c [] .nil]; rfl
theorem sumR_app (l m : List Rn) : sumR (l ++ m) = sumR l + sumR m := by simp [sumR]
theorem sumR_cells {l : List Rn} (h : ∀ r ∈ l, 0 ≤ r.1) : sumR l = ((cellsR l).length : Nat) := by
 induction l with
 | nil => rfl
 | cons r l ih =>
   have := ih fun q hq => h q (.tail _ hq)
   have hr := h r (.head _)
   simp only [sumR, ali17, List.sum_cons] at this ⊢
   rw [this]
   simp [cellsR]
   omega
theorem sumR_ofC (c : List Int) : sumR (ofC c) = (c.length : Nat) := by
 rw [sumR_cells fun r hr => by have := (Nm_ofC c).pos r hr; omega, cells_ofC]
theorem Nm.len_le {l : List Rn} (h : Nm l) : l.length ≤ (cellsR l).length := by
 induction h with
 | nil => simp
 | snoc l r hl h1 h2 ih => rw [cellsR_app, cellsR_one]; simp; omega
theorem ofC_len (c : List Int) : (ofC c).length ≤ c.length := by
 have := (Nm_ofC c).len_le
 rwa [cells_ofC] at this
end Go.Runs
namespace Go.Runs
theorem mem_sum {l : List Rn} (h : ∀ r ∈ l, 0 ≤ r.1) {q : Rn} (hq : q ∈ l) : q.1 ≤ sumR l := by
 induction l with
 | nil => cases hq
 | cons r l ih =>
   have hr := h r (.head _)
   have hl : 0 ≤ sumR l := by rw [sumR_cells fun q hq => h q (.tail _ hq)]; omega
   have e : sumR (r :: l) = r.1 + sumR l := by simp [sumR]
   rw [e]
   rcases ali16.1 hq with rfl | hq
   ·omega
   ·have := ih (fun q hq => h q (.tail _ hq)) hq; omega
theorem mem_ofC {c : List Int} {q : Rn} (hq : q ∈ ofC c) : 1 ≤ q.1 ∧ q.1 ≤ (c.length : Nat) := by
 have h := (Nm_ofC c).pos
 refine ⟨h q hq, ?_⟩
 rw [← sumR_ofC]
 exact mem_sum (fun r hr => by have := h r hr; omega) hq
def seg (c : List Int) (a b : Int) : List Int := (c.take b.toNat).drop a.toNat
theorem seg_snoc (c : List Int) (n : Nat) (x a b : Int) (ha : 0 ≤ a) (hb : 0 ≤ b) :
  seg (c ++ List.replicate n x) a b = seg c a b ++ List.replicate (min b (c.length + n : Nat) - max a (c.length : Nat)).toNat x := by
 unfold seg
 rw [List.take_append, List.drop_append, List.take_replicate, List.drop_replicate, ali12]
 congr 2
 omega
end Go.Runs
namespace Go.Runs
def fillC (c : List Int) (a b x : Int) : List Int := c.mapIdx fun i y => if a ≤ (i : Int) ∧ (i : Int) < b then x else y
theorem fillC_len (c : List Int) (a b x : Int) : (fillC c a b x).length = c.length := by simp [fillC]
theorem fillC_none (c : List Int) (a b x : Int) (h : min (max b 0) (c.length : Int) ≤ min (max a 0) (c.length : Int)) : fillC c a b x = c := by
 apply ali20
 intro i
 unfold fillC
 rw [List.getElem?_mapIdx]
 rcases alj62 i c.length with hi | hi
 ·rw [ali04 hi]
  show some (if _ then x else _) = _
  rw [if_neg omm]
 ·rw [ali13 hi]; rfl
theorem fillC_seg (c : List Int) (a b x : Int) (h : min (max a 0) (c.length : Int) < min (max b 0) (c.length : Int)) :
  fillC c a b x = seg c 0 (min (max a 0) (c.length : Int)) ++ List.replicate (min (max b 0) (c.length : Int) - min (max a 0) (c.length : Int)).toNat x ++ seg c (min (max b 0) (c.length : Int)) c.length := by
 have h1 : (seg c 0 (min (max a 0) (c.length : Int))).length = (min (max a 0) (c.length : Int)).toNat := by unfold seg; simp; omega
 apply ali20
 intro i
 unfold fillC
 rw [List.getElem?_mapIdx, ali15]
 rcases alj62 i c.length with hi | hi
 ·rw [ali04 hi]
  show some (if _ then x else _) = _
  rcases alj62 i (min (max a 0) (c.length : Int)).toNat with hl | hl
  ·rw [if_neg omm, ali18 omm]
   unfold seg
   rw [alj24, alj29]
   simp only [Int.toNat_zero, ali37]
   rw [if_pos hl, ali04 hi]
  ·rw [ali19 omm, h1]
   rcases alj62 i (min (max b 0) (c.length : Int)).toNat with hm | hm
   ·rw [if_pos omm, ali18 (by rw [ali46]; omega), ali47, if_pos omm]
   ·rw [if_neg omm, ali19 (by rw [ali46]; omega), ali46]
    unfold seg
    rw [alj24, alj29, if_pos omm]
    rw [show (min (max b 0) (c.length : Int)).toNat + (i - (min (max a 0) (c.length : Int)).toNat - (min (max b 0) (c.length : Int) - min (max a 0) (c.length : Int)).toNat) = i from by omega]
    rw [ali04 hi]
 ·rw [ali13 hi]
  symm
  rw [Option.map_none, ali13]
  simp only [ali07, ali46, h1]
  unfold seg
  simp
  omega
theorem fillC_one (c : List Int) (i x : Int) (h0 : 0 ≤ i) (h1 : i < (c.length : Int)) : fillC c i (i + 1) x = c.set i.toNat x := by
 apply ali20
 intro j
 unfold fillC
 rw [List.getElem?_mapIdx, ali33]
 rcases alj62 j c.length with hj | hj
 ·rw [ali04 hj]
  show some (if _ then x else _) = _
  by_cases e : i.toNat = j
  ·rw [if_pos omm, if_pos e, if_pos omm]
  ·rw [if_neg omm, if_neg e]
 ·rw [ali13 hj, if_neg omm]; rfl
def atC (c : List Int) (i : Int) : Int := if i < 0 then -1 else c.getD i.toNat (-1)
theorem atC_out (c : List Int) (i : Int) (h : i < 0 ∨ (c.length : Int) ≤ i) : atC c i = -1 := by
 unfold atC
 split
 ·rfl
 ·rw [ali05, ali13 omm]; rfl
theorem atC_in (c d : List Int) (n : Nat) (x i : Int) (h0 : (c.length : Int) ≤ i) (h1 : i < (c.length : Int) + n) : atC (c ++ List.replicate n x ++ d) i = x := by
 unfold atC
 rw [if_neg omm, ali05, ali15, ali19 omm, ali18 (by rw [ali46]; omega), ali47, if_pos omm]
 rfl
def mayL (may : Int → Bool) : Option Int → Int → List Rn → Bool
 | _, left, [] => left == 0
 | prev, left, r :: t => if r.1 < 1 ∨ r.1 > left ∨ may r.2 = false ∨ prev = some r.2 then false else mayL may (some r.2) (left - r.1) t
def mayR (may : Int → Bool) (l : List Rn) (n : Int) : Bool := decide (0 < n) && mayL may none n l
theorem mayL_sum {may : Int → Bool} : ∀ {l : List Rn} {prev : Option Int} {left : Int}, mayL may prev left l = true → sumR l = left
 | [], _, left, h => by simp [mayL] at h; rw [h]; rfl
 | r :: t, prev, left, h => by
   unfold mayL at h
   split at h
   ·cases h
   ·have := mayL_sum h
    simp only [sumR, ali17, List.sum_cons] at this ⊢
    omega
theorem mayL_true {may : Int → Bool} : ∀ {l : List Rn} {prev : Option Int} {left : Int}, (∀ r ∈ l, 1 ≤ r.1 ∧ may r.2 = true) → (∀ i q r, l[i]? = some q → l[i + 1]? = some r → q.2 ≠ r.2) → (∀ r, l.head? = some r → prev ≠ some r.2) → sumR l = left → mayL may prev left l = true
 | [], _, left, _, _, _, h => by simp [mayL, ← h, sumR]
 | r :: t, prev, left, h1, h2, h3, h => by
   have hr := h1 r (.head _)
   have ht : 0 ≤ sumR t := by rw [sumR_cells fun q hq => by have := h1 q (.tail _ hq); omega]; omega
   have e : sumR (r :: t) = r.1 + sumR t := by simp [sumR]
   unfold mayL
   rw [if_neg (by
    have := h3 r rfl
    rintro (h | h | h | h)
    ·omega
    ·omega
    ·rw [hr.2] at h; cases h
    ·exact this h)]
   refine mayL_true (fun q hq => h1 q (.tail _ hq)) (fun i q s hq hs => h2 (i + 1) q s (by simpa using hq) (by simpa using hs)) (fun q hq => ?_) omm
   have := h2 0 r q rfl (by cases t <;> simp_all)
   intro e2; exact this (Option.some.inj e2)
theorem Nm.next {l : List Rn} (h : Nm l) : ∀ i q r, l[i]? = some q → l[i + 1]? = some r → q.2 ≠ r.2 := by
 induction h with
 | nil => intro i q r h; simp at h
 | snoc l p hl h1 h2 ih =>
   intro i q r hq hr
   rcases alj62 (i + 1) l.length with hlt | hge
   ·rw [ali18 omm] at hq hr
    exact ih i q r hq hr
   ·have hi := (ali03.1 hr).1
    simp at hi
    have : i + 1 = l.length := by omega
    rw [ali18 omm] at hq
    rw [ali19 omm, this] at hr
    simp at hr; subst hr
    refine h2 q ?_
    rw [List.getLast?_eq_getElem?, show l.length - 1 = i from by omega]
    exact hq
theorem mem_cells {l : List Rn} {r : Rn} (h : r ∈ l) (h1 : 1 ≤ r.1) : r.2 ∈ cellsR l := by
 unfold cellsR
 refine List.mem_flatMap.2 ⟨r, h, ?_⟩
 rw [ali48]
 exact ⟨by omega, rfl⟩
end Go.Runs
namespace Go.Runs
theorem atC_get {c : List Int} {i : Int} (h0 : 0 ≤ i) (h1 : i < (c.length : Int)) : c[i.toNat]? = some (atC c i) := by
 unfold atC
 rw [if_neg omm, ali05, ali04 omm]; rfl
end Go.Runs
namespace Go.Code
open Go Go.Vc Go.Runs
def numF : Nat → Int → List Int
 | 0, _ => []
 | k + 1, x => if x < 128 then [x] else (128 + x % 128) :: numF k (x / 128)
def numB (n : Int) : List Int := if n < 0 ∨ n > 1048576 then [] else numF 3 n
def digG : Nat → Nat → Int → List Int → Int × Int × Int
 | 0, _, _, _ => (0, 0, 2)
 | _ + 1, _, _, [] => (0, 0, 3)
 | k + 1, i, n, c :: t => if c ≥ 128 then digG k (i + 1) (n + c % 128 * 128 ^ i) t
   else if (c = 0 ∧ 0 < i) ∨ n + c % 128 * 128 ^ i > 1048576 then (0, 0, 2) else (n + c % 128 * 128 ^ i, (i : Int) + 1, 0)
def digB (b : List Int) : Int × Int × Int := digG 3 0 0 b
theorem wrap_u8 (x : Int) : w8q x = x % 256 := by
 unfold IntKind.wrap
 simp [IntKind.bits, IntKind.signed]
theorem or128 (x : Int) (h : 0 ≤ x) : bOr .u8 (w8q x) 128 = 128 + x % 128 := by
 rw [wrap_u8]
 have key : ∀ a < 256, bOr .u8 ((a : Nat) : Int) 128 = 128 + ((a : Nat) : Int) % 128 := by decide +kernel
 have := key (x % 256).toNat omm
 rw [show (((x % 256).toNat : Nat) : Int) = x % 256 from by omega] at this
 rw [this]; omega
theorem andNot128 (c : Int) (h : 0 ≤ c) (h' : c < 256) : bAndNot .u8 c 128 = c % 128 := by
 have key : ∀ a < 256, bAndNot .u8 ((a : Nat) : Int) 128 = ((a : Nat) : Int) % 128 := by decide +kernel
 have := key c.toNat omm
 rwa [show ((c.toNat : Nat) : Int) = c from by omega] at this
theorem or_add (n c k : Nat) (h : n < 2 ^ k) (hb : n + c * 2 ^ k < 4611686018427387904) : bOr .i64 (n : Int) ((c * 2 ^ k : Nat) : Int) = ((n + c * 2 ^ k : Nat) : Int) := by
 unfold bOr
 have e1 : ∀ m : Nat, m < 4611686018427387904 → (BitVec.ofInt IntKind.i64.bits (m : Int)).toNat = m := by
  intro m hm
  rw [alj03]
  show ((m : Int) % ((2 ^ 64 : Nat) : Int)).toNat = m
  rw [show ((2 ^ 64 : Nat) : Int) = 18446744073709551616 from by decide]
  omega
 rw [BitVec.toNat_or, e1 n omm, e1 _ omm, Nat.or_comm]
 have := Nat.shiftLeft_add_eq_or_of_lt h c
 rw [Nat.shiftLeft_eq] at this
 rw [← this, alj55]
 exact wI
end Go.Code
namespace Go.Code
open Go Go.Vc Go.Runs
theorem orStep (k : Nat) (hk : k < 3) (n c : Int) (h0 : 0 ≤ n) (h1 : n < 128 ^ k) (hc : 0 ≤ c) (hc' : c < 256) :
  bOr .i64 n (wqq ((wqq (bAndNot .u8 c 128)) * 2 ^ (min ((wqq (7 * (k : Int))) : Int).toNat 64))) = n + c % 128 * 128 ^ k ∧ 0 ≤ wqq (7 * (k : Int)) := by
 have hw := wrap_in (n := 7 * (k : Int)) (by unfold inI; omega)
 rw [hw, andNot128 c hc hc', wrap_in (n := c % 128) (by unfold inI; omega)]
 refine ⟨?_, by omega⟩
 have e : ((2 : Int) ^ (min ((7 * (k : Int)) : Int).toNat 64)) = 128 ^ k := by
  have : k = 0 ∨ k = 1 ∨ k = 2 := by omega
  rcases this with rfl | rfl | rfl <;> decide
 rw [e]
 have hp : (128 : Int) ^ k ≤ 16384 ∧ 1 ≤ (128 : Int) ^ k := by
  have : k = 0 ∨ k = 1 ∨ k = 2 := by omega
  rcases this with rfl | rfl | rfl <;> decide
 have hm : c % 128 * 128 ^ k ≤ 127 * 16384 := by
  have : k = 0 ∨ k = 1 ∨ k = 2 := by omega
  rcases this with rfl | rfl | rfl <;> simp <;> omega
 have hm0 : 0 ≤ c % 128 * 128 ^ k := alj08 omm omm
 rw [wrap_in (n := c % 128 * 128 ^ k) (by unfold inI; omega)]
 have e7 : ((2 ^ (7 * k) : Nat) : Int) = 128 ^ k := by
  have : k = 0 ∨ k = 1 ∨ k = 2 := by omega
  rcases this with rfl | rfl | rfl <;> decide
 have e2 : c % 128 * 128 ^ k = (((c % 128).toNat * 2 ^ (7 * k) : Nat) : Int) := by
  rw [Int.natCast_mul, e7, show (((c % 128).toNat : Nat) : Int) = c % 128 from by omega]
 have := or_add n.toNat (c % 128).toNat (7 * k) (by
  have : ((n.toNat : Nat) : Int) < ((2 ^ (7 * k) : Nat) : Int) := by rw [e7]; omega
  omega) (by
  have : (((c % 128).toNat * 2 ^ (7 * k) : Nat) : Int) ≤ 127 * 16384 := by rw [← e2]; exact hm
  omega)
 rw [e2, show n = ((n.toNat : Nat) : Int) from by omega]
 rw [this]; simp
theorem digStep {k j : Nat} {n c : Int} {t : List Int} : digG (j + 1) k n (c :: t) = if c ≥ 128 then digG j (k + 1) (n + c % 128 * 128 ^ k) t
   else if (c = 0 ∧ 0 < k) ∨ n + c % 128 * 128 ^ k > 1048576 then (0, 0, 2) else (n + c % 128 * 128 ^ k, (k : Int) + 1, 0) := rfl
theorem pow_step (k : Nat) (n c : Int) (h1 : n < 128 ^ k) : n + c % 128 * 128 ^ k < 128 ^ (k + 1) := by
 have hp : 0 ≤ (128 : Int) ^ k := Int.pow_nonneg omm
 have : c % 128 * 128 ^ k ≤ 127 * 128 ^ k := Int.mul_le_mul_of_nonneg_right omm hp
 rw [Int.pow_succ]; omega
end Go.Code
namespace Go.Code
open Go Go.Vc Go.Runs
def chkL : Int → List Rn → Bool
 | _, [] => true
 | left, r :: t => if r.1 < 1 ∨ r.1 > left then false else chkL (left - r.1) t
theorem chkL_pos : ∀ {l : List Rn} {left : Int}, chkL left l = true → (∀ r ∈ l, 1 ≤ r.1) ∧ (l ≠ [] → sumR l ≤ left)
 | [], _, _ => ⟨by simp, fun h => absurd rfl h⟩
 | r :: t, left, h => by
   unfold chkL at h
   split at h
   ·cases h
   ·obtain ⟨h1, h2⟩ := chkL_pos h
    refine ⟨fun q hq => ?_, fun _ => ?_⟩
    ·rcases ali16.1 hq with rfl | hq
     ·omega
     ·exact h1 q hq
    ·have e : sumR (r :: t) = r.1 + sumR t := by simp [sumR]
     by_cases ht : t = []
     ·subst ht; rw [e]; simp [sumR]; omega
     ·have := h2 ht; omega
def okW (may : Int → Bool) (l : List Rn) : Bool := chkL 1048576 l && mayR may l (sumR l)
def wrB (l : List Rn) : List Int := l.flatMap fun r => r.2 % 256 :: numB r.1
theorem wrB_app (l m : List Rn) : wrB (l ++ m) = wrB l ++ wrB m := by unfold wrB; rw [List.flatMap_append]
theorem wrB_succ {l : List Rn} {k : Nat} {r : Rn} (hr : l[k]? = some r) : wrB (l.take (k + 1)) = wrB (l.take k) ++ (r.2 % 256 :: numB r.1) := by
 rw [ali09, hr, wrB_app]; simp [wrB]
theorem numF_len : ∀ (k : Nat) (x : Int), (numF k x).length ≤ k
 | 0, _ => by simp [numF]
 | k + 1, x => by
   unfold numF
   split
   ·simp
   ·have := numF_len k (x / 128); simp; omega
theorem numB_len (n : Int) : (numB n).length ≤ 3 := by
 unfold numB
 split
 ·simp
 ·exact numF_len 3 n
theorem wrB_len (l : List Rn) : (wrB l).length ≤ 4 * l.length := by
 induction l with
 | nil => simp [wrB]
 | cons r l ih =>
   have := numB_len r.1
   unfold wrB at ih ⊢
   rw [List.flatMap_cons, ali07, ali10, ali10]
   omega
theorem numF_in : ∀ (k : Nat) (x : Int), 0 ≤ x → ∀ c ∈ numF k x, 0 ≤ c ∧ c < 256
 | 0, _, _, c, h => by simp [numF] at h
 | k + 1, x, hx, c, h => by
   unfold numF at h
   split at h
   ·simp at h; omega
   ·rcases ali16.1 h with rfl | h
    ·omega
    ·exact numF_in k (x / 128) omm c h
theorem numB_in (n : Int) : ∀ c ∈ numB n, 0 ≤ c ∧ c < 256 := by
 intro c h
 unfold numB at h
 split at h
 ·simp at h
 ·exact numF_in 3 n omm c h
theorem wrB_in (l : List Rn) : ∀ c ∈ wrB l, 0 ≤ c ∧ c < 256 := by
 intro c h
 unfold wrB at h
 obtain ⟨r, _, hc⟩ := List.mem_flatMap.1 h
 rcases ali16.1 hc with rfl | hc
 ·omega
 ·exact numB_in r.1 c hc
end Go.Code
namespace Go.Code
open Go Go.Vc Go.Runs
theorem dig_num : ∀ (k i : Nat) (m x : Int) (t : List Int), 1 ≤ k → 0 ≤ x → x < 128 ^ k → (x = 0 → i = 0) → m + x * 128 ^ i ≤ 1048576 →
  digG k i m (numF k x ++ t) = (m + x * 128 ^ i, (i : Int) + (numF k x).length, 0)
 | 0, _, _, _, _, h, _, _, _, _ => by omega
 | k + 1, i, m, x, t, _, h0, h1, hz, hm => by
   by_cases hx : x < 128
   ·have e : numF (k + 1) x = [x] := by unfold numF; rw [if_pos hx]
    rw [e, List.singleton_append, digStep, if_neg omm, show x % 128 = x from by omega, if_neg (by
     rintro (⟨h, h'⟩ | h)
     ·have := hz h; omega
     ·omega)]
    simp
   ·have e : numF (k + 1) x = (128 + x % 128) :: numF k (x / 128) := by
     show (if x < 128 then [x] else (128 + x % 128) :: numF k (x / 128)) = _
     rw [if_neg hx]
    have hk : 1 ≤ k := by
     rcases alj57 k with rfl | h
     ·simp at h1; omega
     ·exact h
    have hpow : (128 : Int) ^ (i + 1) = 128 ^ i * 128 := Int.pow_succ _ _
    have hsum : m + x % 128 * 128 ^ i + x / 128 * 128 ^ (i + 1) = m + x * 128 ^ i := by
     rw [hpow]
     have : x % 128 * 128 ^ i + x / 128 * (128 ^ i * 128) = x * 128 ^ i := by
      rw [Int.mul_comm (128 ^ i) 128, ← Int.mul_assoc, ← Int.add_mul]
      congr 1; omega
     omega
    rw [e, List.cons_append, digStep, if_pos omm, show (128 + x % 128) % 128 = x % 128 from by omega]
    rw [dig_num k (i + 1) _ (x / 128) t hk omm (by rw [Int.pow_succ] at h1; omega) omm (by rw [hsum]; exact hm), hsum]
    simp; omega
theorem digB_num {n : Int} (h0 : 0 ≤ n) (h1 : n ≤ 1048576) (t : List Int) : digB (numB n ++ t) = (n, ((numB n).length : Int), 0) := by
 have e : numB n = numF 3 n := by unfold numB; rw [if_neg omm]
 rw [e]
 unfold digB
 rw [dig_num 3 0 0 n t omm h0 omm (fun _ => rfl) (by simp; omega)]
 simp
end Go.Code
namespace Go.Code
open Go Go.Vc Go.Runs
theorem chkL_true : ∀ {l : List Rn} {left : Int}, (∀ r ∈ l, 1 ≤ r.1) → sumR l ≤ left → chkL left l = true
 | [], _, _, _ => rfl
 | r :: t, left, h, hs => by
   have e : sumR (r :: t) = r.1 + sumR t := by simp [sumR]
   have h1 := h r (.head _)
   have ht : 0 ≤ sumR t := by rw [sumR_cells fun q hq => by have := h q (.tail _ hq); omega]; omega
   unfold chkL
   rw [if_neg omm]
   exact chkL_true (fun q hq => h q (.tail _ hq)) omm
theorem okW_nm {may : Int → Bool} {l : List Rn} (h : Nm l) (hm : ∀ r ∈ l, may r.2 = true) (hs : sumR l ≤ 1048576) (hne : l ≠ []) : okW may l = true := by
 unfold okW
 rw [chkL_true h.pos hs]
 unfold mayR
 have hp : 0 < sumR l := by
  cases l with
  | nil => exact absurd rfl hne
  | cons r t =>
    have e : sumR (r :: t) = r.1 + sumR t := by simp [sumR]
    have h1 := h.pos r (.head _)
    have ht : 0 ≤ sumR t := by rw [sumR_cells fun q hq => by have := h.pos q (.tail _ hq); omega]; omega
    omega
 rw [decide_eq_true hp, mayL_true (fun r hr => ⟨h.pos r hr, hm r hr⟩) h.next (fun r _ => by simp) rfl]
 rfl
end Go.Code
namespace Go.Code
open Go Go.Vc Go.Runs
def readG (may : Int → Bool) : Nat → List Int → Int → Int → List Rn → List Rn × Int
 | 0, _, _, _, _ => ([], 3)
 | _ + 1, [], n, _, acc => if n > 0 then ([], 3) else (acc, 0)
 | f + 1, c :: t, n, last, acc =>
   if may c = false ∨ c = last then ([], 2)
   else if (digB t).2.2 ≠ 0 then ([], (digB t).2.2)
   else if (digB t).1 = 0 ∨ (digB t).1 > n then ([], 2)
   else if n - (digB t).1 = 0 then (if t.drop (digB t).2.1.toNat = [] then (acc ++ [((digB t).1, c)], 0) else ([], 2))
   else readG may f (t.drop (digB t).2.1.toNat) (n - (digB t).1) c (acc ++ [((digB t).1, c)])
def readB (may : Int → Bool) (b : List Int) (n : Int) : List Rn × Int := readG may (b.length + 1) b n (-1) []
theorem digG_ok : ∀ (k i : Nat) (m : Int) (b : List Int), 0 ≤ m → (digG k i m b).2.2 = 0 → 0 ≤ (digG k i m b).1 ∧ (digG k i m b).1 ≤ 1048576 ∧ (i : Int) + 1 ≤ (digG k i m b).2.1 ∧ (digG k i m b).2.1 ≤ (i : Int) + b.length
 | 0, _, _, _, _, h => by simp [digG] at h
 | k + 1, i, m, [], _, h => by simp [digG] at h
 | k + 1, i, m, c :: t, h0, h => by
   have hp : 0 ≤ c % 128 * 128 ^ i := alj08 omm (Int.pow_nonneg omm)
   rw [digStep] at h ⊢
   split
   ·rename_i hc
    rw [if_pos hc] at h
    have := digG_ok k (i + 1) _ t omm h
    simp only [ali10]
    omega
   ·rename_i hc
    rw [if_neg hc] at h
    split
    ·rename_i hz; rw [if_pos hz] at h; simp at h
    ·rename_i hz
     simp only [ali10]
     refine ⟨by omega, ?_, by omega, by omega⟩
     rcases alj07 1048576 (m + c % 128 * 128 ^ i) with hh | hh
     ·exact absurd (.inr hh) hz
     ·exact hh
end Go.Code
namespace Go.Code
open Go Go.Vc Go.Runs
theorem readG_nil {may : Int → Bool} {f : Nat} {n last : Int} {acc : List Rn} : readG may (f + 1) [] n last acc = if n > 0 then ([], 3) else (acc, 0) := rfl
theorem readG_cons' (may : Int → Bool) (f : Nat) (c : Int) (t : List Int) (n last : Int) (acc : List Rn) : readG may (f + 1) (c :: t) n last acc =
  if may c = false ∨ c = last then ([], 2)
  else if (digB t).2.2 ≠ 0 then ([], (digB t).2.2)
  else if (digB t).1 = 0 ∨ (digB t).1 > n then ([], 2)
  else if n - (digB t).1 = 0 then (if t.drop (digB t).2.1.toNat = [] then (acc ++ [((digB t).1, c)], 0) else ([], 2))
  else readG may f (t.drop (digB t).2.1.toNat) (n - (digB t).1) c (acc ++ [((digB t).1, c)]) := rfl
theorem readG_len {may : Int → Bool} : ∀ (f : Nat) (b : List Int) (n last : Int) (acc : List Rn), (readG may f b n last acc).1.length ≤ acc.length + b.length
 | 0, _, _, _, _ => by simp [readG]
 | f + 1, [], n, _, acc => by rw [readG_nil]; split <;> simp
 | f + 1, c :: t, n, last, acc => by
   rw [readG_cons']
   split
   ·simp
   split
   ·simp
   split
   ·simp
   split
   ·split <;> simp
   ·have := readG_len (may := may) f (t.drop (digB t).2.1.toNat) (n - (digB t).1) c (acc ++ [((digB t).1, c)])
    simp only [ali07, ali10, alj33, alj30] at this ⊢
    omega
theorem readB_len {may : Int → Bool} (b : List Int) (n : Int) : (readB may b n).1.length ≤ b.length := by
 have := readG_len (may := may) (b.length + 1) b n (-1) []
 simpa [readB] using this
def Follow (may : Int → Bool) : Int → List Rn → Prop
 | _, [] => True
 | last, r :: t => 1 ≤ r.1 ∧ r.1 ≤ 1048576 ∧ 0 ≤ r.2 ∧ r.2 < 256 ∧ may r.2 = true ∧ r.2 ≠ last ∧ Follow may r.2 t
theorem Follow.pos {may : Int → Bool} : ∀ {l : List Rn} {last : Int}, Follow may last l → ∀ r ∈ l, 1 ≤ r.1
 | [], _, _ => by simp
 | q :: t, _, h => by
   obtain ⟨h1, _, _, _, _, _, h7⟩ := h
   intro r hr
   rcases ali16.1 hr with rfl | hr
   ·exact h1
   ·exact h7.pos r hr
theorem wrB_cons (r : Rn) (t : List Rn) (h : 0 ≤ r.2 ∧ r.2 < 256) : wrB (r :: t) = r.2 :: (numB r.1 ++ wrB t) := by
 unfold wrB
 rw [List.flatMap_cons, Int.emod_eq_of_lt h.1 h.2]; rfl
theorem sumR_cons (r : Rn) (t : List Rn) : sumR (r :: t) = r.1 + sumR t := by simp [sumR]
theorem readG_run {may : Int → Bool} {f : Nat} {r : Rn} {t : List Int} {n last : Int} {acc : List Rn} (h1 : 1 ≤ r.1) (h2 : r.1 ≤ 1048576) (h5 : may r.2 = true) (h6 : r.2 ≠ last) :
  readG may (f + 1) (r.2 :: (numB r.1 ++ t)) n last acc = if r.1 > n then ([], 2) else if n - r.1 = 0 then (if t = [] then (acc ++ [r], 0) else ([], 2)) else readG may f t (n - r.1) r.2 (acc ++ [r]) := by
 rw [readG_cons', digB_num omm h2, if_neg (by
  rintro (h | h)
  ·rw [h5] at h; cases h
  ·exact h6 h), if_neg smm]
 by_cases hn : r.1 > n
 ·rw [if_pos (.inr hn), if_pos hn]
 ·rw [if_neg (by show ¬ (r.1 = 0 ∨ r.1 > n); omega), if_neg hn]
  have e : (numB r.1 ++ t).drop (((numB r.1).length : Int)).toNat = t := by simp
  show (if n - r.1 = 0 then (if (numB r.1 ++ t).drop (((numB r.1).length : Int)).toNat = [] then (acc ++ [(r.1, r.2)], 0) else ([], 2)) else readG may f ((numB r.1 ++ t).drop (((numB r.1).length : Int)).toNat) (n - r.1) r.2 (acc ++ [(r.1, r.2)])) = _
  rw [e]
theorem readG_all {may : Int → Bool} : ∀ (l : List Rn) (f : Nat) (t : List Int) (last : Int) (acc : List Rn), Follow may last l → l ≠ [] → (wrB l ++ t).length < f →
  readG may f (wrB l ++ t) (sumR l) last acc = if t = [] then (acc ++ l, 0) else ([], 2)
 | [], _, _, _, _, _, h, _ => absurd rfl h
 | r :: l, 0, _, _, _, _, _, hf => by omega
 | r :: l, f + 1, t, last, acc, hF, _, hf => by
   obtain ⟨h1, h2, h3, h4, h5, h6, hF'⟩ := hF
   have e : wrB (r :: l) ++ t = r.2 :: (numB r.1 ++ (wrB l ++ t)) := by rw [wrB_cons r l ⟨h3, h4⟩]; simp
   rw [e] at hf ⊢
   simp only [ali10, ali07] at hf
   have hs0 : 0 ≤ sumR l := by rw [sumR_cells fun q hq => by have := hF'.pos q hq; omega]; omega
   rw [readG_run h1 h2 h5 h6, sumR_cons, if_neg omm, show r.1 + sumR l - r.1 = sumR l from by omega]
   by_cases hl : l = []
   ·subst hl
    rw [if_pos (show sumR [] = 0 from rfl)]
    simp [wrB]
   ·have hsp : 1 ≤ sumR l := by
     cases l with
     | nil => exact absurd rfl hl
     | cons q m =>
       have := hF'.pos q (.head _)
       have hm : 0 ≤ sumR m := by rw [sumR_cells fun p hp => by have := hF'.pos p (.tail _ hp); omega]; omega
       rw [sumR_cons]; omega
    rw [if_neg omm, readG_all l f t r.2 (acc ++ [r]) hF' hl (by simp only [ali07]; omega)]
    simp
theorem numB_dig {t : List Int} (hi : ∀ c ∈ t, 0 ≤ c ∧ c < 256) (h : (digB t).2.2 = 0) : numB (digB t).1 = t.take (digB t).2.1.toNat := by
 unfold digB at h ⊢
 cases t with
 | nil => simp [digG] at h
 | cons a t =>
   have ha := hi a (.head _)
   rw [digStep] at h ⊢
   split
   ·rename_i ha2
    rw [if_pos ha2] at h
    cases t with
    | nil => simp [digG] at h
    | cons b t =>
      have hb := hi b (.tail _ (.head _))
      rw [digStep] at h ⊢
      split
      ·rename_i hb2
       rw [if_pos hb2] at h
       cases t with
       | nil => simp [digG] at h
       | cons c t =>
         have hc := hi c (.tail _ (.tail _ (.head _)))
         rw [digStep] at h ⊢
         split
         ·rename_i hc2
          rw [if_pos hc2] at h
          simp [digG] at h
         ·rename_i hc2
          rw [if_neg hc2] at h
          split
          ·rename_i hz; rw [if_pos hz] at h; simp at h
          ·rename_i hz
           have e : (0 + a % 128 * 128 ^ 0 + b % 128 * 128 ^ (0 + 1) + c % 128 * 128 ^ (0 + 1 + 1) : Int) = a % 128 + b % 128 * 128 + c % 128 * 16384 := by
            simp
           rw [e] at hz ⊢
           have hc0 : c ≠ 0 := fun e0 => hz (.inl ⟨e0, by omega⟩)
           have hle : a % 128 + b % 128 * 128 + c % 128 * 16384 ≤ 1048576 := by
            rcases alj07 1048576 (a % 128 + b % 128 * 128 + c % 128 * 16384) with hh | hh
            ·exact absurd (.inr hh) hz
            ·exact hh
           have ec : c % 128 = c := by omega
           rw [ec] at hle ⊢
           unfold numB
           rw [if_neg omm]
           simp only [numF]
           rw [if_neg omm, if_neg omm, if_pos omm]
           have e1 : 128 + (a % 128 + b % 128 * 128 + c * 16384) % 128 = a := by omega
           have e2 : 128 + (a % 128 + b % 128 * 128 + c * 16384) / 128 % 128 = b := by omega
           have e3 : (a % 128 + b % 128 * 128 + c * 16384) / 128 / 128 = c := by omega
           rw [e1, e2, e3]
           rfl
      ·rename_i hb2
       rw [if_neg hb2] at h
       split
       ·rename_i hz; rw [if_pos hz] at h; simp at h
       ·rename_i hz
        have e : (0 + a % 128 * 128 ^ 0 + b % 128 * 128 ^ (0 + 1) : Int) = a % 128 + b % 128 * 128 := by simp
        rw [e] at hz ⊢
        have hb0 : b ≠ 0 := fun e0 => hz (.inl ⟨e0, by omega⟩)
        have ec : b % 128 = b := by omega
        rw [ec] at hz ⊢
        unfold numB
        rw [if_neg omm]
        simp only [numF]
        rw [if_neg omm, if_pos omm]
        have e1 : 128 + (a % 128 + b * 128) % 128 = a := by omega
        have e2 : (a % 128 + b * 128) / 128 = b := by omega
        rw [e1, e2]
        rfl
   ·rename_i ha2
    rw [if_neg ha2] at h
    split
    ·rename_i hz; rw [if_pos hz] at h; simp at h
    ·have ec : a % 128 = a := by omega
     rw [ec]
     have e : (0 + a * 128 ^ 0 : Int) = a := by simp
     rw [e]
     unfold numB
     rw [if_neg omm]
     simp only [numF]
     rw [if_pos omm]
     rfl
theorem readG_again {may : Int → Bool} : ∀ (f : Nat) (b : List Int) (n last : Int) (acc : List Rn), (∀ c ∈ b, 0 ≤ c ∧ c < 256) → 1 ≤ n → (readG may f b n last acc).2 = 0 →
  ∃ l, (readG may f b n last acc).1 = acc ++ l ∧ wrB l = b ∧ Follow may last l ∧ sumR l = n ∧ l ≠ []
 | 0, _, _, _, _, _, _, h => by simp [readG] at h
 | f + 1, [], n, _, acc, _, hn, h => by rw [readG_nil, if_pos omm] at h; simp at h
 | f + 1, c :: t, n, last, acc, hi, hn, h => by
   have hc := hi c (.head _)
   have ht : ∀ c ∈ t, 0 ≤ c ∧ c < 256 := fun q hq => hi q (.tail _ hq)
   rw [readG_cons'] at h ⊢
   split
   ·rename_i h1; rw [if_pos h1] at h; simp at h
   rename_i h1
   rw [if_neg h1] at h
   split
   ·rename_i h2; rw [if_pos h2] at h; exact absurd h h2
   rename_i h2
   rw [if_neg h2] at h
   split
   ·rename_i h3; rw [if_pos h3] at h; simp at h
   rename_i h3
   rw [if_neg h3] at h
   have h2' : (digB t).2.2 = 0 := Decidable.not_not.1 h2
   have hd := digG_ok 3 0 0 t omm h2'
   have hnum := numB_dig ht h2'
   rw [show digG 3 0 0 t = digB t from rfl] at hd
   generalize hdg : digB t = d at *
   obtain ⟨sz, k, er⟩ := d
   simp only at h h3 hd hnum ⊢
   have hmay : may c = true := by
    cases hm : may c with
    | true => rfl
    | false => exact absurd (.inl hm) h1
   have hcl : c ≠ last := fun e => h1 (.inr e)
   have htk : numB sz ++ t.drop k.toNat = t := by rw [hnum]; exact alj52 _ _
   split
   ·rename_i h4
    rw [if_pos h4] at h
    split
    ·rename_i h5
     refine ⟨[(sz, c)], rfl, ?_, ⟨by show 1 ≤ sz; omega, by show sz ≤ 1048576; omega, hc.1, hc.2, hmay, hcl, trivial⟩, by simp [sumR]; omega, by simp⟩
     rw [wrB_cons _ _ hc]
     rw [h5, ali44] at htk
     simp [htk, wrB]
    ·rename_i h5; rw [if_neg h5] at h; simp at h
   ·rename_i h4
    rw [if_neg h4] at h
    obtain ⟨l, e1, e2, e3, e4, e5⟩ := readG_again f (t.drop k.toNat) (n - sz) c (acc ++ [(sz, c)]) (fun q hq => ht q (alj43 hq)) omm h
    refine ⟨(sz, c) :: l, by rw [e1]; simp, ?_, ⟨by show 1 ≤ sz; omega, by show sz ≤ 1048576; omega, hc.1, hc.2, hmay, hcl, e3⟩, by rw [sumR_cons]; show sz + sumR l = n; omega, by simp⟩
    rw [wrB_cons _ _ hc, e2]
    show c :: (numB sz ++ t.drop k.toNat) = _
    rw [htk]
theorem Follow.of {may : Int → Bool} : ∀ {l : List Rn} {last : Int}, (∀ r ∈ l, 1 ≤ r.1 ∧ r.1 ≤ 1048576 ∧ 0 ≤ r.2 ∧ r.2 < 256 ∧ may r.2 = true) → (∀ i q r, l[i]? = some q → l[i + 1]? = some r → q.2 ≠ r.2) → (∀ r, l.head? = some r → r.2 ≠ last) → Follow may last l
 | [], _, _, _, _ => trivial
 | r :: t, last, h1, h2, h3 => by
   obtain ⟨a, b, c, d, e⟩ := h1 r (.head _)
   refine ⟨a, b, c, d, e, h3 r rfl, Follow.of (fun q hq => h1 q (.tail _ hq)) (fun i q s hq hs => h2 (i + 1) q s (by simpa using hq) (by simpa using hs)) (fun q hq => ?_)⟩
   have := h2 0 r q rfl (by cases t <;> simp_all)
   exact fun e => this e.symm
theorem Follow.next {may : Int → Bool} : ∀ {l : List Rn} {last : Int}, Follow may last l → ∀ i q r, l[i]? = some q → l[i + 1]? = some r → q.2 ≠ r.2
 | [], _, _, i, q, r, h, _ => by simp at h
 | [x], _, _, i, q, r, h, h' => by simp at h'
 | x :: y :: t, _, h, 0, q, r, hq, hr => by
   simp at hq hr; subst hq; subst hr
   exact fun e => h.2.2.2.2.2.2.2.2.2.2.2.1 e.symm
 | x :: y :: t, _, h, i + 1, q, r, hq, hr => h.2.2.2.2.2.2.next i q r (by simpa using hq) (by simpa using hr)
theorem Follow.mem {may : Int → Bool} : ∀ {l : List Rn} {last : Int}, Follow may last l → ∀ r ∈ l, 1 ≤ r.1 ∧ r.1 ≤ 1048576 ∧ 0 ≤ r.2 ∧ r.2 < 256 ∧ may r.2 = true
 | [], _, _, r, h => by cases h
 | q :: t, _, h, r, hr => by
   rcases ali16.1 hr with rfl | hr
   ·exact ⟨h.1, h.2.1, h.2.2.1, h.2.2.2.1, h.2.2.2.2.1⟩
   ·exact h.2.2.2.2.2.2.mem r hr
theorem Follow.mayR {may : Int → Bool} {l : List Rn} {last : Int} (h : Follow may last l) (hne : 1 ≤ sumR l) : mayR may l (sumR l) = true := by
 unfold Go.Runs.mayR
 rw [decide_eq_true omm, mayL_true (fun r hr => ⟨h.pos r hr, (h.mem r hr).2.2.2.2⟩) h.next (fun r _ => by simp) rfl]
 rfl
end Go.Code
namespace Go.Chk
open Go Go.Vc
abbrev Ce := Int × Int × Int
abbrev Po := Int × Int
theorem tdm {a b : Int} (hb : 0 < b) : (a.tmod b < 0 → a / b = a.tdiv b - 1 ∧ a % b = a.tmod b + b) ∧ (0 ≤ a.tmod b → a / b = a.tdiv b ∧ a % b = a.tmod b) ∧ -b < a.tmod b ∧ a.tmod b < b := by
 have h1 : b * a.tdiv b + a.tmod b = a := Int.mul_tdiv_add_tmod a b
 have h2 : a.tmod b < b := Int.tmod_lt_of_pos a hb
 have h3 : -b < a.tmod b := by
  have := Int.tmod_lt_of_pos (-a) hb
  rw [Int.neg_tmod] at this
  omega
 refine ⟨fun h => ?_, fun h => ?_, h3, h2⟩
 ·have := (Int.ediv_emod_unique hb (a := a) (q := a.tdiv b - 1) (r := a.tmod b + b)).2 ⟨by rw [Int.mul_sub]; omega, by omega, by omega⟩
  exact this
 ·exact (Int.ediv_emod_unique hb (a := a) (q := a.tdiv b) (r := a.tmod b)).2 ⟨by omega, by omega, by omega⟩
theorem ediv_in {a b : Int} (ha : inI a) (hb : 0 < b) : inI (a / b) := by
 unfold inI at *
 have h1 := Int.emod_nonneg a (by omega : b ≠ 0)
 have h2 := Int.emod_lt_of_pos a hb
 have h3 := Int.mul_ediv_add_emod a b
 rcases alj07 a 0 with h | h
 ·have h4 : a ≤ a / b := by
   rw [Int.le_ediv_iff_mul_le hb]
   have := Int.mul_le_mul_of_nonpos_left (a := a) (b := b) (c := 1) omm omm
   omega
  have h5 : a / b < 0 := Int.ediv_neg_of_neg_of_pos h hb
  omega
 ·have h4 : a / b ≤ a := Int.ediv_le_self b h
  have h5 : 0 ≤ a / b := Int.ediv_nonneg h omm
  omega
theorem tdiv_in {a b : Int} (ha : inI a) (hb : 0 < b) : inI (a.tdiv b) := by
 unfold inI at *
 rcases alj07 a 0 with h | h
 ·have h1 : a.tdiv b = -((-a) / b) := by
   rw [← ali23 omm, Int.neg_tdiv]; omega
  have h4 : (-a) / b ≤ -a := Int.ediv_le_self b omm
  have h5 : 0 ≤ (-a) / b := Int.ediv_nonneg omm omm
  omega
 ·rw [ali23 h]
  have h4 : a / b ≤ a := Int.ediv_le_self b h
  have h5 : 0 ≤ a / b := Int.ediv_nonneg h omm
  omega
theorem u64_in (n : Int) : 0 ≤ w64q n ∧ w64q n < 18446744073709551616 := by
 unfold IntKind.wrap
 simp only [IntKind.bits, IntKind.signed]
 simp
 omega
theorem u64_id {n : Int} (h : 0 ≤ n ∧ n < 18446744073709551616) : w64q n = n := by
 unfold IntKind.wrap
 simp only [IntKind.bits, IntKind.signed]
 simp
 omega
def mix (seed x z : Int) : Int := w64q ((w64q ((w64q ((w64q seed) * 11400714819323198485)) + (w64q ((w64q x) * 14029467366897019727)))) + (w64q ((w64q z) * 1609587929392839161)))
def hash (seed x z : Int) : Int :=
 bXor .u64 (w64q ((bXor .u64 (mix seed x z) (mix seed x z / 536870912)) * 13787848793156543929)) (w64q ((bXor .u64 (mix seed x z) (mix seed x z / 536870912)) * 13787848793156543929) / 4294967296)
theorem hash_in (seed x z : Int) : 0 ≤ hash seed x z := by
 unfold hash bXor
 exact (u64_in _).1
theorem sh29 (n : Int) : (w64q n).fdiv (2 ^ (min (29 : Int).toNat 64)) = w64q n / 536870912 := ali24 _ dcc
theorem sh32 (n : Int) : (w64q n).fdiv (2 ^ (min (32 : Int).toNat 64)) = w64q n / 4294967296 := ali24 _ dcc
theorem dv29 (n : Int) : w64q (Int.tdiv (w64q n) 536870912) = w64q n / 536870912 := by
 have h := u64_in n
 rw [ali23 h.1, u64_id omm]
theorem dv32 (n : Int) : w64q (Int.tdiv (w64q n) 4294967296) = w64q n / 4294967296 := by
 have h := u64_in n
 rw [ali23 h.1, u64_id omm]
def corner (seed x z : Int) : Int := hash seed x z % 9
def ground (seed x z : Int) : Int :=
 6 + (corner seed (x / 8) (z / 8) * ((8 - x % 8) * (8 - z % 8)) + corner seed (x / 8 + 1) (z / 8) * (x % 8 * (8 - z % 8)) + corner seed (x / 8) (z / 8 + 1) * ((8 - x % 8) * (z % 8)) + corner seed (x / 8 + 1) (z / 8 + 1) * (x % 8 * (z % 8))) / 64
def ofG (y g : Int) : Int :=
 if y < 0 ∨ 32 ≤ y then 0 else if y = 0 ∨ y < g - 3 then 1 else if y < g - 1 ∨ (y = g - 1 ∧ 9 < g) then 2 else if y = g - 1 then 3 else if y < 9 then 8 else 0
theorem mul_bd {c u v : Int} (hc : 0 ≤ c ∧ c ≤ 8) (hu : 0 ≤ u ∧ u ≤ 8) (hv : 0 ≤ v ∧ v ≤ 8) : 0 ≤ u * v ∧ u * v ≤ 64 ∧ 0 ≤ c * (u * v) ∧ c * (u * v) ≤ 512 := by
 have h1 : 0 ≤ u * v := alj08 hu.1 hv.1
 have h2 : u * v ≤ 8 * 8 := Int.mul_le_mul hu.2 hv.2 hv.1 dcc
 have h3 : 0 ≤ c * (u * v) := alj08 hc.1 h1
 have h4 : c * (u * v) ≤ 8 * 64 := Int.mul_le_mul hc.2 h2 h1 dcc
 exact ⟨h1, h2, h3, h4⟩
theorem corner_in (s x z : Int) : 0 ≤ corner s x z ∧ corner s x z ≤ 8 := by
 unfold corner; omega
theorem ground_in (s x z : Int) : 6 ≤ ground s x z ∧ ground s x z ≤ 100 := by
 unfold ground
 have a := mul_bd (corner_in s (x / 8) (z / 8)) (u := 8 - x % 8) (v := 8 - z % 8) omm omm
 have b := mul_bd (corner_in s (x / 8 + 1) (z / 8)) (u := x % 8) (v := 8 - z % 8) omm omm
 have c := mul_bd (corner_in s (x / 8) (z / 8 + 1)) (u := 8 - x % 8) (v := z % 8) omm omm
 have d := mul_bd (corner_in s (x / 8 + 1) (z / 8 + 1)) (u := x % 8) (v := z % 8) omm omm
 omega
def idx (c : Ce) : Int := (c.2.1 * 16 + c.2.2 % 16) * 16 + c.1 % 16
def inY (c : Ce) : Prop := 0 ≤ c.2.1 ∧ c.2.1 < 32
def pos (c : Ce) : Po := (c.1 / 16, c.2.2 / 16)
def cellAt (p : Po) (i : Int) : Ce := (p.1 * 16 + i % 16, i / 256, p.2 * 16 + i / 16 % 16)
theorem idx_in {c : Ce} (h : inY c) : 0 ≤ idx c ∧ idx c < 8192 := by
 unfold idx; unfold inY at h; omega
theorem cellAt_idx {c : Ce} (h : inY c) : cellAt (pos c) (idx c) = c := by
 unfold cellAt idx pos
 unfold inY at h
 refine Prod.ext ?_ (Prod.ext ?_ ?_) <;> simp only <;> omega
def made (seed : Int) (p : Po) : List Int := (List.range 8192).map fun i : Nat => ofG ((i : Int) / 256) (ground seed (p.1 * 16 + (i : Int) % 16) (p.2 * 16 + (i : Int) / 16 % 16))
theorem made_len (seed : Int) (p : Po) : (made seed p).length = 8192 := by simp [made]
theorem ofG_cases (y g : Int) : ofG y g = 0 ∨ ofG y g = 1 ∨ ofG y g = 2 ∨ ofG y g = 3 ∨ ofG y g = 8 := by
 unfold ofG
 split
 ·exact .inl rfl
 ·split
  ·exact .inr (.inl rfl)
  ·split
   ·exact .inr (.inr (.inl rfl))
   ·split
    ·exact .inr (.inr (.inr (.inl rfl)))
    ·split
     ·exact .inr (.inr (.inr (.inr rfl)))
     ·exact .inl rfl
end Go.Chk
namespace Go.Chk
open Go Go.Vc
end Go.Chk
namespace Go.Chk
open Go Go.Vc Go.Runs
end Go.Chk
namespace Go.Chk
open Go Go.Vc Go.Runs
end Go.Chk
namespace Go.Chk
open Go Go.Vc Go.Runs
theorem Nm_of : ∀ (n : Nat) (l : List Rn), l.length = n → (∀ r ∈ l, 1 ≤ r.1) → (∀ i q r, l[i]? = some q → l[i + 1]? = some r → q.2 ≠ r.2) → Nm l
 | 0, l, hn, _, _ => by
   have : l = [] := alj13 hn
   subst this; exact .nil
 | n + 1, l, hn, h1, h2 => by
   rcases snoc_cases l with rfl | ⟨m, q, rfl⟩
   ·simp at hn
   ·have hm : m.length = n := by simpa using hn
    refine .snoc m q (Nm_of n m hm (fun r hr => h1 r (alj37 _ hr)) (fun i a b ha hb => ?_)) (h1 q smm) (fun p hp => ?_)
    ·have hb' := (ali03.1 hb).1
     exact h2 i a b (by rw [ali18 omm]; exact ha) (by rw [ali18 omm]; exact hb)
    ·have hne : m ≠ [] := by rintro rfl; simp at hp
     have hlen : 0 < m.length := List.length_pos_iff.2 hne
     rw [List.getLast?_eq_getElem?] at hp
     refine h2 (m.length - 1) p q ?_ ?_
     ·rw [ali18 omm]; exact hp
     ·rw [show m.length - 1 + 1 = m.length by omega, ali19 (ali34 _), Nat.sub_self]; rfl
theorem mayL_inv {may : Int → Bool} : ∀ {l : List Rn} {prev : Option Int} {left : Int}, mayL may prev left l = true →
  (∀ r ∈ l, 1 ≤ r.1 ∧ may r.2 = true) ∧ (∀ i q r, l[i]? = some q → l[i + 1]? = some r → q.2 ≠ r.2) ∧ ∀ r, l.head? = some r → prev ≠ some r.2
 | [], _, _, _ => ⟨by simp, by simp, by simp⟩
 | r :: t, prev, left, h => by
   unfold mayL at h
   split at h
   ·cases h
   ·rename_i hn
    obtain ⟨a1, a2, a3⟩ := mayL_inv h
    have hm : may r.2 = true := by
     cases hq : may r.2 with
     | true => rfl
     | false => exact absurd (.inr (.inr (.inl hq))) hn
    have hp : prev ≠ some r.2 := fun e => hn (.inr (.inr (.inr e)))
    refine ⟨fun q hq => ?_, fun i q s hq hs => ?_, fun q hq => ?_⟩
    ·rcases ali16.1 hq with rfl | hq
     ·exact ⟨by omega, hm⟩
     ·exact a1 q hq
    ·cases i with
     | zero =>
       simp only [ali43, Option.some.injEq] at hq
       subst hq
       simp only [ali42] at hs
       have : t.head? = some s := by cases t <;> simp_all
       intro e
       exact a3 s this (by rw [e])
     | succ i => exact a2 i q s (by simpa using hq) (by simpa using hs)
    ·simp only [List.head?_cons, Option.some.injEq] at hq
     subst hq; exact hp
theorem mayR_inv {may : Int → Bool} {l : List Rn} {n : Int} (h : mayR may l n = true) : ofC (cellsR l) = l ∧ (∀ b ∈ cellsR l, may b = true) ∧ ((cellsR l).length : Int) = n := by
 unfold mayR at h
 rw [ali39] at h
 obtain ⟨a1, a2, _⟩ := mayL_inv h.2
 refine ⟨(Nm_of l.length l rfl (fun r hr => (a1 r hr).1) a2).fix, fun b hb => ?_, ?_⟩
 ·unfold cellsR at hb
  obtain ⟨r, hr, hb⟩ := List.mem_flatMap.1 hb
  rw [(ali48.1 hb).2]
  exact (a1 r hr).2
 ·rw [← sumR_cells fun r hr => by have := (a1 r hr).1; omega]
  exact mayL_sum h.2
end Go.Chk
namespace Go.Chk
open Go Go.Vc Go.Runs
def inT (p : Po) : Prop := (-524288 ≤ p.1 ∧ p.1 < 524288) ∧ -524288 ≤ p.2 ∧ p.2 < 524288
instance (p : Po) : Decidable (inT p) := by unfold inT; exact inferInstance
def idK (p : Po) : Int := if inT p then (p.1 + 524288) * 1048576 + (p.2 + 524288) + 1 else 0
theorem idK_pos {p : Po} (h : inT p) : 1 ≤ idK p ∧ idK p ≤ 1099511627776 := by
 unfold idK; rw [if_pos h]; unfold inT at h; omega
theorem idK_out {p : Po} (h : ¬ inT p) : idK p = 0 := by unfold idK; rw [if_neg h]
theorem idK_inj {p q : Po} (hp : inT p) (hq : inT q) : idK p = idK q ↔ p = q := by
 unfold idK
 rw [if_pos hp, if_pos hq]
 unfold inT at hp hq
 refine ⟨fun h => Prod.ext ?_ ?_, fun h => by rw [h]⟩ <;> omega
end Go.Chk
namespace Go.Chk
open Go Go.Vc Go.Runs
def firstI {α : Type} (q : α → Bool) : List α → Int
 | [] => -1
 | x :: t => if q x then 0 else if firstI q t < 0 then -1 else firstI q t + 1
theorem firstI_none {α : Type} {q : α → Bool} : ∀ {l : List α}, (∀ y ∈ l, q y = false) → firstI q l = -1
 | [], _ => rfl
 | x :: t, h => by
   have h1 := h x (.head _)
   have h2 := firstI_none (l := t) fun y hy => h y (.tail _ hy)
   unfold firstI
   rw [if_neg (by rw [h1]; decide), if_pos omm]
theorem firstI_at {α : Type} {q : α → Bool} : ∀ {l : List α} {k : Nat} {x : α}, l[k]? = some x → q x = true → (∀ j, j < k → ∀ y, l[j]? = some y → q y = false) → firstI q l = k
 | [], k, x, h, _, _ => by simp at h
 | y :: t, 0, x, h, hq, _ => by
   simp at h; subst h
   unfold firstI
   rw [if_pos hq]; rfl
 | y :: t, k + 1, x, h, hq, hn => by
   have h1 := hn 0 omm y rfl
   have h2 := firstI_at (l := t) (k := k) (x := x) (by simpa using h) hq (fun j hj z hz => hn (j + 1) omm z (by simpa using hz))
   unfold firstI
   rw [if_neg (by rw [h1]; decide), if_neg omm, h2]
   omega
theorem firstI_cases {α : Type} (q : α → Bool) : ∀ (l : List α), (firstI q l = -1 ∧ ∀ y ∈ l, q y = false) ∨ ∃ k x, l[k]? = some x ∧ q x = true ∧ firstI q l = (k : Nat) ∧ ∀ j, j < k → ∀ y, l[j]? = some y → q y = false
 | [] => .inl ⟨rfl, by simp⟩
 | x :: t => by
   cases hq : q x with
   | true => exact .inr ⟨0, x, rfl, hq, by unfold firstI; rw [if_pos hq]; rfl, by omega⟩
   | false =>
     rcases firstI_cases q t with ⟨h1, h2⟩ | ⟨k, y, h1, h2, h3, h4⟩
     ·refine .inl ⟨by unfold firstI; rw [if_neg (by rw [hq]; decide), if_pos omm], fun y hy => ?_⟩
      rcases ali16.1 hy with rfl | hy
      ·exact hq
      ·exact h2 y hy
     ·refine .inr ⟨k + 1, y, by simpa using h1, h2, by unfold firstI; rw [if_neg (by rw [hq]; decide), if_neg omm, h3]; omega, fun j hj z hz => ?_⟩
      cases j with
      | zero => simp at hz; subst hz; exact hq
      | succ j => exact h4 j omm z (by simpa using hz)
theorem firstI_map {α β : Type} (f : α → β) (q : β → Bool) : ∀ l : List α, firstI q (l.map f) = firstI (fun a => q (f a)) l
 | [] => rfl
 | x :: t => by simp only [ali17, firstI, firstI_map f q t]
end Go.Chk
namespace Go.Chk
open Go Go.Vc Go.Runs
abbrev W16 := BitVec 16
abbrev Bys (b : List Int) : Prop := ∀ c ∈ b, 0 ≤ c ∧ c < 256
def cI (v : W16) : Int := (v.toNat : Nat)
def st1 (c : W16) : W16 := if c.msb then (c <<< 1) ^^^ 0x1021#16 else c <<< 1
def st4 (c : W16) : W16 := st1 (st1 (st1 (st1 c)))
def st8 (c : W16) : W16 := st4 (st4 c)
def byW (x : Int) : W16 := BitVec.ofInt 16 x
def crc1 (c : W16) (x : Int) : W16 := st8 (c ^^^ (byW x <<< 8))
def crcF (c : W16) (b : List Int) : W16 := b.foldl crc1 c
def crcB (b : List Int) : W16 := crcF 0xFFFF#16 b
def crcY (b : List Int) : List Int := [cI (crcB b) / 256, cI (crcB b) % 256]
theorem cI_bd (v : W16) : 0 ≤ cI v ∧ cI v < 65536 := by unfold cI; have := v.isLt; omega
theorem cI_inj {a b : W16} : cI a = cI b ↔ a = b := by
 unfold cI
 refine ⟨fun h => BitVec.eq_of_toNat_eq omm, fun h => by rw [h]⟩
theorem byW_nat {x : Int} (h : 0 ≤ x ∧ x < 65536) : (byW x).toNat = x.toNat := by
 unfold byW
 rw [alj03]
 simp only [show ((2 ^ 16 : Nat) : Int) = 65536 from rfl]
 rw [Int.emod_eq_of_lt h.1 h.2]
theorem cI_byW {x : Int} (h : 0 ≤ x ∧ x < 65536) : cI (byW x) = x := by unfold cI; rw [byW_nat h]; omega
theorem byW_cI (v : W16) : byW (cI v) = v := cI_inj.1 (cI_byW (cI_bd v))
theorem bits16 {a b : W16} (h : ∀ i : Nat, i < 16 → a.getLsbD i = b.getLsbD i) : a = b := BitVec.eq_of_getLsbD_eq h
theorem lt16 {i : Nat} (h : i < 16) : i = 0 ∨ i = 1 ∨ i = 2 ∨ i = 3 ∨ i = 4 ∨ i = 5 ∨ i = 6 ∨ i = 7 ∨ i = 8 ∨ i = 9 ∨ i = 10 ∨ i = 11 ∨ i = 12 ∨ i = 13 ∨ i = 14 ∨ i = 15 := by omega
theorem shl_xor (a b : W16) (n : Nat) : (a ^^^ b) <<< n = (a <<< n) ^^^ (b <<< n) := by
 apply bits16
 intro i hi
 simp only [BitVec.getLsbD_xor, alj01]
 cases decide (i < 16) <;> cases decide (i < n) <;> simp
theorem st1_xor (a b : W16) : st1 (a ^^^ b) = st1 a ^^^ st1 b := by
 unfold st1
 rw [BitVec.msb_xor, shl_xor]
 cases a.msb <;> cases b.msb <;> simp
 ·rw [BitVec.xor_assoc]
 ·rw [BitVec.xor_assoc, BitVec.xor_assoc]
  congr 1
  rw [BitVec.xor_comm]
 ·generalize a <<< 1 = x
  generalize b <<< 1 = y
  apply bits16
  intro i _
  simp only [BitVec.getLsbD_xor]
  cases x.getLsbD i <;> cases y.getLsbD i <;> cases (4129#16).getLsbD i <;> rfl
theorem st4_xor (a b : W16) : st4 (a ^^^ b) = st4 a ^^^ st4 b := by unfold st4; rw [st1_xor, st1_xor, st1_xor, st1_xor]
theorem st8_xor (a b : W16) : st8 (a ^^^ b) = st8 a ^^^ st8 b := by unfold st8; rw [st4_xor, st4_xor]
theorem msb_iff (c : W16) : c.msb = true ↔ 32768 ≤ c.toNat := by
 rw [BitVec.msb_eq_decide]; simp
theorem st1_low {c : W16} (h : c.toNat < 32768) : st1 c = c <<< 1 ∧ (c <<< 1).toNat = 2 * c.toNat := by
 constructor
 ·unfold st1
  rw [if_neg]
  rw [msb_iff]; omega
 ·rw [BitVec.toNat_shiftLeft, Nat.shiftLeft_eq]
  omega
theorem st1_zero {c : W16} (h : st1 c = 0#16) : c = 0#16 := by
 unfold st1 at h
 split at h
 ·have := congrArg (fun v : W16 => v.getLsbD 0) h
  simp at this
 ·rename_i hm
  have hm : c.toNat < 32768 := by rw [msb_iff] at hm; omega
  have h2 := (st1_low hm).2
  rw [h] at h2
  exact BitVec.eq_of_toNat_eq (by simp at h2 ⊢; omega)
theorem st8_zero {c : W16} (h : st8 c = 0#16) : c = 0#16 := by
 unfold st8 st4 at h
 exact st1_zero (st1_zero (st1_zero (st1_zero (st1_zero (st1_zero (st1_zero (st1_zero h)))))))
theorem xor_zero_iff {a b : W16} : a ^^^ b = 0#16 ↔ a = b := by
 constructor
 ·intro h
  have := congrArg (fun v => v ^^^ b) h
  simpa [BitVec.xor_assoc] using this
 ·rintro rfl; exact BitVec.xor_self
theorem st8_inj {a b : W16} (h : st8 a = st8 b) : a = b := by
 rw [← xor_zero_iff] at h ⊢
 rw [← st8_xor] at h
 exact st8_zero h
theorem shl_shl (c : W16) (m n : Nat) : (c <<< m) <<< n = c <<< (m + n) := (BitVec.shiftLeft_add c m n).symm
theorem st4_low {c : W16} (h : c.toNat < 4096) : st4 c = c <<< 4 := by
 unfold st4
 have h1 := st1_low (c := c) omm
 rw [h1.1]
 have h2 := st1_low (c := c <<< 1) omm
 rw [h2.1]
 have h3 := st1_low (c := c <<< 1 <<< 1) omm
 rw [h3.1]
 have h4 := st1_low (c := c <<< 1 <<< 1 <<< 1) omm
 rw [h4.1, shl_shl, shl_shl, shl_shl]
theorem nib_step (v y : W16) (hy : y.toNat < 16) : (v <<< 4) ^^^ st4 (((v >>> 12) ^^^ y) <<< 12) = st4 (v ^^^ (y <<< 12)) := by
 have e : v ^^^ (y <<< 12) = (((v >>> 12) ^^^ y) <<< 12) ^^^ (v &&& 0xFFF#16) := by
  apply bits16
  intro i hi
  simp only [BitVec.getLsbD_xor, alj01, BitVec.getLsbD_ushiftRight, alj00]
  rcases lt16 hi with rfl | rfl | rfl | rfl | rfl | rfl | rfl | rfl | rfl | rfl | rfl | rfl | rfl | rfl | rfl | rfl <;> simp
 have hl : (v &&& 0xFFF#16).toNat < 4096 := by
  rw [alj02]
  exact alj60 Nat.and_le_right dcc
 have e2 : (v &&& 0xFFF#16) <<< 4 = v <<< 4 := by
  apply bits16
  intro i hi
  simp only [alj01, alj00]
  rcases lt16 hi with rfl | rfl | rfl | rfl | rfl | rfl | rfl | rfl | rfl | rfl | rfl | rfl | rfl | rfl | rfl | rfl <;> simp
 rw [e, st4_xor, st4_low hl, e2, BitVec.xor_comm]
theorem byte_step (v x : W16) (hx : x.toNat < 256) : st4 (st4 (v ^^^ ((x >>> 4) <<< 12)) ^^^ ((x &&& 15#16) <<< 12)) = st8 (v ^^^ (x <<< 8)) := by
 have e : v ^^^ (x <<< 8) = (v ^^^ ((x >>> 4) <<< 12)) ^^^ ((x &&& 15#16) <<< 8) := by
  apply bits16
  intro i hi
  simp only [BitVec.getLsbD_xor, alj01, BitVec.getLsbD_ushiftRight, alj00]
  rcases lt16 hi with rfl | rfl | rfl | rfl | rfl | rfl | rfl | rfl | rfl | rfl | rfl | rfl | rfl | rfl | rfl | rfl <;> simp
 have hl : (x &&& 15#16).toNat < 16 := by
  rw [alj02]
  exact alj60 Nat.and_le_right dcc
 have hl2 : ((x &&& 15#16) <<< 8).toNat < 4096 := by
  rw [BitVec.toNat_shiftLeft, Nat.shiftLeft_eq]; omega
 unfold st8
 rw [e, st4_xor (v ^^^ _), st4_low hl2, shl_shl]
theorem st8_low {c : W16} (h : c.toNat < 256) : st8 c = c <<< 8 := by
 unfold st8
 rw [st4_low (c := c) omm, st4_low (c := c <<< 4) (by rw [BitVec.toNat_shiftLeft, Nat.shiftLeft_eq]; omega), shl_shl]
theorem crcF_append (c : W16) (a b : List Int) : crcF c (a ++ b) = crcF (crcF c a) b := alj22 ..
theorem crc_two (c : W16) {h l : Int} (hh : 0 ≤ h ∧ h < 256) (hl : 0 ≤ l ∧ l < 256) : crcF c [h, l] = 0#16 ↔ cI c = h * 256 + l := by
 show st8 (st8 (c ^^^ (byW h <<< 8)) ^^^ (byW l <<< 8)) = 0#16 ↔ _
 have n1 : (byW l).toNat < 256 := by rw [byW_nat omm]; omega
 have n2 : (byW h).toNat < 256 := by rw [byW_nat omm]; omega
 have z : st8 0#16 = 0#16 := by decide
 have e1 : st8 (st8 (c ^^^ (byW h <<< 8)) ^^^ (byW l <<< 8)) = 0#16 ↔ c = (byW h <<< 8) ^^^ byW l := by
  constructor
  ·intro q
   have q1 := st8_zero q
   rw [xor_zero_iff, ← st8_low n1] at q1
   have q2 := st8_inj q1
   rw [← q2, BitVec.xor_comm, BitVec.xor_assoc, BitVec.xor_self, BitVec.xor_zero]
  ·rintro rfl
   rw [show (byW h <<< 8 ^^^ byW l) ^^^ byW h <<< 8 = byW l by rw [BitVec.xor_comm, ← BitVec.xor_assoc, BitVec.xor_self, BitVec.zero_xor], st8_low n1, BitVec.xor_self, z]
 rw [e1]
 have e2 : ((byW h <<< 8) ^^^ byW l).toNat = h.toNat * 256 + l.toNat := by
  have : (byW h <<< 8) ^^^ byW l = (byW h <<< 8) ||| byW l := by
   apply bits16
   intro i hi
   have hb : ∀ j, 8 ≤ j → (byW l).getLsbD j = false := fun j hj => Nat.testBit_lt_two_pow (ali35 n1 (Nat.pow_le_pow_right (n := 2) dcc hj))
   simp only [BitVec.getLsbD_xor, BitVec.getLsbD_or, alj01]
   by_cases h8 : i < 8
   ·simp [h8]
   ·rw [hb i omm]; simp
  rw [this, BitVec.toNat_or, BitVec.toNat_shiftLeft, byW_nat (x := h) omm, byW_nat (x := l) omm, Nat.shiftLeft_eq]
  rw [Nat.mod_eq_of_lt omm]
  have := Nat.two_pow_add_eq_or_of_lt (i := 8) (b := l.toNat) omm h.toNat
  rw [Nat.mul_comm h.toNat, ← this]
 constructor
 ·intro q
  rw [q]; unfold cI; rw [e2]; omega
 ·intro q
  apply BitVec.eq_of_toNat_eq
  rw [e2]
  unfold cI at q; omega
theorem wrap_u16 (x : Int) : w16q x = x % 65536 := by
 simp [IntKind.wrap, IntKind.bits, IntKind.signed]
theorem ofInt_cI (n : Nat) (hn : 16 ≤ n) (v : W16) : (BitVec.ofInt n (cI v)).toNat = v.toNat := by
 unfold cI
 rw [alj03]
 have h1 := v.isLt
 have h2 : (2 : Nat) ^ 16 ≤ 2 ^ n := Nat.pow_le_pow_right dcc hn
 generalize (2 : Nat) ^ n = m at *
 rw [Int.emod_eq_of_lt omm omm]
 omega
theorem bXor16 (a b : W16) : bXor .u16 (cI a) (cI b) = cI (a ^^^ b) := by
 show w16q ((BitVec.ofInt 16 (cI a) ^^^ BitVec.ofInt 16 (cI b)).toNat : Nat) = _
 rw [BitVec.toNat_xor, ofInt_cI 16 dcc, ofInt_cI 16 dcc, ← BitVec.toNat_xor, wrap_u16]
 show cI _ % 65536 = cI _
 have := cI_bd (a ^^^ b)
 omega
theorem cI_shl (v : W16) (n : Nat) : cI (v <<< n) = cI v * 2 ^ n % 65536 := by
 unfold cI
 rw [BitVec.toNat_shiftLeft, Nat.shiftLeft_eq, Int.natCast_emod, Int.natCast_mul, Int.natCast_pow]
 rfl
theorem cI_shr (v : W16) (n : Nat) : cI (v >>> n) = cI v / 2 ^ n := by
 unfold cI
 rw [BitVec.toNat_ushiftRight, Nat.shiftRight_eq_div_pow, Int.natCast_ediv, Int.natCast_pow]
 rfl
theorem and_msb (v : W16) : cI (v &&& 0x8000#16) = 0 ↔ v.msb = false := by
 have e15 : v.msb = v.getLsbD 15 := rfl
 constructor
 ·intro h
  have h0 : v &&& 0x8000#16 = 0#16 := cI_inj.1 (by rw [h]; rfl)
  have := congrArg (fun u : W16 => u.getLsbD 15) h0
  simp only [alj00] at this
  rw [e15]
  simpa using this
 ·intro h
  have h0 : v &&& 0x8000#16 = 0#16 := by
   apply bits16
   intro i hi
   rw [e15] at h
   simp only [alj00]
   rcases lt16 hi with rfl | rfl | rfl | rfl | rfl | rfl | rfl | rfl | rfl | rfl | rfl | rfl | rfl | rfl | rfl | rfl <;> first | (simp; done) | simpa using h
  rw [h0]; rfl
theorem bAnd16 (a b : W16) : bAnd .u16 (cI a) (cI b) = cI (a &&& b) := by
 show w16q ((BitVec.ofInt 16 (cI a) &&& BitVec.ofInt 16 (cI b)).toNat : Nat) = _
 rw [alj02, ofInt_cI 16 dcc, ofInt_cI 16 dcc, ← alj02, wrap_u16]
 show cI _ % 65536 = cI _
 have := cI_bd (a &&& b)
 omega
theorem w_shl (v : W16) (n : Nat) : w16q (cI v * 2 ^ n) = cI (v <<< n) := by rw [wrap_u16, cI_shl]
theorem w_shr (v : W16) (n : Nat) : (cI v).fdiv (2 ^ n) = cI (v >>> n) := by
 rw [cI_shr, ali24]
 exact Int.le_of_lt (Int.pow_pos dcc)
theorem w_hi {x : Int} (h : 0 ≤ x ∧ x < 256) : w16q (x.fdiv (2 ^ 4)) = cI (byW x >>> 4) := by
 rw [cI_shr, cI_byW omm, ali24 _ dcc, wrap_u16]
 simp only [show (2 : Int) ^ 4 = 16 from rfl]
 omega
theorem w_lo {x : Int} (h : 0 ≤ x ∧ x < 256) : w16q (bAnd .u8 x 15) = cI (byW x &&& 15#16) := by
 have e : bAnd .u8 x 15 = cI (byW x &&& 15#16) := by
  show w8q ((BitVec.ofInt 8 x &&& BitVec.ofInt 8 15).toNat : Nat) = _
  have e8 : (BitVec.ofInt 8 x).toNat = (byW x).toNat := by
   rw [byW_nat omm, alj03]
   simp only [show ((2 ^ 8 : Nat) : Int) = 256 from rfl]
   rw [Int.emod_eq_of_lt h.1 h.2]
  rw [alj02, e8]
  unfold cI
  rw [alj02]
  have : (byW x).toNat &&& (15#16).toNat < 16 := alj60 Nat.and_le_right dcc
  show w8q (((byW x).toNat &&& (15#16).toNat : Nat) : Int) = _
  simp only [IntKind.wrap, IntKind.bits, IntKind.signed, alj04, Bool.false_eq_true, if_false, show (2 : Int) ^ 8 = 256 from rfl]
  omega
 rw [e, wrap_u16]
 have := cI_bd (byW x &&& 15#16)
 omega
theorem nib_lt {a b : W16} (ha : a.toNat < 16) (hb : b.toNat < 16) : (a ^^^ b).toNat < 16 := by
 rw [BitVec.toNat_xor]
 exact Nat.xor_lt_two_pow (n := 4) ha hb
theorem shr_lt (v : W16) : (v >>> 12).toNat < 16 := by
 rw [BitVec.toNat_ushiftRight, Nat.shiftRight_eq_div_pow]
 have := v.isLt
 omega
theorem hi_lt {x : Int} (h : 0 ≤ x ∧ x < 256) : (byW x >>> 4).toNat < 16 := by
 rw [BitVec.toNat_ushiftRight, Nat.shiftRight_eq_div_pow, byW_nat omm]
 omega
theorem lo_lt (x : W16) : (x &&& 15#16).toNat < 16 := by
 rw [alj02]
 exact alj60 Nat.and_le_right dcc
def tv (i : Nat) : Value := .int .u16 (cI (st4 (byW i <<< 12)))
def tS : LV := [tv 0, tv 1, tv 2, tv 3, tv 4, tv 5, tv 6, tv 7, tv 8, tv 9, tv 10, tv 11, tv 12, tv 13, tv 14, tv 15]
def tT (k : Nat) : LV := tS.take k ++ List.replicate (16 - k) (.int .u16 0)
theorem tT_set {k : Nat} (hk : k < 16) : (tT k).set k (tv k) = tT (k + 1) := by
 rcases lt16 hk with rfl | rfl | rfl | rfl | rfl | rfl | rfl | rfl | rfl | rfl | rfl | rfl | rfl | rfl | rfl | rfl <;> rfl
theorem tS_at {u : W16} (hu : u.toNat < 16) : tS[(cI u).toNat]? = some (.int .u16 (cI (st4 (u <<< 12)))) := by
 have e : ∀ k : Nat, k < 16 → tS[k]? = some (tv k) := fun k hk => by
  rcases lt16 hk with rfl | rfl | rfl | rfl | rfl | rfl | rfl | rfl | rfl | rfl | rfl | rfl | rfl | rfl | rfl | rfl <;> rfl
 have h1 : (cI u).toNat = u.toNat := rfl
 rw [h1, e _ hu]
 unfold tv
 have : byW (u.toNat : Int) = u := byW_cI u
 rw [this]
theorem with_byte (v : W16) {x : Int} (h : 0 ≤ x ∧ x < 256) :
  cI ((((v <<< 4) ^^^ st4 (((v >>> 12) ^^^ (byW x >>> 4)) <<< 12)) <<< 4) ^^^ st4 (((((v <<< 4) ^^^ st4 (((v >>> 12) ^^^ (byW x >>> 4)) <<< 12)) >>> 12) ^^^ (byW x &&& 15#16)) <<< 12)) = cI (crc1 v x) := by
 rw [nib_step v _ (hi_lt h), nib_step _ _ (lo_lt _), byte_step v _ (by rw [byW_nat omm]; omega)]
 rfl
end Go.Chk
