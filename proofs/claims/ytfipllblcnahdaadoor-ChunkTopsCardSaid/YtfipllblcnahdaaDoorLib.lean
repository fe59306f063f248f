import Derived.Test.YtfipllblcnahdaaDoorVc
set_option linter.all false
namespace Go.Vc
open Go Go.RowKit

/-! ## A library for contracts: what stays -/
/-- The memory that was there is as it was. -/
abbrev Ext (w w' : World) : Prop := Below w.heap.size w w'
theorem Ext.rfl' (w : World) : Ext w w := Below.refl _ _
theorem Ext.tr {a b c : World} (h : Ext a b) (k : Ext b c) : Ext a c := Below.trans h (Below.mono k h.size)
theorem Ext.al (w : World) (o : Obj) : Ext w (w.alloc o) := (Below.refl _ w).alloc (Nat.le_refl _) o
theorem Ext.dr (w : World) : Ext w w.drew := (Below.refl _ w).drew
theorem Ext.of_alloc {a b c : World} {o : Obj} (h : Ext a b) (e : c = b.alloc o) : Ext a c := by subst e; exact h.tr (Ext.al _ _)
theorem Ext.drew {a b : World} (h : Ext a b) : Ext a b.drew := h.tr (Ext.dr _)
theorem setRow_other (w : World) (g j : Nat) (cs : Array Value) (h : j ≠ g) : (w.setRow g cs).heap[j]? = w.heap[j]? := by
  simp only [World.setRow, Array.getElem?_modify, if_neg (Ne.symm h)]
theorem setRow_size (w : World) (g : Nat) (cs : Array Value) : (w.setRow g cs).heap.size = w.heap.size := by simp [World.setRow]
theorem Ext.setRow {a b : World} (h : Ext a b) {g : Nat} (hg : a.heap.size ≤ g) (cs : Array Value) : Ext a (b.setRow g cs) :=
  ⟨h.os, h.tape, h.output, by rw [setRow_size]; exact h.size, fun k hk => by rw [setRow_other _ _ _ _ (by omega)]; exact h.block k hk⟩
theorem Ext.of_setRow {a b c : World} {g : Nat} {cs : Array Value} (h : Ext a b) (e : c = b.setRow g cs) (hg : a.heap.size ≤ g) : Ext a c := by subst e; exact h.setRow hg cs
theorem cell_lt {w : World} {a : Addr} {v : Value} (h : w.cell? a = some v) : a.block < w.heap.size := by
  unfold World.cell? at h
  split at h
  · rename_i hb; exact (Array.getElem?_eq_some_iff.1 hb).1
  · cases h
theorem Ext.ld {w w' : World} (h : Ext w w') {p : Option Addr} {v : Value} (hl : ld w p = some v) : ld w' p = some v := by
  cases p with
  | none => simp [Vc.ld] at hl
  | some a =>
    have hl' : w.cell? a = some v := hl
    show w'.cell? a = some v
    rw [Below.cell h (cell_lt hl')]; exact hl'
theorem Ext.Rd {w w' : World} (h : Ext w w') {p : Option Addr} {vs : List Value} (hr : Rd w p vs) : Rd w' p vs := fun i v hi => h.ld (hr i v hi)
theorem Ext.LoadL {w w' : World} (h : Ext w w') {p : Option Addr} : ∀ {i : Nat} {vs : List Value}, LoadL w p i vs → LoadL w' p i vs
  | _, [], _ => trivial
  | _, [_], hl => h.ld hl
  | _, _ :: _ :: _, hl => ⟨h.ld hl.1, h.LoadL hl.2⟩
theorem Ext.heap {w w' : World} (h : Ext w w') {i : Nat} (hi : i < w.heap.size) : w'.heap[i]? = w.heap[i]? := h.block i hi
theorem padd_padd (p : Option Addr) (m n : Nat) : padd (padd p m) n = padd p (m + n) := by
  cases p with
  | none => rfl
  | some a =>
    simp only [padd, Option.map_some, Option.some.injEq, Addr.add]
    by_cases hm : m = 0
    · subst hm; simp
    · by_cases hn : n = 0
      · subst hn; simp [hm]
      · simp [hm, hn, Nat.add_assoc]
theorem padd_some (a : Addr) (n : Nat) : padd (some a) n = some (a.add n) := rfl
@[simp] theorem padd_isSome (p : Option Addr) (n : Nat) : (padd p n).isSome = p.isSome := by cases p <;> rfl
theorem pblk_padd (p : Option Addr) (n : Nat) : pblk (padd p n) = pblk p := by
  cases p with
  | none => rfl
  | some a => simp only [padd, pblk, Option.map_some, Addr.add]; split <;> rfl

/-! ## Rows: whole blocks of cells -/
/-- Block g is the cells cs. -/
def Row (w : World) (g : Nat) (cs : List Value) (t : TypeId) : Prop := w.heap[g]? = some (.cells cs.toArray t (0, 0))
theorem Row.new (w : World) (cs : List Value) (t : TypeId) : Row (w.alloc (.cells cs.toArray t)) w.heap.size cs t := by
  show (w.heap.push _)[w.heap.size]? = _
  simp
theorem Row.lt {w : World} {g : Nat} {cs : List Value} {t : TypeId} (h : Row w g cs t) : g < w.heap.size := (Array.getElem?_eq_some_iff.1 h).1
theorem Row.ext {w w' : World} {g : Nat} {cs : List Value} {t : TypeId} (h : Row w g cs t) (he : Ext w w') : Row w' g cs t := (he.heap h.lt).trans h
theorem Row.same {w w' : World} {g : Nat} {cs : List Value} {t : TypeId} (h : Row w g cs t) (he : w'.heap[g]? = w.heap[g]?) : Row w' g cs t := he.trans h
theorem Row.set {w : World} {g : Nat} {cs : List Value} {t : TypeId} (h : Row w g cs t) (cs' : List Value) : Row (w.setRow g cs'.toArray) g cs' t := setRow_heap _ _ _ _ _ _ h
theorem Row.ld {w : World} {g : Nat} {cs : List Value} {t : TypeId} (h : Row w g cs t) (j : Nat) : ld w (some ⟨g, j, none⟩) = cs[j]? := by
  simp [Vc.ld, World.cell?, show w.heap[g]? = _ from h]
theorem padd_row (g o j : Nat) : padd (some ⟨g, o, none⟩) j = some ⟨g, o + j, none⟩ := by simp [padd, add_loc]
theorem Row.wr {w : World} {g : Nat} {cs : List Value} {t : TypeId} (h : Row w g cs t) {o n : Nat} (hn : o + n ≤ cs.length) : Wr w (some ⟨g, o, none⟩) n := by
  intro i hi
  refine ⟨_, rfl, ?_, ?_⟩
  · rw [add_loc]
    simp [World.cell?, show w.heap[g]? = _ from h]
    omega
  · rw [add_loc]; exact frozen_of h _
theorem Row.loadL {w : World} {g : Nat} {cs : List Value} {t : TypeId} (h : Row w g cs t) {o : Nat} {vs : List Value} (hv : ∀ j, j < vs.length → cs[o + j]? = vs[j]?) : LoadL w (some ⟨g, o, none⟩) 0 vs :=
  LoadL_cells fun j hj => by rw [padd_row, h.ld]; simpa using hv j hj
theorem Row.setP {w : World} {g : Nat} {cs : List Value} {t : TypeId} (h : Row w g cs t) {o : Nat} {vs : List Value} (hl : o + vs.length ≤ cs.length) (h1 : One vs) :
    setP w (some ⟨g, o, none⟩) vs = w.setRow g (putCells cs o vs).toArray := by
  have e1 := storeCells_run (P := default) ⟨g, o, none⟩ vs 0 w h1 (fun j hj => by
    obtain ⟨a, e, q⟩ := h.wr hl j hj
    cases e; simpa using q)
  have e2 := run_storeCells_at default g o t vs 0 cs.toArray w h (by simpa using hl) h1
  rw [e1] at e2
  injection e2 with _ e3
  show setCs w _ 0 vs = _
  rw [e3, putCells_eq _ _ _ hl]
  simp
theorem Ext.setP {a b : World} (h : Ext a b) {p : Option Addr} {vs : List Value} (hp : ∀ x, p = some x → a.heap.size ≤ x.block) : Ext a (setP b p vs) := by
  cases p with
  | none => exact h
  | some x =>
    have hx := hp x rfl
    show Ext a (setCs b x 0 vs)
    have key : ∀ (vs : List Value) (i : Nat) (b : World), Ext a b → Ext a (setCs b x i vs) := by
      intro vs
      induction vs with
      | nil => intro i b h; exact h
      | cons v r ih =>
        intro i b h
        refine ih _ _ (Below.setCell h ?_ _)
        unfold Addr.add; split <;> exact hx
    exact key vs 0 b h

/-! ## Slices that the call owns -/
/-- The slice s is of cells xs, in a block of its own, from block B on; or nil. -/
inductive Own (B E size : Nat) (w : World) : Sl → List Value → Prop
  | nil : Own B E size w ⟨none, 0, 0⟩ []
  | row (g n c : Nat) (cs : List Value) (hg : B ≤ g) (hr : Row w g cs E) (hc : cs.length = c * size) (hn : n ≤ c) : Own B E size w ⟨some ⟨g, 0, none⟩, n, c⟩ (cs.take (n * size))
def Sl.blk (s : Sl) : Option Nat := s.a.map (·.block)
theorem Own.len {B E size : Nat} {w : World} {s : Sl} {xs : List Value} (h : Own B E size w s xs) : xs.length = s.n * size := by
  cases h with
  | nil => simp
  | row g n c cs hg hr hc hn =>
    have : n * size ≤ c * size := Nat.mul_le_mul_right _ hn
    rw [List.length_take, hc]
    show min (n * size) _ = n * size
    omega
theorem Own.rd {B E size : Nat} {w : World} {s : Sl} {xs : List Value} (h : Own B E size w s xs) : Rd w s.a xs := by
  cases h with
  | nil => intro i v hi; simp at hi
  | row g n c cs hg hr hc hn =>
    intro i v hi
    rw [padd_row, hr.ld]
    rw [List.getElem?_take] at hi
    split at hi
    · simpa using hi
    · cases hi
theorem Own.keep {B E size : Nat} {w w' : World} {s : Sl} {xs : List Value} (h : Own B E size w s xs) (hk : ∀ g, s.blk = some g → w'.heap[g]? = w.heap[g]?) : Own B E size w' s xs := by
  cases h with
  | nil => exact .nil
  | row g n c cs hg hr hc hn => exact .row g n c cs hg (hr.same (hk g rfl)) hc hn
theorem Own.ext {B E size : Nat} {w w' : World} {s : Sl} {xs : List Value} (h : Own B E size w s xs) (he : Ext w w') : Own B E size w' s xs := by
  cases h with
  | nil => exact .nil
  | row g n c cs hg hr hc hn => exact .row g n c cs hg (hr.ext he) hc hn
theorem Own.lt {B E size : Nat} {w : World} {s : Sl} {xs : List Value} (h : Own B E size w s xs) {g : Nat} (hg : s.blk = some g) : B ≤ g ∧ g < w.heap.size := by
  cases h with
  | nil => cases hg
  | row g' n c cs hg' hr hc hn => cases hg; exact ⟨hg', hr.lt⟩
theorem Own.isSome {B E size : Nat} {w : World} {s : Sl} {xs : List Value} (h : Own B E size w s xs) (hx : 0 < xs.length) : s.a.isSome = true := by
  cases h with
  | nil => simp at hx
  | row => rfl
/-- append behind an owned slice. -/
theorem Own.append {B E size bytes : Nat} {w : World} {s : Sl} {xs : List Value} (h : Own B E size w s xs) {m : Nat} {news : List Value} (hB : B ≤ w.heap.size) (hl : news.length = m * size) (h1 : One news)
    (hb : (s.n + m) * bytes ≤ 140737488355328) (hb' : s.n + m ≤ 9223372036854775807) :
    AppPre bytes size w s m news ∧ ∀ (s' : Sl) (w' : World), AppRes E size w s m news s' w' →
      Own B E size w' s' (xs ++ news) ∧ s'.n = s.n + m ∧ Below B w w' ∧ (∀ j, s.blk ≠ some j → j < w.heap.size → w'.heap[j]? = w.heap[j]?) ∧ (s'.blk = s.blk ∨ s'.blk = some w.heap.size) := by
  refine ⟨⟨fun hf => ?_, fun hg => ⟨xs, h.len, h.rd⟩, fun hg => ⟨growslice_fits hg hb, by omega⟩, hl, h1⟩, ?_⟩
  · cases h with
    | nil =>
      have : m = 0 := by simp at hf; omega
      subst this
      intro i hi; omega
    | row g n c cs hg hr hc hn =>
      rw [padd_row]
      refine hr.wr ?_
      have : (n + m) * size ≤ c * size := Nat.mul_le_mul_right _ hf
      rw [Nat.add_mul] at this
      simp; omega
  · intro s' w' hres
    cases hres with
    | fits hf =>
      cases h with
      | nil =>
        have : m = 0 := by simp at hf; omega
        subst this
        have : news = [] := List.length_eq_zero_iff.1 (by omega)
        subst this
        exact ⟨.nil, rfl, Below.refl _ _, fun _ _ _ => rfl, .inl rfl⟩
      | row g n c cs hg hr hc hn =>
        have hle : n * size + news.length ≤ cs.length := by
          have : (n + m) * size ≤ c * size := Nat.mul_le_mul_right _ hf
          rw [Nat.add_mul] at this
          omega
        rw [padd_row, Nat.zero_add, hr.setP hle h1]
        have hr' := hr.set (putCells cs (n * size) news)
        have e : cs.take (n * size) ++ news = (putCells cs (n * size) news).take ((n + m) * size) := by
          have e0 : (n + m) * size = n * size + news.length := by rw [Nat.add_mul, hl]
          rw [putCells_eq _ _ _ hle, e0]
          exact ((List.take_append_of_le_length (by simp; omega)).trans (List.take_of_length_le (by simp; omega))).symm
        refine ⟨?_, rfl, ⟨rfl, rfl, rfl, by rw [setRow_size]; exact Nat.le_refl _, fun k hk => setRow_other _ _ _ _ (by omega)⟩, fun j hj _ => setRow_other _ _ _ _ (fun e => hj (by rw [e]; rfl)), .inl rfl⟩
        rw [e]
        exact .row g (n + m) c _ hg hr' (by rw [putCells_length]; exact hc) hf
    | grows hg olds rest cap e1 e2 e3 e4 =>
      have ho : olds = xs := by
        have hrd := h.rd
        have hlen := h.len
        apply List.ext_getElem?
        intro i
        rcases Nat.lt_or_ge i xs.length with hi | hi
        · have h1 := hrd i xs[i] (List.getElem?_eq_getElem hi)
          have hi' : i < olds.length := by omega
          have h2 := e2 i olds[i] (List.getElem?_eq_getElem hi')
          rw [h1] at h2
          rw [List.getElem?_eq_getElem hi, List.getElem?_eq_getElem hi']
          exact h2.symm
        · rw [List.getElem?_eq_none hi, List.getElem?_eq_none (by omega)]
      subst ho
      have hnew := Row.new w.drew (olds ++ news ++ rest) E
      have hlen := h.len
      refine ⟨?_, rfl, ?_, fun j _ hj => Below.heap_alloc _ _ _ hj, .inr rfl⟩
      · have e : olds ++ news = (olds ++ news ++ rest).take ((s.n + m) * size) := by
          have e0 : (s.n + m) * size = olds.length + news.length := by rw [Nat.add_mul, hl, e1]
          rw [e0]
          exact ((List.take_append_of_le_length (by simp)).trans (List.take_of_length_le (by simp))).symm
        conv => rhs; rw [e]
        exact .row w.heap.size (s.n + m) cap _ hB hnew e4 e3
      · exact (Below.refl B w).drew.alloc hB _

/-- A function's contract out of its conditions as they are printed. -/
theorem calls_of_eq {P : Program} {pre : Prop} (hP : NoNG P) (hm : P.follows .mixedOrders = true) {f : FuncId} {fn : Func} {an : Ann} {args : List Value} {w : World} {R : Ending → World → Prop} (hf : P.funcs[f]? = some fn)
    (h : pre) (e : pre = vcFn P an fn args w R) : Calls P f args.toArray w R := calls_of_vc hP hm hf (e ▸ h)
def ngB (P : Program) : Bool := P.funcs.toList.all fun fn => fn.name != "runtime.NumGoroutine"
theorem ngB_ok {P : Program} (h : ngB P = true) : NoNG P := fun f fn hf he => by
  have := List.all_eq_true.1 h fn (by have := Array.mem_of_getElem? hf; simpa using this)
  simp [he] at this

/-! ## Numbers of 64 bits -/
def inI (n : Int) : Prop := -9223372036854775808 ≤ n ∧ n ≤ 9223372036854775807
theorem wrap_in {n : Int} (h : inI n) : IntKind.wrap .i64 n = n := by
  unfold inI at h
  unfold IntKind.wrap
  simp only [IntKind.bits, IntKind.signed]
  simp only [Bool.true_and]
  split <;> simp_all <;> omega
theorem wrap_inI (n : Int) : inI (IntKind.wrap .i64 n) := by
  unfold inI IntKind.wrap
  simp only [IntKind.bits, IntKind.signed]
  simp only [Bool.true_and]
  split <;> simp_all <;> omega
/-! ## A world in which listed variables read as a row says -/
def litVal {H : Type} : DataW H → Value
  | .lit (.int k n) => .int k n
  | .lit (.bool b) => .bool b
  | .lit (.string bs) => .string ⟨bs.toArray⟩
  | _ => .bool false
def aggCells {H : Type} : DataW H → List Value
  | .agg l => l.flatMap fun
    | .agg m => m.map litVal
    | d => [litVal d]
  | d => [litVal d]
def layAll (P : Program) (l : List (String × DataW Unit)) (w : World) : World :=
  { w with heap := l.foldl (fun h x => match P.globalNamed x.1 with
      | some g => h.modify g fun
        | .cells _ t frozen => .cells (aggCells x.2).toArray t frozen
        | o => o
      | none => h) w.heap }
end Go.Vc
