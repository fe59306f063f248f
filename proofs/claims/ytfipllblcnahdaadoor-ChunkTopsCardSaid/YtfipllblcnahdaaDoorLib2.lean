import Derived.Test.YtfipllblcnahdaaDoorLib
set_option linter.all false
namespace Go.Vc
open Go Go.RowKit

/-! ## Rows of records -/
/-- The slice s reads as rows of k cells each. -/
structure RdK (w : World) (s : Sl) (k : Nat) (rows : List (List Value)) : Prop where
  n : s.n = rows.length
  wd : ∀ r ∈ rows, r.length = k
  rd : ∀ i r, rows[i]? = some r → ∀ j v, r[j]? = some v → ld w (padd s.a (i * k + j)) = some v
theorem RdK.ext {w w' : World} {s : Sl} {k : Nat} {rows : List (List Value)} (h : RdK w s k rows) (he : Ext w w') : RdK w' s k rows :=
  ⟨h.n, h.wd, fun i r hi j v hj => he.ld (h.rd i r hi j v hj)⟩
theorem RdK.isSome {w : World} {s : Sl} {k : Nat} {rows : List (List Value)} (h : RdK w s k rows) (hk : 0 < k) {i : Nat} (hi : i < rows.length) : s.a.isSome = true := by
  have hr : rows[i]? = some rows[i] := List.getElem?_eq_getElem hi
  have hl := h.wd _ (List.getElem_mem hi)
  have h0 : rows[i][0]? = some (rows[i][0]'(by omega)) := List.getElem?_eq_getElem (by omega)
  have := h.rd i _ hr 0 _ h0
  cases hs : s.a with
  | none => rw [hs] at this; simp [ld, padd] at this
  | some a => rfl
theorem RdK.inB {w : World} {s : Sl} {k : Nat} {rows : List (List Value)} (h : RdK w s k rows) (hk : 0 < k) {i : Int} (h0 : 0 ≤ i) (h1 : i < (s.n : Int)) : InB s.a i s.n :=
  ⟨h.isSome hk (i := i.toNat) (by have := h.n; omega), h0, h1⟩
/-- One cell of one row. -/
theorem RdK.at {w : World} {s : Sl} {k : Nat} {rows : List (List Value)} (h : RdK w s k rows) {i : Nat} {r : List Value} (hi : rows[i]? = some r) {j : Nat} {v : Value} (hj : r[j]? = some v) : ld w (padd (padd s.a (i * k)) j) = some v := by
  rw [padd_padd]; exact h.rd i r hi j v hj
theorem LoadL_of {w : World} {p : Option Addr} : ∀ {vs : List Value} {i : Nat}, (∀ j v, vs[j]? = some v → ld w (padd p (i + j)) = some v) → LoadL w p i vs
  | [], _, _ => trivial
  | [v], i, h => by have := h 0 v rfl; simpa [LoadL] using this
  | v :: u :: r, i, h => ⟨by have := h 0 v rfl; simpa using this, LoadL_of (i := i + 1) fun j x hj => by
      have := h (j + 1) x (by simpa using hj)
      rwa [show i + (j + 1) = i + 1 + j from by omega] at this⟩
theorem RdK.loadL {w : World} {s : Sl} {k : Nat} {rows : List (List Value)} (h : RdK w s k rows) {i : Nat} {r : List Value} (hi : rows[i]? = some r) : LoadL w (padd s.a (i * k)) 0 r :=
  LoadL_of fun j v hj => by rw [Nat.zero_add]; exact h.at hi hj
theorem flatten_get {k : Nat} : ∀ {rows : List (List Value)}, (∀ r ∈ rows, r.length = k) → ∀ {i : Nat} {r : List Value}, rows[i]? = some r → ∀ {j : Nat}, j < k → rows.flatten[i * k + j]? = r[j]?
  | [], _, i, r, hi, j, _ => by simp at hi
  | a :: rows, h, 0, r, hi, j, hj => by
      simp at hi; subst hi
      have := h a (.head _)
      rw [List.flatten_cons, List.getElem?_append_left (by omega)]
      simp
  | a :: rows, h, i + 1, r, hi, j, hj => by
      have ha := h a (.head _)
      rw [List.flatten_cons, List.getElem?_append_right (by rw [ha, Nat.succ_mul]; omega)]
      rw [show (i + 1) * k + j - a.length = i * k + j from by rw [ha, Nat.succ_mul]; omega]
      exact flatten_get (fun r hr => h r (.tail _ hr)) (by simpa using hi) hj
theorem flatten_len {k : Nat} : ∀ {rows : List (List Value)}, (∀ r ∈ rows, r.length = k) → rows.flatten.length = rows.length * k
  | [], _ => by simp
  | a :: rows, h => by
      rw [List.flatten_cons, List.length_append, flatten_len (fun r hr => h r (.tail _ hr)), h a (.head _), List.length_cons, Nat.succ_mul, Nat.add_comm]
/-- An owned slice of rows. -/
structure OwnK (B E k : Nat) (w : World) (s : Sl) (rows : List (List Value)) : Prop where
  own : Own B E k w s rows.flatten
  wd : ∀ r ∈ rows, r.length = k
theorem OwnK.rd {B E k : Nat} {w : World} {s : Sl} {rows : List (List Value)} (h : OwnK B E k w s rows) (hk : 0 < k) : RdK w s k rows := by
  refine ⟨?_, h.wd, fun i r hi j v hj => ?_⟩
  · have h1 := h.own.len
    rw [flatten_len h.wd] at h1
    exact (Nat.eq_of_mul_eq_mul_right hk h1).symm
  · have hl := h.wd r (List.mem_of_getElem? hi)
    have hjk : j < k := by rw [← hl]; exact (List.getElem?_eq_some_iff.1 hj).1
    exact h.own.rd _ _ ((flatten_get h.wd hi hjk).trans hj)
theorem OwnK.nil {B E k : Nat} {w : World} : OwnK B E k w ⟨none, 0, 0⟩ [] := ⟨.nil, fun _ h => by cases h⟩
theorem OwnK.ext {B E k : Nat} {w w' : World} {s : Sl} {rows : List (List Value)} (h : OwnK B E k w s rows) (he : Ext w w') : OwnK B E k w' s rows := ⟨h.own.ext he, h.wd⟩
theorem OwnK.keep {B E k : Nat} {w w' : World} {s : Sl} {rows : List (List Value)} (h : OwnK B E k w s rows) (hk : ∀ g, s.blk = some g → w'.heap[g]? = w.heap[g]?) : OwnK B E k w' s rows := ⟨h.own.keep hk, h.wd⟩
theorem OwnK.low {B B' E k : Nat} {w : World} {s : Sl} {rows : List (List Value)} (h : OwnK B E k w s rows) (hb : B' ≤ B) : OwnK B' E k w s rows := by
  refine ⟨?_, h.wd⟩
  have ho := h.own
  generalize rows.flatten = xs at ho
  cases ho with
  | nil => exact .nil
  | row g n c cs hg hr hc hn => exact .row g n c cs (by omega) hr hc hn
/-- append of one row behind an owned slice of rows. -/
theorem OwnK.append {B E k bytes : Nat} {w : World} {s : Sl} {rows : List (List Value)} (h : OwnK B E k w s rows) {news : List Value} (hB : B ≤ w.heap.size) (hl : news.length = k) (h1 : One news)
    (hb : (s.n + 1) * bytes ≤ 140737488355328) (hb' : s.n + 1 ≤ 9223372036854775807) :
    AppPre bytes k w s 1 news ∧ ∀ (s' : Sl) (w' : World), AppRes E k w s 1 news s' w' →
      OwnK B E k w' s' (rows ++ [news]) ∧ s'.n = s.n + 1 ∧ Below B w w' ∧ (∀ j, s.blk ≠ some j → j < w.heap.size → w'.heap[j]? = w.heap[j]?) ∧ (s'.blk = s.blk ∨ s'.blk = some w.heap.size) := by
  obtain ⟨hp, hr⟩ := h.own.append (bytes := bytes) (m := 1) (news := news) hB (by rw [hl, Nat.one_mul]) h1 hb hb'
  refine ⟨hp, fun s' w' hres => ?_⟩
  obtain ⟨ho, hn, hx, hk, hbk⟩ := hr s' w' hres
  refine ⟨⟨by rw [List.flatten_append]; simpa using ho, fun r hr => ?_⟩, hn, hx, hk, hbk⟩
  rcases List.mem_append.1 hr with hr | hr
  · exact h.wd r hr
  · simp at hr; rw [hr]; exact hl
/-- One cell of an owned slice is written. -/
theorem Own.set {B E size : Nat} {w : World} {s : Sl} {xs : List Value} (h : Own B E size w s xs) {m : Nat} {v : Value} (hm : m < xs.length) (hv : v.oneCell' = true) :
    (padd s.a m).isSome = true ∧ Wr w (padd s.a m) 1 ∧ Own B E size (setP w (padd s.a m) [v]) s (xs.set m v) ∧ (∀ j, s.blk ≠ some j → (setP w (padd s.a m) [v]).heap[j]? = w.heap[j]?) := by
  cases h with
  | nil => simp at hm
  | row g n c cs hg hr hc hn =>
    rw [List.length_take] at hm
    rw [padd_row]
    have h1 : One [v] := by intro u hu; simp at hu; subst hu; exact hv
    have hs := hr.setP (o := 0 + m) (vs := [v]) (by simp; omega) h1
    refine ⟨rfl, hr.wr (by omega), ?_, fun j hj => ?_⟩
    · rw [← List.take_set]
      rw [hs]
      refine .row g n c _ hg ?_ (by simp [hc]) hn
      have e : putCells cs (0 + m) [v] = cs.set m v := by simp [putCells]
      rw [e]
      exact hr.set (cs.set m v)
    · rw [hs]
      exact setRow_other _ _ _ _ (fun e => hj (by rw [e]; rfl))
end Go.Vc
namespace Go.Vc
open Go Go.RowKit
theorem Below.setP {B : Nat} {a b : World} (h : Below B a b) {p : Option Addr} {vs : List Value} (hp : ∀ x, p = some x → B ≤ x.block) : Below B a (setP b p vs) := by
  cases p with
  | none => exact h
  | some x =>
    have hx := hp x rfl
    show Below B a (setCs b x 0 vs)
    have key : ∀ (vs : List Value) (i : Nat) (b : World), Below B a b → Below B a (setCs b x i vs) := by
      intro vs
      induction vs with
      | nil => intro i b h; exact h
      | cons v r ih =>
        intro i b h
        refine ih _ _ (Below.setCell h ?_ _)
        unfold Addr.add; split <;> exact hx
    exact key vs 0 b h
theorem one_i (k : IntKind) (a : Int) : One [.int k a] := by intro v hv; simp at hv; subst hv; rfl
theorem one_ii (k k' : IntKind) (a b : Int) : One [.int k a, .int k' b] := by
  intro v hv; simp at hv
  rcases hv with rfl | rfl <;> rfl
/-- A value laid in a new block, and appended as one row. -/
theorem OwnK.app1 {B E k bytes : Nat} {w : World} {s : Sl} {rows : List (List Value)} (h : OwnK B E k w s rows) {news : List Value} (o : Obj) (hB : B ≤ w.heap.size) (hl : news.length = k) (h1 : One news)
    (hb : (s.n + 1) * bytes ≤ 140737488355328) (hb' : s.n + 1 ≤ 9223372036854775807) :
    AppPre bytes k (w.alloc o) s 1 news ∧ ∀ (s' : Sl) (w' : World), AppRes E k (w.alloc o) s 1 news s' w' →
      w'.heap[w.heap.size]? = (w.alloc o).heap[w.heap.size]? ∧ OwnK B E k w' s' (rows ++ [news]) ∧ s'.n = s.n + 1 ∧ Below B w w' ∧ (∀ j, s.blk ≠ some j → j < w.heap.size → w'.heap[j]? = w.heap[j]?) ∧ (s'.blk = s.blk ∨ s'.blk = some (w.heap.size + 1)) := by
  have xa := Ext.al w o
  obtain ⟨hp, hr⟩ := (h.ext xa).append (bytes := bytes) (news := news) (Nat.le_trans hB xa.size) hl h1 hb hb'
  refine ⟨hp, fun s' w' hres => ?_⟩
  obtain ⟨ho, hn, hx, hk, hbk⟩ := hr s' w' hres
  have hz : (w.alloc o).heap.size = w.heap.size + 1 := by simp
  refine ⟨hk _ (fun hb => absurd (h.own.lt hb).2 (Nat.lt_irrefl _)) (by simp), ho, hn, (Below.mono xa hB).trans hx, fun j hj hlt => ?_, by rw [← hz]; exact hbk⟩
  rw [hk j hj (by omega)]
  exact xa.heap hlt
/-- A cell of an owned slice of rows is written. -/
theorem OwnK.set {B E k : Nat} {w : World} {s : Sl} {rows : List (List Value)} (h : OwnK B E k w s rows) {i j : Nat} {r : List Value} {v : Value} (hi : rows[i]? = some r) (hj : j < k) (hv : v.oneCell' = true) (hB : B ≤ w.heap.size) :
    (padd (padd s.a (i * k)) j).isSome = true ∧ Wr w (padd (padd s.a (i * k)) j) 1 ∧ OwnK B E k (setP w (padd (padd s.a (i * k)) j) [v]) s (rows.set i (r.set j v)) ∧
      Below B w (setP w (padd (padd s.a (i * k)) j) [v]) ∧ (∀ m, s.blk ≠ some m → (setP w (padd (padd s.a (i * k)) j) [v]).heap[m]? = w.heap[m]?) := by
  have hlen := flatten_len h.wd
  have hil : i < rows.length := (List.getElem?_eq_some_iff.1 hi).1
  have hm : i * k + j < rows.flatten.length := by
    rw [hlen]
    have : (i + 1) * k ≤ rows.length * k := Nat.mul_le_mul_right _ hil
    rw [Nat.succ_mul] at this
    omega
  obtain ⟨h1, h2, h3, h4⟩ := h.own.set (v := v) hm hv
  rw [padd_padd]
  refine ⟨h1, h2, ⟨?_, fun q hq => ?_⟩, ?_, h4⟩
  · have e : (rows.set i (r.set j v)).flatten = rows.flatten.set (i * k + j) v := by
      have hw := h.wd
      clear h h1 h2 h3 h4 hm hlen hv
      induction rows generalizing i with
      | nil => simp at hi
      | cons a rows ih =>
        have ha := hw a (.head _)
        cases i with
        | zero =>
          simp at hi; subst hi
          simp only [List.set_cons_zero, List.flatten_cons, Nat.zero_mul, Nat.zero_add]
          rw [List.set_append_left _ _ (by omega)]
        | succ i =>
          simp only [List.set_cons_succ, List.flatten_cons]
          rw [List.set_append_right _ _ (by rw [ha, Nat.succ_mul]; omega), show (i + 1) * k + j - a.length = i * k + j from by rw [ha, Nat.succ_mul]; omega]
          rw [ih (by simpa using hi) (by simpa using hil) (fun r hr => hw r (.tail _ hr))]
    rw [e]; exact h3
  · rcases List.mem_or_eq_of_mem_set hq with hq | rfl
    · exact h.wd q hq
    · rw [List.length_set]; exact h.wd r (List.mem_of_getElem? hi)
  · refine Below.setP (Below.refl _ _) fun x hx => ?_
    have ho := h.own
    generalize rows.flatten = xs at ho
    cases ho with
    | nil => simp [padd] at hx
    | row g n c cs hg hr hc hn => simp [padd, add_loc] at hx; subst hx; exact hg
end Go.Vc
namespace Go.Vc
open Go Go.RowKit
theorem AppRes_zero {E size : Nat} {w w' : World} {a : Option Addr} {n : Nat} {news : List Value} {s' : Sl} (h : AppRes E size w ⟨a, 0, 0⟩ n news s' w') (hl : news.length = n * size) {j : Nat} (hj : j < w.heap.size) : w'.heap[j]? = w.heap[j]? := by
  cases h with
  | fits hf =>
    have : n = 0 := by simp at hf; omega
    subst this
    have : news = [] := List.eq_nil_of_length_eq_zero (by omega)
    subst this
    cases hp : padd a (0 * size) with
    | none => simp [hp, Go.Vc.setP]
    | some x => simp only [hp, Go.Vc.setP]; rfl
  | grows hf olds rest cap h1 h2 h3 h4 => exact ((Ext.dr w).tr (Ext.al _ _)).heap hj
theorem RdK.flat {w : World} {s : Sl} {k : Nat} {rows : List (List Value)} (h : RdK w s k rows) (hk : 0 < k) : Rd w s.a rows.flatten := by
  intro i v hi
  have hil : i < rows.flatten.length := (List.getElem?_eq_some_iff.1 hi).1
  rw [flatten_len h.wd] at hil
  have hik : i / k < rows.length := Nat.div_lt_of_lt_mul (by rw [Nat.mul_comm]; exact hil)
  have hr : rows[i / k]? = some rows[i / k] := List.getElem?_eq_getElem hik
  have hm : i % k < k := Nat.mod_lt _ hk
  have e : i / k * k + i % k = i := by rw [Nat.mul_comm]; exact Nat.div_add_mod i k
  have := flatten_get h.wd hr hm
  rw [e, hi] at this
  have := h.rd _ _ hr _ v this.symm
  rwa [e] at this
theorem One_flatten {rows : List (List Value)} (h : ∀ r ∈ rows, One r) : One rows.flatten := by
  intro v hv
  obtain ⟨r, hr, hvr⟩ := List.mem_flatten.1 hv
  exact h r hr v hvr
end Go.Vc
namespace Go.Vc
open Go Go.RowKit
theorem putCells_take : ∀ (vs cs : List Value) (off N : Nat), (putCells cs off vs).take N = putCells (cs.take N) off vs
  | [], _, _, _ => rfl
  | v :: r, cs, off, N => by
    show (putCells (cs.set off v) (off + 1) r).take N = putCells ((cs.take N).set off v) (off + 1) r
    rw [putCells_take, List.take_set]
theorem putCells_right (a : List Value) : ∀ (vs b : List Value) (o : Nat), putCells (a ++ b) (a.length + o) vs = a ++ putCells b o vs
  | [], _, _ => rfl
  | v :: r, b, o => by
    show putCells ((a ++ b).set (a.length + o) v) (a.length + o + 1) r = a ++ putCells (b.set o v) (o + 1) r
    rw [List.set_append_right _ _ (by omega), Nat.add_sub_cancel_left, Nat.add_assoc]
    exact putCells_right a r _ _
theorem Own.put {B E size : Nat} {w : World} {s : Sl} {xs : List Value} (h : Own B E size w s xs) {m : Nat} {vs : List Value} (hm : m + vs.length ≤ xs.length) (hx : 0 < xs.length) (hv : One vs) :
    (padd s.a m).isSome = true ∧ Wr w (padd s.a m) vs.length ∧ Own B E size (setP w (padd s.a m) vs) s (putCells xs m vs) ∧ (∀ j, s.blk ≠ some j → (setP w (padd s.a m) vs).heap[j]? = w.heap[j]?) := by
  cases h with
  | nil => simp at hx
  | row g n c cs hg hr hc hn =>
    rw [List.length_take] at hm
    rw [padd_row]
    have hs := hr.setP (o := 0 + m) (vs := vs) (by omega) hv
    refine ⟨rfl, hr.wr (by omega), ?_, fun j hj => ?_⟩
    · rw [← putCells_take, hs, Nat.zero_add]
      exact .row g n c _ hg (hr.set _) (by rw [Go.Vc.putCells_length, hc]) hn
    · rw [hs]
      exact setRow_other _ _ _ _ (fun e => hj (by rw [e]; rfl))
/-- A whole row of an owned slice of rows is written. -/
theorem OwnK.put {B E k : Nat} {w : World} {s : Sl} {rows : List (List Value)} (h : OwnK B E k w s rows) {i : Nat} {r : List Value} (hi : i < rows.length) (hk : 0 < k) (hr : r.length = k) (hv : One r) :
    (padd s.a (i * k)).isSome = true ∧ Wr w (padd s.a (i * k)) k ∧ OwnK B E k (setP w (padd s.a (i * k)) r) s (rows.set i r) ∧
      Below B w (setP w (padd s.a (i * k)) r) ∧ (∀ m, s.blk ≠ some m → (setP w (padd s.a (i * k)) r).heap[m]? = w.heap[m]?) := by
  have hlen := flatten_len h.wd
  have h1 : (i + 1) * k ≤ rows.length * k := Nat.mul_le_mul_right _ hi
  rw [Nat.succ_mul] at h1
  obtain ⟨p1, p2, p3, p4⟩ := h.own.put (m := i * k) (vs := r) (by omega) (by omega) hv
  rw [hr] at p2
  refine ⟨p1, p2, ⟨?_, fun q hq => ?_⟩, ?_, p4⟩
  · have e : (rows.set i r).flatten = putCells rows.flatten (i * k) r := by
      have hw := h.wd
      clear h p1 p2 p3 p4 hlen h1
      induction rows generalizing i with
      | nil => simp at hi
      | cons a rows ih =>
        have ha := hw a (.head _)
        cases i with
        | zero =>
          simp only [List.set_cons_zero, List.flatten_cons, Nat.zero_mul]
          rw [putCells_eq _ _ _ (by rw [List.length_append]; omega), hr, Nat.zero_add, List.drop_left' ha]
          simp
        | succ i =>
          simp only [List.set_cons_succ, List.flatten_cons]
          rw [show (i + 1) * k = a.length + i * k from by rw [ha, Nat.succ_mul]; omega, putCells_right]
          rw [ih (by simpa using hi) (fun r hr => hw r (.tail _ hr))]
    rw [e]; exact p3
  · rcases List.mem_or_eq_of_mem_set hq with hq | rfl
    · exact h.wd q hq
    · exact hr
  · refine Below.setP (Below.refl _ _) fun x hx => ?_
    have ho := h.own
    generalize rows.flatten = xs at ho
    cases ho with
    | nil => simp [padd] at hx
    | row g n c cs hg hr hc hn => simp [padd, add_loc] at hx; subst hx; exact hg
theorem padd_slBase (a : Option Addr) (m size j : Nat) : padd (slBase a 0 m size) j = padd a j := by
  unfold slBase
  split
  · rfl
  · show padd (padd a (0 * size)) j = _
    rw [padd_padd]; simp
theorem RdK.cut {w : World} {s : Sl} {k : Nat} {rows : List (List Value)} (h : RdK w s k rows) {m c' c'' : Nat} (hm : m ≤ rows.length) : RdK w ⟨slBase s.a 0 c' k, m, c''⟩ k (rows.take m) := by
  refine ⟨by simp; omega, fun r hr => h.wd r (List.mem_of_mem_take hr), fun i r hi j v hj => ?_⟩
  show ld w (padd (slBase s.a 0 c' k) _) = _
  rw [padd_slBase]
  rw [List.getElem?_take] at hi
  split at hi
  · exact h.rd i r hi j v hj
  · cases hi
end Go.Vc
namespace Go.Vc
open Go Go.RowKit
/-- Rows appended behind an owned slice of rows. -/
theorem OwnK.appN {B E k bytes : Nat} {w : World} {s : Sl} {rows more : List (List Value)} (h : OwnK B E k w s rows) (hB : B ≤ w.heap.size) (hl : ∀ r ∈ more, r.length = k) (h1 : ∀ r ∈ more, One r)
    (hb : (s.n + more.length) * bytes ≤ 140737488355328) (hb' : s.n + more.length ≤ 9223372036854775807) :
    AppPre bytes k w s more.length more.flatten ∧ ∀ (s' : Sl) (w' : World), AppRes E k w s more.length more.flatten s' w' →
      OwnK B E k w' s' (rows ++ more) ∧ s'.n = s.n + more.length ∧ Below B w w' ∧ (∀ j, s.blk ≠ some j → j < w.heap.size → w'.heap[j]? = w.heap[j]?) ∧ (s'.blk = s.blk ∨ s'.blk = some w.heap.size) := by
  obtain ⟨hp, hr⟩ := h.own.append (bytes := bytes) (m := more.length) (news := more.flatten) hB (flatten_len hl) (One_flatten h1) hb hb'
  refine ⟨hp, fun s' w' hres => ?_⟩
  obtain ⟨ho, hn, hx, hk, hbk⟩ := hr s' w' hres
  refine ⟨⟨by rw [List.flatten_append]; exact ho, fun r hr => ?_⟩, hn, hx, hk, hbk⟩
  rcases List.mem_append.1 hr with hr | hr
  · exact h.wd r hr
  · exact hl r hr
end Go.Vc
namespace Go.Vc
open Go Go.RowKit
/-- A slice's rest, from the row l on. -/
theorem RdK.rest {w : World} {s : Sl} {k : Nat} {rows : List (List Value)} (h : RdK w s k rows) {l m n' c' : Nat} (hn : n' = rows.length - l) (hm : m = l → rows.length ≤ l) : RdK w ⟨slBase s.a l m k, n', c'⟩ k (rows.drop l) := by
  refine ⟨by simpa using hn, fun r hr => h.wd r (List.mem_of_mem_drop hr), fun i r hi j v hj => ?_⟩
  rw [List.getElem?_drop] at hi
  show ld w (padd (slBase s.a l m k) _) = _
  unfold slBase
  split
  · rename_i e
    have := hm e
    rw [List.getElem?_eq_none (by omega)] at hi; cases hi
  · show ld w (padd (padd s.a (l * k)) _) = _
    rw [padd_padd]
    have := h.rd (l + i) r hi j v hj
    rwa [Nat.add_mul, Nat.add_assoc] at this
end Go.Vc
