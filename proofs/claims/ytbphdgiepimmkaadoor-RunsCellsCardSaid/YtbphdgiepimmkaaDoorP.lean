import Derived.Test.YtbphdgiepimmkaaDoorLib
set_option linter.all false
namespace Go.Runs
open Go Go.Vc

/-- A run: its length, its block. -/
abbrev Rn := Int × Int
def cellsR (l : List Rn) : List Int := l.flatMap fun r => List.replicate r.1.toNat r.2
def pushR (out : List Rn) (r : Rn) : List Rn :=
  if r.1 < 1 then out else
  match out.getLast? with
  | some q => if q.2 = r.2 then out.dropLast ++ [(q.1 + r.1, q.2)] else out ++ [r]
  | none => out ++ [r]
def ofC (c : List Int) : List Rn := c.foldl (fun o b => pushR o (1, b)) []
def sumR (l : List Rn) : Int := (l.map (·.1)).sum
/-- Each run is of a cell at least, and no two beside each other are of one block. -/
inductive Nm : List Rn → Prop
  | nil : Nm []
  | snoc (l : List Rn) (r : Rn) (h : Nm l) (h1 : 1 ≤ r.1) (h2 : ∀ q, l.getLast? = some q → q.2 ≠ r.2) : Nm (l ++ [r])
theorem push_none {o : List Rn} {r : Rn} (h : r.1 < 1) : pushR o r = o := by unfold pushR; rw [if_pos h]
theorem push_same {l : List Rn} {q r : Rn} (h1 : 1 ≤ r.1) (e : q.2 = r.2) : pushR (l ++ [q]) r = l ++ [(q.1 + r.1, q.2)] := by
  unfold pushR
  have hl : (l ++ [q]).getLast? = some q := by simp
  rw [if_neg (by omega), hl]
  simp [e]
theorem push_new {l : List Rn} {r : Rn} (h1 : 1 ≤ r.1) (h2 : ∀ q, l.getLast? = some q → q.2 ≠ r.2) : pushR l r = l ++ [r] := by
  unfold pushR
  rw [if_neg (by omega)]
  split
  · rename_i q hq
    rw [if_neg (h2 q hq)]
  · rfl
theorem snoc_cases (l : List Rn) : l = [] ∨ ∃ m q, l = m ++ [q] := by
  rcases List.eq_nil_or_concat l with h | ⟨m, q, h⟩
  · exact .inl h
  · exact .inr ⟨m, q, by simpa using h⟩
theorem push_push (o : List Rn) {a c b : Int} (ha : 1 ≤ a) (hc : 1 ≤ c) : pushR (pushR o (a, b)) (c, b) = pushR o (a + c, b) := by
  have hac : 1 ≤ a + c := by omega
  rcases snoc_cases o with rfl | ⟨m, q, rfl⟩
  · rw [push_new (l := []) (r := (a, b)) ha (by simp), push_new (l := []) (r := (a + c, b)) hac (by simp), push_same (q := (a, b)) (r := (c, b)) hc rfl]
  · by_cases e : q.2 = b
    · rw [push_same (r := (a, b)) ha e, push_same (r := (a + c, b)) hac e, push_same (q := (q.1 + a, q.2)) (r := (c, b)) hc e]
      simp [Int.add_assoc]
    · have h2 : ∀ x : Int, ∀ p, (m ++ [q]).getLast? = some p → p.2 ≠ ((x, b) : Rn).2 := by
        intro x p hp
        simp at hp; subst hp; exact e
      rw [push_new (r := (a, b)) ha (h2 a), push_new (r := (a + c, b)) hac (h2 _), push_same (q := (a, b)) (r := (c, b)) hc rfl]
theorem push_rep (o : List Rn) (b : Int) : ∀ n : Nat, (List.replicate n b).foldl (fun o b => pushR o (1, b)) o = pushR o ((n : Int), b)
  | 0 => by rw [push_none (by simp)]; rfl
  | n + 1 => by
      rw [List.replicate_succ', List.foldl_append, push_rep o b n]
      show pushR (pushR o ((n : Int), b)) (1, b) = _
      rcases Nat.eq_zero_or_pos n with rfl | hn
      · rw [push_none (r := (((0 : Nat) : Int), b)) (by simp)]; rfl
      · rw [push_push o (by omega) (by omega)]; rfl
theorem ofC_app (c d : List Int) : ofC (c ++ d) = d.foldl (fun o b => pushR o (1, b)) (ofC c) := by unfold ofC; rw [List.foldl_append]
/-- What is pushed on the runs of cells is the runs of these cells, and the run's. -/
theorem push_ofC (c : List Int) (r : Rn) : pushR (ofC c) r = ofC (c ++ List.replicate r.1.toNat r.2) := by
  rw [ofC_app, push_rep]
  rcases Int.lt_or_le r.1 1 with h | h
  · rw [push_none h, push_none (by show ((r.1.toNat : Nat) : Int) < 1; omega)]
  · rw [show ((r.1.toNat : Nat) : Int) = r.1 from by omega]
theorem Nm.push {o : List Rn} (h : Nm o) (r : Rn) : Nm (pushR o r) := by
  rcases Int.lt_or_le r.1 1 with h1 | h1
  · rw [push_none h1]; exact h
  · cases h with
    | nil => rw [push_new h1 (by simp)]; exact .snoc _ _ .nil h1 (by simp)
    | snoc l q hl hq h2 =>
      by_cases e : q.2 = r.2
      · rw [push_same h1 e]
        exact .snoc _ _ hl (by show 1 ≤ q.1 + r.1; omega) h2
      · have h3 : ∀ p, (l ++ [q]).getLast? = some p → p.2 ≠ r.2 := by
          intro p hp; simp at hp; subst hp; exact e
        rw [push_new h1 h3]
        exact .snoc _ _ (.snoc _ _ hl hq h2) h1 h3
theorem Nm_ofC (c : List Int) : Nm (ofC c) := by
  have : ∀ (c : List Int) (o : List Rn), Nm o → Nm (c.foldl (fun o b => pushR o (1, b)) o) := by
    intro c
    induction c with
    | nil => intro o h; exact h
    | cons b c ih => intro o h; exact ih _ (h.push _)
  exact this c [] .nil
theorem cellsR_app (l m : List Rn) : cellsR (l ++ m) = cellsR l ++ cellsR m := by unfold cellsR; rw [List.flatMap_append]
theorem cellsR_one (r : Rn) : cellsR [r] = List.replicate r.1.toNat r.2 := by simp [cellsR]
theorem Nm.fix {l : List Rn} (h : Nm l) : ofC (cellsR l) = l := by
  induction h with
  | nil => rfl
  | snoc l r hl h1 h2 ih =>
    rw [cellsR_app, cellsR_one, ← push_ofC, ih, push_new h1 h2]
theorem Nm.pos {l : List Rn} (h : Nm l) : ∀ r ∈ l, 1 ≤ r.1 := by
  induction h with
  | nil => simp
  | snoc l r hl h1 h2 ih =>
    intro q hq
    rcases List.mem_append.1 hq with hq | hq
    · exact ih q hq
    · simp at hq; rw [hq]; exact h1
theorem cells_push {o : List Rn} (h : Nm o) (r : Rn) : cellsR (pushR o r) = cellsR o ++ List.replicate r.1.toNat r.2 := by
  rcases Int.lt_or_le r.1 1 with h1 | h1
  · rw [push_none h1, show r.1.toNat = 0 from by omega]; simp
  · cases h with
    | nil => rw [push_new h1 (by simp), cellsR_app, cellsR_one]
    | snoc l q hl hq h2 =>
      by_cases e : q.2 = r.2
      · rw [push_same h1 e, cellsR_app, cellsR_app, cellsR_one, cellsR_one]
        show _ ++ List.replicate (q.1 + r.1).toNat q.2 = _
        rw [show (q.1 + r.1).toNat = q.1.toNat + r.1.toNat from by omega, ← List.replicate_append_replicate, e]
        simp
      · rw [push_new h1 (by intro p hp; simp at hp; subst hp; exact e), cellsR_app, cellsR_one]
theorem cells_ofC (c : List Int) : cellsR (ofC c) = c := by
  have : ∀ (c : List Int) (o : List Rn), Nm o → cellsR (c.foldl (fun o b => pushR o (1, b)) o) = cellsR o ++ c := by
    intro c
    induction c with
    | nil => intro o h; simp
    | cons b c ih => intro o h; rw [List.foldl_cons, ih _ (h.push _), cells_push h]; simp
  rw [ofC, this c [] .nil]; rfl
theorem sumR_app (l m : List Rn) : sumR (l ++ m) = sumR l + sumR m := by simp [sumR]
theorem sumR_cells {l : List Rn} (h : ∀ r ∈ l, 0 ≤ r.1) : sumR l = ((cellsR l).length : Nat) := by
  induction l with
  | nil => rfl
  | cons r l ih =>
    have := ih fun q hq => h q (.tail _ hq)
    have hr := h r (.head _)
    simp only [sumR, List.map_cons, List.sum_cons] at this ⊢
    rw [this]
    simp [cellsR]
    omega
theorem sumR_ofC (c : List Int) : sumR (ofC c) = (c.length : Nat) := by
  rw [sumR_cells fun r hr => by have := (Nm_ofC c).pos r hr; omega, cells_ofC]
theorem Nm.len_le {l : List Rn} (h : Nm l) : l.length ≤ (cellsR l).length := by
  induction h with
  | nil => simp
  | snoc l r hl h1 h2 ih => rw [cellsR_app, cellsR_one]; simp; omega
theorem ofC_len (c : List Int) : (ofC c).length ≤ c.length := by
  have := (Nm_ofC c).len_le
  rwa [cells_ofC] at this
end Go.Runs
namespace Go.Runs
theorem mem_sum {l : List Rn} (h : ∀ r ∈ l, 0 ≤ r.1) {q : Rn} (hq : q ∈ l) : q.1 ≤ sumR l := by
  induction l with
  | nil => cases hq
  | cons r l ih =>
    have hr := h r (.head _)
    have hl : 0 ≤ sumR l := by rw [sumR_cells fun q hq => h q (.tail _ hq)]; omega
    have e : sumR (r :: l) = r.1 + sumR l := by simp [sumR]
    rw [e]
    rcases List.mem_cons.1 hq with rfl | hq
    · omega
    · have := ih (fun q hq => h q (.tail _ hq)) hq; omega
theorem mem_ofC {c : List Int} {q : Rn} (hq : q ∈ ofC c) : 1 ≤ q.1 ∧ q.1 ≤ (c.length : Nat) := by
  have h := (Nm_ofC c).pos
  refine ⟨h q hq, ?_⟩
  rw [← sumR_ofC]
  exact mem_sum (fun r hr => by have := h r hr; omega) hq
/-- The part of cells from a up to b. -/
def seg (c : List Int) (a b : Int) : List Int := (c.take b.toNat).drop a.toNat
theorem seg_snoc (c : List Int) (n : Nat) (x a b : Int) (ha : 0 ≤ a) (hb : 0 ≤ b) :
    seg (c ++ List.replicate n x) a b = seg c a b ++ List.replicate (min b (c.length + n : Nat) - max a (c.length : Nat)).toNat x := by
  unfold seg
  rw [List.take_append, List.drop_append, List.take_replicate, List.drop_replicate, List.length_take]
  congr 2
  omega
theorem seg_all (c : List Int) (n : Int) (h : (c.length : Int) ≤ n) : seg c 0 n = c := by
  unfold seg
  rw [List.take_of_length_le (by omega)]; rfl
end Go.Runs
namespace Go.Runs
/-- Cells of which those from a up to b are x. -/
def fillC (c : List Int) (a b x : Int) : List Int := c.mapIdx fun i y => if a ≤ (i : Int) ∧ (i : Int) < b then x else y
theorem fillC_len (c : List Int) (a b x : Int) : (fillC c a b x).length = c.length := by simp [fillC]
theorem fillC_none (c : List Int) (a b x : Int) (h : min (max b 0) (c.length : Int) ≤ min (max a 0) (c.length : Int)) : fillC c a b x = c := by
  apply List.ext_getElem?
  intro i
  unfold fillC
  rw [List.getElem?_mapIdx]
  rcases Nat.lt_or_ge i c.length with hi | hi
  · rw [List.getElem?_eq_getElem hi]
    show some (if _ then x else _) = _
    rw [if_neg (by omega)]
  · rw [List.getElem?_eq_none hi]; rfl
theorem fillC_seg (c : List Int) (a b x : Int) (h : min (max a 0) (c.length : Int) < min (max b 0) (c.length : Int)) :
    fillC c a b x = seg c 0 (min (max a 0) (c.length : Int)) ++ List.replicate (min (max b 0) (c.length : Int) - min (max a 0) (c.length : Int)).toNat x ++ seg c (min (max b 0) (c.length : Int)) c.length := by
  have h1 : (seg c 0 (min (max a 0) (c.length : Int))).length = (min (max a 0) (c.length : Int)).toNat := by unfold seg; simp; omega
  apply List.ext_getElem?
  intro i
  unfold fillC
  rw [List.getElem?_mapIdx, List.append_assoc]
  rcases Nat.lt_or_ge i c.length with hi | hi
  · rw [List.getElem?_eq_getElem hi]
    show some (if _ then x else _) = _
    rcases Nat.lt_or_ge i (min (max a 0) (c.length : Int)).toNat with hl | hl
    · rw [if_neg (by omega), List.getElem?_append_left (by omega)]
      unfold seg
      rw [List.getElem?_drop, List.getElem?_take]
      simp only [Int.toNat_zero, Nat.zero_add]
      rw [if_pos hl, List.getElem?_eq_getElem hi]
    · rw [List.getElem?_append_right (by omega), h1]
      rcases Nat.lt_or_ge i (min (max b 0) (c.length : Int)).toNat with hm | hm
      · rw [if_pos (by omega), List.getElem?_append_left (by rw [List.length_replicate]; omega), List.getElem?_replicate, if_pos (by omega)]
      · rw [if_neg (by omega), List.getElem?_append_right (by rw [List.length_replicate]; omega), List.length_replicate]
        unfold seg
        rw [List.getElem?_drop, List.getElem?_take, if_pos (by omega)]
        rw [show (min (max b 0) (c.length : Int)).toNat + (i - (min (max a 0) (c.length : Int)).toNat - (min (max b 0) (c.length : Int) - min (max a 0) (c.length : Int)).toNat) = i from by omega]
        rw [List.getElem?_eq_getElem hi]
  · rw [List.getElem?_eq_none hi]
    symm
    rw [Option.map_none, List.getElem?_eq_none]
    simp only [List.length_append, List.length_replicate, h1]
    unfold seg
    simp
    omega
theorem fillC_one (c : List Int) (i x : Int) (h0 : 0 ≤ i) (h1 : i < (c.length : Int)) : fillC c i (i + 1) x = c.set i.toNat x := by
  apply List.ext_getElem?
  intro j
  unfold fillC
  rw [List.getElem?_mapIdx, List.getElem?_set]
  rcases Nat.lt_or_ge j c.length with hj | hj
  · rw [List.getElem?_eq_getElem hj]
    show some (if _ then x else _) = _
    by_cases e : i.toNat = j
    · rw [if_pos (by omega), if_pos e, if_pos (by omega)]
    · rw [if_neg (by omega), if_neg e]
  · rw [List.getElem?_eq_none hj, if_neg (by omega)]; rfl
/-- The cell at i; −1: there is none. -/
def atC (c : List Int) (i : Int) : Int := if i < 0 then -1 else c.getD i.toNat (-1)
theorem atC_out (c : List Int) (i : Int) (h : i < 0 ∨ (c.length : Int) ≤ i) : atC c i = -1 := by
  unfold atC
  split
  · rfl
  · rw [List.getD_eq_getElem?_getD, List.getElem?_eq_none (by omega)]; rfl
theorem atC_in (c d : List Int) (n : Nat) (x i : Int) (h0 : (c.length : Int) ≤ i) (h1 : i < (c.length : Int) + n) : atC (c ++ List.replicate n x ++ d) i = x := by
  unfold atC
  rw [if_neg (by omega), List.getD_eq_getElem?_getD, List.append_assoc, List.getElem?_append_right (by omega), List.getElem?_append_left (by rw [List.length_replicate]; omega), List.getElem?_replicate, if_pos (by omega)]
  rfl
/-- Whether runs may be, of n cells; may: which blocks may be. -/
def mayL (may : Int → Bool) : Option Int → Int → List Rn → Bool
  | _, left, [] => left == 0
  | prev, left, r :: t => if r.1 < 1 ∨ r.1 > left ∨ may r.2 = false ∨ prev = some r.2 then false else mayL may (some r.2) (left - r.1) t
def mayR (may : Int → Bool) (l : List Rn) (n : Int) : Bool := decide (0 < n) && mayL may none n l
theorem mayL_sum {may : Int → Bool} : ∀ {l : List Rn} {prev : Option Int} {left : Int}, mayL may prev left l = true → sumR l = left
  | [], _, left, h => by simp [mayL] at h; rw [h]; rfl
  | r :: t, prev, left, h => by
      unfold mayL at h
      split at h
      · cases h
      · have := mayL_sum h
        simp only [sumR, List.map_cons, List.sum_cons] at this ⊢
        omega
theorem mayL_true {may : Int → Bool} : ∀ {l : List Rn} {prev : Option Int} {left : Int}, (∀ r ∈ l, 1 ≤ r.1 ∧ may r.2 = true) → (∀ i q r, l[i]? = some q → l[i + 1]? = some r → q.2 ≠ r.2) → (∀ r, l.head? = some r → prev ≠ some r.2) → sumR l = left → mayL may prev left l = true
  | [], _, left, _, _, _, h => by simp [mayL, ← h, sumR]
  | r :: t, prev, left, h1, h2, h3, h => by
      have hr := h1 r (.head _)
      have ht : 0 ≤ sumR t := by rw [sumR_cells fun q hq => by have := h1 q (.tail _ hq); omega]; omega
      have e : sumR (r :: t) = r.1 + sumR t := by simp [sumR]
      unfold mayL
      rw [if_neg (by
        have := h3 r rfl
        rintro (h | h | h | h)
        · omega
        · omega
        · rw [hr.2] at h; cases h
        · exact this h)]
      refine mayL_true (fun q hq => h1 q (.tail _ hq)) (fun i q s hq hs => h2 (i + 1) q s (by simpa using hq) (by simpa using hs)) (fun q hq => ?_) (by omega)
      have := h2 0 r q rfl (by cases t <;> simp_all)
      intro e2; exact this (Option.some.inj e2)
theorem Nm.next {l : List Rn} (h : Nm l) : ∀ i q r, l[i]? = some q → l[i + 1]? = some r → q.2 ≠ r.2 := by
  induction h with
  | nil => intro i q r h; simp at h
  | snoc l p hl h1 h2 ih =>
    intro i q r hq hr
    rcases Nat.lt_or_ge (i + 1) l.length with hlt | hge
    · rw [List.getElem?_append_left (by omega)] at hq hr
      exact ih i q r hq hr
    · have hi := (List.getElem?_eq_some_iff.1 hr).1
      simp at hi
      have : i + 1 = l.length := by omega
      rw [List.getElem?_append_left (by omega)] at hq
      rw [List.getElem?_append_right (by omega), this] at hr
      simp at hr; subst hr
      refine h2 q ?_
      rw [List.getLast?_eq_getElem?, show l.length - 1 = i from by omega]
      exact hq
theorem mem_cells {l : List Rn} {r : Rn} (h : r ∈ l) (h1 : 1 ≤ r.1) : r.2 ∈ cellsR l := by
  unfold cellsR
  refine List.mem_flatMap.2 ⟨r, h, ?_⟩
  rw [List.mem_replicate]
  exact ⟨by omega, rfl⟩
theorem mayR_ofC {may : Int → Bool} {c : List Int} (h : ∀ b ∈ c, may b = true) (hc : c ≠ []) : mayR may (ofC c) c.length = true := by
  have hp : 0 < c.length := List.length_pos_iff.2 hc
  unfold mayR
  rw [decide_eq_true (by omega)]
  refine mayL_true (fun r hr => ⟨(mem_ofC hr).1, h _ ?_⟩) (Nm_ofC c).next (fun r _ => by simp) (sumR_ofC c)
  have := mem_cells hr (mem_ofC hr).1
  rwa [cells_ofC] at this
theorem mayR_more {may : Int → Bool} {c : List Int} {n : Int} (h : n ≠ (c.length : Nat)) : mayR may (ofC c) n = false := by
  cases hm : mayR may (ofC c) n with
  | false => rfl
  | true =>
    unfold mayR at hm
    simp only [Bool.and_eq_true] at hm
    have := mayL_sum hm.2
    rw [sumR_ofC] at this
    exact absurd this.symm h
end Go.Runs
namespace Go.Runs
theorem ofC_rep (n : Nat) (x : Int) (h : 1 ≤ n) : ofC (List.replicate n x) = [((n : Int), x)] := by
  rw [ofC, push_rep, push_new (l := []) (r := ((n : Int), x)) (by show (1 : Int) ≤ (n : Int); omega) (by simp)]
  rfl
theorem fillC_all (c : List Int) (n x : Int) (h : (c.length : Int) ≤ n) : fillC c 0 n x = List.replicate c.length x := by
  apply List.ext_getElem?
  intro i
  unfold fillC
  rw [List.getElem?_mapIdx, List.getElem?_replicate]
  rcases Nat.lt_or_ge i c.length with hi | hi
  · rw [List.getElem?_eq_getElem hi, if_pos hi]
    show some (if _ then x else _) = _
    rw [if_pos (by omega)]
  · rw [List.getElem?_eq_none hi, if_neg (by omega)]; rfl
def cntLt (l : List Rn) (k : Int) : Int := sumR (l.filter fun r => decide (0 ≤ r.2) && decide (r.2 < k))
theorem cntLt_succ (l : List Rn) (k : Nat) : cntLt l (k + 1 : Nat) = cntLt l k + sumR (l.filter fun r => r.2 == (k : Int)) := by
  unfold cntLt
  induction l with
  | nil => rfl
  | cons r l ih =>
    simp only [List.filter_cons]
    simp only [sumR] at ih ⊢
    rcases Int.lt_trichotomy r.2 k with h | h | h
    · have e1 : (r.2 == (k : Int)) = false := by simp; omega
      rcases Int.lt_or_le r.2 0 with h0 | h0
      · have e2 : (decide (0 ≤ r.2) && decide (r.2 < ((k + 1 : Nat) : Int))) = false := by simp; omega
        have e3 : (decide (0 ≤ r.2) && decide (r.2 < (k : Int))) = false := by simp; omega
        rw [e1, e2, e3]; simpa using ih
      · have e2 : (decide (0 ≤ r.2) && decide (r.2 < ((k + 1 : Nat) : Int))) = true := by simp; omega
        have e3 : (decide (0 ≤ r.2) && decide (r.2 < (k : Int))) = true := by simp; omega
        rw [e1, e2, e3]; simp only [if_true, List.map_cons, List.sum_cons]; simp at ih ⊢; omega
    · have e1 : (r.2 == (k : Int)) = true := by simp; omega
      have e2 : (decide (0 ≤ r.2) && decide (r.2 < ((k + 1 : Nat) : Int))) = true := by simp; omega
      have e3 : (decide (0 ≤ r.2) && decide (r.2 < (k : Int))) = false := by simp; omega
      rw [e1, e2, e3]; simp only [if_true, List.map_cons, List.sum_cons]; simp at ih ⊢; omega
    · have e1 : (r.2 == (k : Int)) = false := by simp; omega
      have e2 : (decide (0 ≤ r.2) && decide (r.2 < ((k + 1 : Nat) : Int))) = false := by simp; omega
      have e3 : (decide (0 ≤ r.2) && decide (r.2 < (k : Int))) = false := by simp; omega
      rw [e1, e2, e3]; simpa using ih
theorem cntLt_all (l : List Rn) (k : Int) (h : ∀ r ∈ l, 0 ≤ r.2 ∧ r.2 < k) : cntLt l k = sumR l := by
  unfold cntLt
  rw [List.filter_eq_self.2 fun r hr => by have := h r hr; simp; omega]
theorem cntLt_zero (l : List Rn) : cntLt l 0 = 0 := by
  unfold cntLt
  rw [List.filter_eq_nil_iff.2 fun r _ => by simp]; rfl
theorem cntLt_le {l : List Rn} (hl : ∀ r ∈ l, 0 ≤ r.1) (k : Int) : 0 ≤ cntLt l k ∧ cntLt l k ≤ sumR l := by
  unfold cntLt
  induction l with
  | nil => simp [sumR]
  | cons r l ih =>
    have hr := hl r (.head _)
    have := ih fun q hq => hl q (.tail _ hq)
    simp only [List.filter_cons]
    simp only [sumR] at this ⊢
    split
    · simp only [List.map_cons, List.sum_cons]; omega
    · simp only [List.map_cons, List.sum_cons]; omega
theorem atC_get {c : List Int} {i : Int} (h0 : 0 ≤ i) (h1 : i < (c.length : Int)) : c[i.toNat]? = some (atC c i) := by
  unfold atC
  rw [if_neg (by omega), List.getD_eq_getElem?_getD, List.getElem?_eq_getElem (by omega)]; rfl
end Go.Runs
