import Derived.Test.YtbphdgiepimmkaaLib
set_option linter.all false
namespace Go.Que
open Go Go.Vc

abbrev Cl := Int × Int × Int
abbrev It := Int × Cl
/-- A cell's value; an item's cells. -/
def cv (c : Cl) : Value := .agg #[.int .i64 c.1, .int .i64 c.2.1, .int .i64 c.2.2]
def tv (t : Int) : Value := .int .i64 t
abbrev clv (c : Cl) : List Value := [.int .i64 c.1, .int .i64 c.2.1, .int .i64 c.2.2]
abbrev itv (x : It) : List Value := [.int .i64 x.1, .int .i64 x.2.1, .int .i64 x.2.2.1, .int .i64 x.2.2.2]
theorem cv_inj {a b : Cl} (h : cv a = cv b) : a = b := by
  unfold cv at h
  obtain ⟨a1, a2, a3⟩ := a
  obtain ⟨b1, b2, b3⟩ := b
  simp at h
  obtain ⟨rfl, rfl, rfl⟩ := h
  rfl
structure QS where
  room : Int
  lost : Int
  l : List It
def qdrop (l : List It) (c : Cl) : List It := l.filter fun x => x.2 != c
def qins (l : List It) (x : It) : List It := l.takeWhile (fun y => y.1 ≤ x.1) ++ x :: l.dropWhile (fun y => y.1 ≤ x.1)
def qtick (l : List It) (c : Cl) : Option Int := (l.find? fun x => x.2 == c).map (·.1)
def qadd (q : QS) (c : Cl) (t : Int) : QS × Bool :=
  match qtick q.l c with
  | some was => if was ≤ t then (q, false) else ({ q with l := qins (qdrop q.l c) (t, c) }, true)
  | none => if (q.l.length : Int) ≥ q.room then ({ q with lost := q.lost + 1 }, false) else ({ q with l := qins q.l (t, c) }, true)
def qcount (l : List It) (now many : Int) : Nat := min (l.takeWhile fun y => y.1 ≤ now).length many.toNat
def qdue (q : QS) (now many : Int) : QS × List Cl := ({ q with l := q.l.drop (qcount q.l now many) }, (q.l.take (qcount q.l now many)).map (·.2))
structure QOk (q : QS) : Prop where
  room : 1 ≤ q.room ∧ q.room ≤ 4096
  len : (q.l.length : Int) ≤ q.room
  sorted : q.l.Pairwise fun a b => a.1 ≤ b.1
  nodup : (q.l.map (·.2)).Nodup
theorem qdrop_sub (l : List It) (c : Cl) : (qdrop l c).Sublist l := List.filter_sublist
theorem qtick_some {l : List It} {c : Cl} {t : Int} (h : qtick l c = some t) : (t, c) ∈ l := by
  unfold qtick at h
  cases hf : l.find? (fun x => x.2 == c) with
  | none => rw [hf] at h; cases h
  | some x =>
    rw [hf] at h
    have h1 := List.find?_some hf
    have h2 := List.mem_of_find?_eq_some hf
    obtain ⟨a, b⟩ := x
    simp at h h1
    subst h; subst h1; exact h2
theorem qtick_none {l : List It} {c : Cl} (h : qtick l c = none) : ∀ x ∈ l, x.2 ≠ c := by
  unfold qtick at h
  rw [Option.map_eq_none_iff, List.find?_eq_none] at h
  intro x hx e
  exact h x hx (by simp [e])
theorem qtick_mem {l : List It} (hn : (l.map (·.2)).Nodup) {c : Cl} {t : Int} (h : (t, c) ∈ l) : qtick l c = some t := by
  cases hq : qtick l c with
  | none => exact absurd rfl (qtick_none hq _ h)
  | some u =>
    have := nodup_inj hn (qtick_some hq) h rfl
    cases this; rfl
theorem sorted_le {l : List It} (h : l.Pairwise fun a b => a.1 ≤ b.1) (t : Int) : (∀ y ∈ l.takeWhile (fun y => y.1 ≤ t), y.1 ≤ t) ∧ (∀ y ∈ l.dropWhile (fun y => y.1 ≤ t), t < y.1) := by
  induction l with
  | nil => simp
  | cons a l ih =>
    rw [List.pairwise_cons] at h
    by_cases ha : a.1 ≤ t
    · rw [List.takeWhile_cons_of_pos (by simpa using ha), List.dropWhile_cons_of_pos (by simpa using ha)]
      obtain ⟨i1, i2⟩ := ih h.2
      refine ⟨fun y hy => ?_, i2⟩
      rcases List.mem_cons.1 hy with rfl | hy
      · exact ha
      · exact i1 y hy
    · rw [List.takeWhile_cons_of_neg (by simpa using ha), List.dropWhile_cons_of_neg (by simpa using ha)]
      refine ⟨by simp, fun y hy => ?_⟩
      rcases List.mem_cons.1 hy with rfl | hy
      · omega
      · have := h.1 y hy; omega
theorem takeWhile_at {l : List It} (h : l.Pairwise fun a b => a.1 ≤ b.1) (t : Int) {i : Nat} {y : It} (hi : l[i]? = some y) : i < (l.takeWhile (fun y => y.1 ≤ t)).length ↔ y.1 ≤ t := by
  have hs := sorted_le h t
  have e := List.takeWhile_append_dropWhile (p := fun y : It => decide (y.1 ≤ t)) (l := l)
  constructor
  · intro hlt
    rw [← e, List.getElem?_append_left hlt] at hi
    exact hs.1 y (List.mem_of_getElem? hi)
  · intro hle
    rcases Nat.lt_or_ge i (l.takeWhile (fun y => y.1 ≤ t)).length with hlt | hge
    · exact hlt
    · rw [← e, List.getElem?_append_right hge] at hi
      have := hs.2 y (List.mem_of_getElem? hi)
      omega
theorem qins_eq (l : List It) (x : It) : l.take (l.takeWhile fun y => decide (y.1 ≤ x.1)).length ++ x :: l.drop (l.takeWhile fun y => decide (y.1 ≤ x.1)).length = qins l x := by
  have h : ∀ (a b l : List It), a ++ b = l → l.take a.length ++ x :: l.drop a.length = a ++ x :: b := by rintro a b _ rfl; simp
  exact h _ _ _ (List.takeWhile_append_dropWhile (p := fun y : It => decide (y.1 ≤ x.1)) (l := l))
theorem qins_len (l : List It) (x : It) : (qins l x).length = l.length + 1 := by
  have e := congrArg List.length (List.takeWhile_append_dropWhile (p := fun y : It => decide (y.1 ≤ x.1)) (l := l))
  unfold qins
  simp only [List.length_append, List.length_cons] at e ⊢
  omega
theorem qins_mem (l : List It) (x y : It) : y ∈ qins l x ↔ y = x ∨ y ∈ l := by
  unfold qins
  conv => rhs; rw [← List.takeWhile_append_dropWhile (p := fun y : It => decide (y.1 ≤ x.1)) (l := l)]
  simp only [List.mem_append, List.mem_cons]
  constructor
  · rintro (h | h | h)
    · exact .inr (.inl h)
    · exact .inl h
    · exact .inr (.inr h)
  · rintro (h | h | h)
    · exact .inr (.inl h)
    · exact .inl h
    · exact .inr (.inr h)
theorem qins_sorted {l : List It} (h : l.Pairwise fun a b => a.1 ≤ b.1) (x : It) : (qins l x).Pairwise fun a b => a.1 ≤ b.1 := by
  have hs := sorted_le h x.1
  have e := List.takeWhile_append_dropWhile (p := fun y : It => decide (y.1 ≤ x.1)) (l := l)
  unfold qins
  rw [← e, List.pairwise_append] at h
  rw [List.pairwise_append]
  refine ⟨h.1, List.pairwise_cons.2 ⟨fun y hy => by have := hs.2 y hy; omega, h.2.1⟩, fun a ha b hb => ?_⟩
  rcases List.mem_cons.1 hb with rfl | hb
  · exact hs.1 a ha
  · exact h.2.2 a ha b hb
theorem qins_nodup {l : List It} (h : (l.map (·.2)).Nodup) {x : It} (hx : ∀ y ∈ l, y.2 ≠ x.2) : ((qins l x).map (·.2)).Nodup := by
  have e := List.takeWhile_append_dropWhile (p := fun y : It => decide (y.1 ≤ x.1)) (l := l)
  unfold qins
  have hx' : ∀ y ∈ l.takeWhile (fun y => y.1 ≤ x.1) ++ l.dropWhile (fun y => y.1 ≤ x.1), y.2 ≠ x.2 := by rw [e]; exact hx
  rw [← e, List.map_append, List.nodup_append] at h
  rw [List.map_append, List.map_cons, List.nodup_append]
  refine ⟨h.1, List.nodup_cons.2 ⟨fun hm => ?_, h.2.1⟩, fun a ha b hb => ?_⟩
  · obtain ⟨y, hy, e⟩ := List.mem_map.1 hm
    exact hx' y (List.mem_append_right _ hy) e
  · rcases List.mem_cons.1 hb with rfl | hb
    · obtain ⟨y, hy, rfl⟩ := List.mem_map.1 ha
      exact hx' y (List.mem_append_left _ hy)
    · exact h.2.2 a ha b hb
theorem QOk.add {q : QS} (h : QOk q) (c : Cl) (t : Int) : QOk (qadd q c t).1 := by
  unfold qadd
  split
  · rename_i was hw
    split
    · exact h
    · have hsub := qdrop_sub q.l c
      have hlt : (qdrop q.l c).length < q.l.length := by
        have hm := qtick_some hw
        have : (qdrop q.l c).length ≠ q.l.length := fun e => by
          have := hsub.eq_of_length e
          rw [← this] at hm
          unfold qdrop at hm
          simp at hm
        have := hsub.length_le
        omega
      have := h.len
      exact ⟨h.room, by rw [qins_len]; show ((_ : Nat) : Int) ≤ q.room; omega, qins_sorted (h.sorted.sublist hsub) _, qins_nodup ((hsub.map _).nodup h.nodup) (fun y hy => by
        unfold qdrop at hy
        simp at hy
        exact hy.2)⟩
  · rename_i hn
    split
    · exact ⟨h.room, h.len, h.sorted, h.nodup⟩
    · exact ⟨h.room, by rw [qins_len]; show ((_ : Nat) : Int) ≤ q.room; omega, qins_sorted h.sorted _, qins_nodup h.nodup (qtick_none hn)⟩
theorem QOk.drop {q : QS} (h : QOk q) (c : Cl) : QOk { q with l := qdrop q.l c } := by
  have hsub := qdrop_sub q.l c
  have := hsub.length_le
  have := h.len
  exact ⟨h.room, by show ((qdrop q.l c).length : Int) ≤ q.room; omega, h.sorted.sublist hsub, (hsub.map _).nodup h.nodup⟩
theorem QOk.due {q : QS} (h : QOk q) (now many : Int) : QOk (qdue q now many).1 := by
  have hsub : (q.l.drop (qcount q.l now many)).Sublist q.l := List.drop_sublist _ _
  have := hsub.length_le
  have := h.len
  exact ⟨h.room, by show ((q.l.drop (qcount q.l now many)).length : Int) ≤ q.room; omega, h.sorted.sublist hsub, (hsub.map _).nodup h.nodup⟩
theorem qadd_lost (q : QS) (c : Cl) (t : Int) : q.lost ≤ (qadd q c t).1.lost ∧ (qadd q c t).1.lost ≤ q.lost + 1 := by
  unfold qadd
  split
  · split <;> exact ⟨Int.le_refl _, by show q.lost ≤ q.lost + 1; omega⟩
  · split
    · exact ⟨by show q.lost ≤ q.lost + 1; omega, Int.le_refl _⟩
    · exact ⟨Int.le_refl _, by show q.lost ≤ q.lost + 1; omega⟩
def qput (q : QS) : List It → QS × Nat
  | [] => (q, 0)
  | x :: l => ((qput (qadd q x.2 x.1).1 l).1, (if (qadd q x.2 x.1).2 then 1 else 0) + (qput (qadd q x.2 x.1).1 l).2)
theorem QOk.put {q : QS} (h : QOk q) : ∀ (l : List It), QOk (qput q l).1
  | [] => h
  | x :: l => QOk.put (h.add x.2 x.1) l
theorem qcount_at {q : QS} (h : QOk q) (now many : Int) {k : Nat} {x : It} (hx : q.l[k]? = some x) : k < qcount q.l now many ↔ (k : Int) < many ∧ x.1 ≤ now := by
  have := takeWhile_at h.sorted now hx
  unfold qcount
  rw [← this]
  omega
theorem qcount_le (l : List It) (now many : Int) : qcount l now many ≤ l.length := by
  have := (List.takeWhile_sublist (fun y : It => decide (y.1 ≤ now)) (l := l)).length_le
  unfold qcount; omega
end Go.Que
namespace Go.Que
/-! ## The row of QueueRoom -/
def rq (r : Int) (i : Nat) : QS := ⟨r, max ((i : Int) - r) 0, (List.range (min i r.toNat)).reverse.map fun j : Nat => (-(j : Int), (0, 0, (j : Int)))⟩
theorem rq_len (r : Int) (i : Nat) : (rq r i).l.length = min i r.toNat := by simp [rq]
theorem rq_add (r : Int) (hr : 1 ≤ r) (i : Nat) : qadd (rq r i) (0, 0, (i : Int)) (-(i : Int)) = (rq r (i + 1), decide ((i : Int) < r)) := by
  have hno : ∀ x ∈ (rq r i).l, x.2 ≠ (0, 0, (i : Int)) := by
    intro x hx
    simp only [rq, List.mem_map, List.mem_reverse, List.mem_range] at hx
    obtain ⟨j, hj, rfl⟩ := hx
    intro e
    have : (j : Int) = i := congrArg (fun c : Cl => c.2.2) e
    omega
  have hq : qtick (rq r i).l (0, 0, (i : Int)) = none := by
    cases h : qtick (rq r i).l (0, 0, (i : Int)) with
    | none => rfl
    | some t => exact absurd rfl (hno _ (qtick_some h))
  unfold qadd
  rw [hq]
  simp only
  have hl := rq_len r i
  by_cases h : (i : Int) < r
  · rw [if_neg (by rw [hl]; show ¬ _ ≥ r; omega)]
    have hm : min (i + 1) r.toNat = i + 1 := by omega
    have hm' : min i r.toNat = i := by omega
    refine Prod.ext ?_ (by simp [h])
    show (⟨r, max ((i : Int) - r) 0, qins (rq r i).l _⟩ : QS) = ⟨r, max (((i + 1 : Nat) : Int) - r) 0, _⟩
    have e1 : max ((i : Int) - r) 0 = max (((i + 1 : Nat) : Int) - r) 0 := by omega
    rw [e1, hm]
    congr 1
    unfold qins
    have ht : ∀ y ∈ (rq r i).l, ¬ y.1 ≤ -(i : Int) := by
      intro x hx
      simp only [rq, List.mem_map, List.mem_reverse, List.mem_range] at hx
      obtain ⟨j, hj, rfl⟩ := hx
      show ¬ -(j : Int) ≤ _
      omega
    have tw : (rq r i).l.takeWhile (fun y => decide (y.1 ≤ -(i : Int))) = [] ∧ (rq r i).l.dropWhile (fun y => decide (y.1 ≤ -(i : Int))) = (rq r i).l := by
      cases hl : (rq r i).l with
      | nil => exact ⟨rfl, rfl⟩
      | cons a l =>
        have := ht a (by rw [hl]; exact List.mem_cons_self ..)
        exact ⟨List.takeWhile_cons_of_neg (by simpa using this), List.dropWhile_cons_of_neg (by simpa using this)⟩
    rw [tw.1, tw.2, List.range_succ]
    simp [rq, hm']
  · rw [if_pos (by rw [hl]; show _ ≥ r; omega)]
    refine Prod.ext ?_ (by simp [h])
    have hm : min (i + 1) r.toNat = min i r.toNat := by omega
    have e1 : max ((i : Int) - r) 0 + 1 = max (((i + 1 : Nat) : Int) - r) 0 := by omega
    show (⟨r, max ((i : Int) - r) 0 + 1, _⟩ : QS) = ⟨r, max (((i + 1 : Nat) : Int) - r) 0, _⟩
    rw [hm, e1]
    rfl
theorem rq_head (r : Int) (hr : 1 ≤ r) (i : Nat) : (rq r i).l.isEmpty = decide (i = 0) ∧ (0 < i → ((rq r i).l.headD (0, 0, 0, 0)).1 = 1 - min (i : Int) r) := by
  constructor
  · have hl := rq_len r i
    cases h : (rq r i).l with
    | nil => rw [h] at hl; simp at hl ⊢; omega
    | cons a l => rw [h] at hl; simp at hl ⊢; omega
  · intro h
    have : ∃ k, min i r.toNat = k + 1 := ⟨min i r.toNat - 1, by omega⟩
    obtain ⟨k, hk⟩ := this
    simp only [rq, hk, List.range_succ, List.reverse_append, List.reverse_singleton, List.singleton_append, List.map_cons, List.headD_cons]
    omega
end Go.Que
namespace Go.Que
open Go Go.Vc
/-! ## Cells by their number -/
theorem qadd_new {q : QS} {c : Cl} {t : Int} (hn : ∀ x ∈ q.l, x.2 ≠ c) (hr : (q.l.length : Int) < q.room) : qadd q c t = ({ q with l := qins q.l (t, c) }, true) := by
  have hq : qtick q.l c = none := by
    cases h : qtick q.l c with
    | none => rfl
    | some t => exact absurd rfl (hn _ (qtick_some h))
  unfold qadd
  rw [hq]
  simp only
  rw [if_neg (by omega)]
/-- The queue of cells that stand in a row, of these ticks. -/
def fq (room : Int) (f : Nat → Int) : Nat → QS
  | 0 => ⟨room, 0, []⟩
  | i + 1 => (qadd (fq room f i) ((i : Int), 0, 0) (f i)).1
structure FQ (room : Int) (f : Nat → Int) (i : Nat) : Prop where
  ok : QOk (fq room f i)
  rm : (fq room f i).room = room
  lost : (fq room f i).lost = 0
  len : (fq room f i).l.length = i
  mem : ∀ x, x ∈ (fq room f i).l ↔ ∃ j : Nat, j < i ∧ x = (f j, ((j : Int), 0, 0))
theorem FQ.of (room : Int) (h1 : 1 ≤ room ∧ room ≤ 4096) (f : Nat → Int) : ∀ i : Nat, (i : Int) ≤ room → FQ room f i
  | 0, _ => ⟨⟨h1, by show ((0 : Nat) : Int) ≤ room; omega, List.Pairwise.nil, List.nodup_nil⟩, rfl, rfl, rfl, by simp [fq]⟩
  | i + 1, hi => by
    have ih := FQ.of room h1 f i (by omega)
    have hno : ∀ x ∈ (fq room f i).l, x.2 ≠ ((i : Int), 0, 0) := by
      intro x hx e
      obtain ⟨j, hj, rfl⟩ := (ih.mem x).1 hx
      have : (j : Int) = i := congrArg (fun c : Cl => c.1) e
      omega
    have hadd := qadd_new (t := f i) hno (by rw [ih.len, ih.rm]; omega)
    have hq : fq room f (i + 1) = { fq room f i with l := qins (fq room f i).l (f i, ((i : Int), 0, 0)) } := by
      show (qadd _ _ _).1 = _
      rw [hadd]
    refine ⟨ih.ok.add _ _, by rw [hq]; exact ih.rm, by rw [hq]; exact ih.lost, by rw [hq]; show (qins _ _).length = _; rw [qins_len, ih.len], fun x => ?_⟩
    rw [hq]
    show x ∈ qins _ _ ↔ _
    rw [qins_mem, ih.mem]
    constructor
    · rintro (rfl | ⟨j, hj, rfl⟩)
      · exact ⟨i, by omega, rfl⟩
      · exact ⟨j, by omega, rfl⟩
    · rintro ⟨j, hj, rfl⟩
      rcases Nat.lt_or_ge j i with h | h
      · exact .inr ⟨j, h, rfl⟩
      · have : j = i := by omega
        subst this; exact .inl rfl
theorem fq_add (room : Int) (h1 : 1 ≤ room ∧ room ≤ 4096) (f : Nat → Int) (i : Nat) (hi : (i : Int) < room) : qadd (fq room f i) ((i : Int), 0, 0) (f i) = (fq room f (i + 1), true) := by
  have ih := FQ.of room h1 f i (by omega)
  refine Prod.ext rfl ?_
  rw [qadd_new (fun x hx e => ?_) (by rw [ih.len, ih.rm]; exact hi)]
  obtain ⟨j, hj, rfl⟩ := (ih.mem x).1 hx
  have : (j : Int) = i := congrArg (fun c : Cl => c.1) e
  omega
/-- Where all are due, as many as may be are told. -/
theorem qcount_all {l : List It} {now many : Int} (h : ∀ x ∈ l, x.1 ≤ now) : qcount l now many = min l.length many.toNat := by
  unfold qcount
  have : l.takeWhile (fun y => decide (y.1 ≤ now)) = l := by
    induction l with
    | nil => rfl
    | cons a l ih =>
      rw [List.takeWhile_cons_of_pos (by simpa using h a (List.mem_cons_self ..)), ih fun x hx => h x (List.mem_cons_of_mem _ hx)]
  rw [this]
end Go.Que
namespace Go.Que
open Go Go.Vc
/-! ## How often each one was told -/
def toldV (l : List It) : List Value := (List.range 30).map fun k : Nat => .int .i64 (if l.any (fun x => x.2.1 == (k : Int)) then 1 else 0)
theorem toldV_nil : toldV [] = zeroRows [.int .i64 0] 30 := by rfl
theorem toldV_len (l : List It) : (toldV l).length = 30 := by simp [toldV]
theorem toldV_get (l : List It) {k : Nat} (hk : k < 30) : (toldV l)[k]? = some (.int .i64 (if l.any (fun x => x.2.1 == (k : Int)) then 1 else 0)) := by
  unfold toldV
  rw [List.getElem?_map, List.getElem?_range hk]; rfl
theorem toldV_set {l : List It} {p k : Nat} {x : It} (hx : l[p]? = some x) (hk : x.2.1 = (k : Int)) (hk30 : k < 30) : (toldV (l.take p)).set k (.int .i64 1) = toldV (l.take (p + 1)) := by
  apply List.ext_getElem?
  intro i
  rw [List.getElem?_set]
  rcases Nat.lt_or_ge i 30 with h | h
  · rw [List.take_add_one, hx]
    split
    · rename_i e
      subst e
      rw [if_pos (by rw [toldV_len]; exact h), toldV_get _ h]
      simp [hk]
    · rename_i e
      rw [toldV_get _ h, toldV_get _ h]
      have : (x.2.1 == (i : Int)) = false := by rw [hk]; simp; omega
      simp only [List.any_append, Option.toList_some, List.any_cons, List.any_nil, this, Bool.or_false]
  · rw [List.getElem?_eq_none (by rw [toldV_len]; exact h), List.getElem?_eq_none (by rw [toldV_len]; exact h), if_neg (by omega)]
theorem told_not {l : List It} (hn : (l.map (·.2)).Nodup) (hc : ∀ x ∈ l, ∃ j : Nat, x.2 = ((j : Int), 0, 0)) {p : Nat} {x : It} (hx : l[p]? = some x) : (l.take p).any (fun y => y.2.1 == x.2.1) = false := by
  rw [List.any_eq_false]
  intro y hy e
  simp only [beq_iff_eq] at e
  obtain ⟨hp, he⟩ := List.getElem?_eq_some_iff.1 hx
  have h2 : y.2 = x.2 := by
    obtain ⟨a, ha⟩ := hc y (List.mem_of_mem_take hy)
    obtain ⟨b, hb⟩ := hc x (he ▸ List.getElem_mem _)
    rw [ha, hb] at e ⊢
    rw [show (a : Int) = b from e]
  have hd : l = l.take p ++ x :: l.drop (p + 1) := by rw [← he, ← List.drop_eq_getElem_cons hp, List.take_append_drop]
  rw [hd, List.map_append, List.map_cons, List.nodup_append] at hn
  exact hn.2.2 y.2 (List.mem_map_of_mem hy) x.2 (List.mem_cons_self ..) h2
end Go.Que
