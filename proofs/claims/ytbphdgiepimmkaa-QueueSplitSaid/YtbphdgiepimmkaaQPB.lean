import Derived.Test.YtbphdgiepimmkaaQP
set_option linter.all false
namespace Go.Que
open Go Go.Vc
/-! ## Cells by their number -/
theorem qadd_new {q : QS} {c : Cl} {t : Int} (hn : ∀ x ∈ q.l, x.2 ≠ c) (hr : (q.l.length : Int) < q.room) : qadd q c t = ({ q with l := qins q.l (t, c) }, true) := by
  have hq : qtick q.l c = none := by
    cases h : qtick q.l c with
    | none => rfl
    | some t => exact absurd rfl (hn _ (qtick_some h))
  unfold qadd
  rw [hq]
  simp only
  rw [if_neg (by omega)]
/-- The queue of cells that stand in a row, of these ticks. -/
def fq (room : Int) (f : Nat → Int) : Nat → QS
  | 0 => ⟨room, 0, []⟩
  | i + 1 => (qadd (fq room f i) ((i : Int), 0, 0) (f i)).1
structure FQ (room : Int) (f : Nat → Int) (i : Nat) : Prop where
  ok : QOk (fq room f i)
  rm : (fq room f i).room = room
  lost : (fq room f i).lost = 0
  len : (fq room f i).l.length = i
  mem : ∀ x, x ∈ (fq room f i).l ↔ ∃ j : Nat, j < i ∧ x = (f j, ((j : Int), 0, 0))
theorem FQ.of (room : Int) (h1 : 1 ≤ room ∧ room ≤ 4096) (f : Nat → Int) : ∀ i : Nat, (i : Int) ≤ room → FQ room f i
  | 0, _ => ⟨⟨h1, by show ((0 : Nat) : Int) ≤ room; omega, List.Pairwise.nil, List.nodup_nil⟩, rfl, rfl, rfl, by simp [fq]⟩
  | i + 1, hi => by
    have ih := FQ.of room h1 f i (by omega)
    have hno : ∀ x ∈ (fq room f i).l, x.2 ≠ ((i : Int), 0, 0) := by
      intro x hx e
      obtain ⟨j, hj, rfl⟩ := (ih.mem x).1 hx
      have : (j : Int) = i := congrArg (fun c : Cl => c.1) e
      omega
    have hadd := qadd_new (t := f i) hno (by rw [ih.len, ih.rm]; omega)
    have hq : fq room f (i + 1) = { fq room f i with l := qins (fq room f i).l (f i, ((i : Int), 0, 0)) } := by
      show (qadd _ _ _).1 = _
      rw [hadd]
    refine ⟨ih.ok.add _ _, by rw [hq]; exact ih.rm, by rw [hq]; exact ih.lost, by rw [hq]; show (qins _ _).length = _; rw [qins_len, ih.len], fun x => ?_⟩
    rw [hq]
    show x ∈ qins _ _ ↔ _
    rw [qins_mem, ih.mem]
    constructor
    · rintro (rfl | ⟨j, hj, rfl⟩)
      · exact ⟨i, by omega, rfl⟩
      · exact ⟨j, by omega, rfl⟩
    · rintro ⟨j, hj, rfl⟩
      rcases Nat.lt_or_ge j i with h | h
      · exact .inr ⟨j, h, rfl⟩
      · have : j = i := by omega
        subst this; exact .inl rfl
theorem fq_add (room : Int) (h1 : 1 ≤ room ∧ room ≤ 4096) (f : Nat → Int) (i : Nat) (hi : (i : Int) < room) : qadd (fq room f i) ((i : Int), 0, 0) (f i) = (fq room f (i + 1), true) := by
  have ih := FQ.of room h1 f i (by omega)
  refine Prod.ext rfl ?_
  rw [qadd_new (fun x hx e => ?_) (by rw [ih.len, ih.rm]; exact hi)]
  obtain ⟨j, hj, rfl⟩ := (ih.mem x).1 hx
  have : (j : Int) = i := congrArg (fun c : Cl => c.1) e
  omega
/-- Where all are due, as many as may be are told. -/
theorem qcount_all {l : List It} {now many : Int} (h : ∀ x ∈ l, x.1 ≤ now) : qcount l now many = min l.length many.toNat := by
  unfold qcount
  have : l.takeWhile (fun y => decide (y.1 ≤ now)) = l := by
    induction l with
    | nil => rfl
    | cons a l ih =>
      rw [List.takeWhile_cons_of_pos (by simpa using h a (List.mem_cons_self ..)), ih fun x hx => h x (List.mem_cons_of_mem _ hx)]
  rw [this]
end Go.Que
