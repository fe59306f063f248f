import Derived.Test.YtbphdgiepimmkaaQJ
set_option linter.all false
namespace Go.Proofs.Ytbphdgiepimmkaa
open Go Go.Vc Go.RowKit Go.Proofs Go.Que

abbrev tX : TypeId := 67
theorem Own_cap {B E k : Nat} {w : World} {s : Sl} {rows : List (List Value)} (h : OwnK B E k w s rows) (hk : 0 < k) : s.n ≤ s.c := by
  rcases h.form hk with ⟨hs, -⟩ | ⟨g0, cs, ha, hg0, hr, hc, hnc, -⟩
  · rw [hs]; exact Nat.le_refl _
  · exact hnc
theorem rNew_spec (room : Int) (w : World) : Calls Try.prog n_ref17_New #[.int .i64 room] w fun e w' => e = .returned (.agg #[.int .i64 (min (max room 1) 4096), .int .i64 0, .slice none 0 0]) ∧ Ext w w' := by
  apply ref17_New.vc
  intro w0 e0 w1 e1
  have : (min (max room 1) 4096) = (if 4096 < (if 1 > room then 1 else room) then 4096 else (if 1 > room then 1 else room)) := by
    split <;> split <;> omega
  rw [← this]
  exact ⟨rfl, ((Ext.rfl' w).of_alloc e0).of_setRow e1 (Nat.le_refl _)⟩
/-- Where a cell stands. -/
def qfind (l : List It) (c : Cl) : Int := match l.findIdx? fun x => x.2 == c with | some i => i | none => -1
theorem qfind_at {l : List It} {c : Cl} {k : Nat} {x : It} (hk : ∀ y ∈ l.take k, y.2 ≠ c) (hx : l[k]? = some x) (hc : x.2 = c) : qfind l c = k := by
  unfold qfind
  have : l.findIdx? (fun x => x.2 == c) = some k := by
    rw [List.findIdx?_eq_some_iff_getElem]
    obtain ⟨hlt, he⟩ := List.getElem?_eq_some_iff.1 hx
    refine ⟨hlt, by simp [he, hc], fun j hj => ?_⟩
    have := hk (l[j]'(by omega)) (List.mem_take_iff_getElem.2 ⟨j, by omega, rfl⟩)
    simpa using this
  rw [this]
theorem qfind_none {l : List It} {c : Cl} (hk : ∀ y ∈ l, y.2 ≠ c) : qfind l c = -1 := by
  unfold qfind
  have : l.findIdx? (fun x => x.2 == c) = none := by
    rw [List.findIdx?_eq_none_iff]
    intro x hx
    simpa using hk x hx
  rw [this]
theorem qfind_cases (l : List It) (c : Cl) : (qfind l c = -1 ∧ (∀ y ∈ l, y.2 ≠ c) ∧ qtick l c = none) ∨ ∃ k : Nat, ∃ x, qfind l c = k ∧ l[k]? = some x ∧ x.2 = c ∧ (∀ y ∈ l.take k, y.2 ≠ c) ∧ qtick l c = some x.1 := by
  induction l with
  | nil => exact .inl ⟨rfl, by simp, rfl⟩
  | cons a l ih =>
    by_cases ha : a.2 = c
    · refine .inr ⟨0, a, qfind_at (by simp) rfl ha, rfl, ha, by simp, ?_⟩
      unfold qtick; rw [List.find?_cons_of_pos (by simp [ha])]; rfl
    · rcases ih with ⟨-, h2, h3⟩ | ⟨k, x, h1, h2, h3, h4, h5⟩
      · have hall : ∀ y ∈ a :: l, y.2 ≠ c := fun y hy => by
          rcases List.mem_cons.1 hy with rfl | hy
          · exact ha
          · exact h2 y hy
        refine .inl ⟨qfind_none hall, hall, ?_⟩
        unfold qtick at h3 ⊢; rw [List.find?_cons_of_neg (by simp [ha])]; exact h3
      · have hall : ∀ y ∈ (a :: l).take (k + 1), y.2 ≠ c := fun y hy => by
          rw [List.take_succ_cons] at hy
          rcases List.mem_cons.1 hy with rfl | hy
          · exact ha
          · exact h4 y hy
        refine .inr ⟨k + 1, x, qfind_at hall (by simpa using h2) h3, by simpa using h2, h3, hall, ?_⟩
        unfold qtick at h5 ⊢; rw [List.find?_cons_of_neg (by simp [ha])]; exact h5
theorem rFind_spec {w : World} {s : Sl} {l : List It} (h : RdK w s 4 (l.map itv)) (hl : l.length ≤ 5000) (room lost : Int) (c : Cl) :
    Calls Try.prog n_ref17_Find #[.agg #[.int .i64 room, .int .i64 lost, .slice s.a s.n s.c], cv c] w fun e w' => e = .returned (.int .i64 (qfind l c)) ∧ Ext w w' := by
  apply ref17_Find.vc
  have hn : s.n = l.length := by rw [h.n, List.length_map]
  intro w0 e0 w1 e1
  have x1 : Ext w w1 := ((Ext.rfl' w).of_alloc e0).of_alloc e1
  refine ⟨fun n x wr => Ext w wr ∧ ∃ k : Nat, x = k ∧ k + n = l.length ∧ ∀ y ∈ l.take k, y.2 ≠ c, ⟨l.length, rfl, rfl, x1, 0, rfl, by omega, by simp⟩, ?_⟩
  rintro n us x wr ⟨xr, k, rfl, hk, hno⟩
  refine Br.mk (fun hc => ?_) (fun hc => ?_)
  · simp only [decide_eq_true_eq] at hc
    have hget : l[k]? = some (l[k]'(by omega)) := List.getElem?_eq_getElem (by omega)
    generalize l[k]'(by omega) = y at hget
    have hrd := h.ext xr.drew
    have hs := hrd.isSome (by decide) (i := k) (by simp; omega)
    refine ⟨⟨hs, by omega, by omega⟩, AndL_iff.2 ⟨nnC_iff.2 (by rw [padd_isSome]; exact hs), y.2.1, y.2.2.1, y.2.2.2, ?_, Br.mk (fun hb => ?_) (fun hb => ?_)⟩⟩
    · rw [padd_padd]
      refine LoadL_of fun j v hj => ?_
      have h1 := hrd.rd k (itv y) (by rw [List.getElem?_map, hget]; rfl)
      rw [Nat.zero_add, padd_padd, Nat.add_assoc]
      exact h1 (1 + j) v (by rw [Nat.add_comm]; exact hj)
    · have hy : y.2 = c := by
        simp only [Bool.and_eq_true, beq_iff_eq] at hb
        obtain ⟨h1, h2, h3⟩ := hb
        exact Prod.ext h1 (Prod.ext h2 h3)
      exact ⟨by rw [qfind_at hno hget hy], xr.drew⟩
    · have hw : IntKind.wrap .i64 ((k : Int) + 1) = ((k + 1 : Nat) : Int) := by rw [wrap_in (by unfold inI; omega)]; omega
      rw [hw]
      refine ⟨n - 1, by omega, rfl, rfl, xr.drew, k + 1, rfl, by omega, fun z hz => ?_⟩
      rw [List.take_add_one, hget] at hz
      rcases List.mem_append.1 hz with hz | hz
      · exact hno z hz
      · simp only [Option.toList_some, List.mem_singleton] at hz
        subst hz
        intro e
        subst e
        simp at hb
  · simp only [decide_eq_false_iff_not] at hc
    rw [List.take_of_length_le (by omega)] at hno
    exact ⟨by rw [qfind_none hno], xr⟩
theorem rSame_spec {w : World} {a b : Sl} {x y : List Cl} (ha : RdK w a 3 (x.map clv)) (hb : RdK w b 3 (y.map clv)) (hl : x.length ≤ 5000) :
    Calls Try.prog n_ref17_SameCells #[.slice a.a a.n a.c, .slice b.a b.n b.c] w fun e w' => e = .returned (.bool (x == y)) ∧ Ext w w' := by
  apply ref17_SameCells.vc
  have hn : a.n = x.length := by rw [ha.n, List.length_map]
  have hm : b.n = y.length := by rw [hb.n, List.length_map]
  refine Br.mk (fun hc => ?_) (fun hc => ?_)
  · have hne : x.length ≠ y.length := by
      simp only [bne_iff_ne, ne_eq] at hc; omega
    have : (x == y) = false := by
      rw [beq_eq_false_iff_ne]; intro e; exact hne (by rw [e])
    exact ⟨by rw [this], Ext.rfl' _⟩
  · have heq : x.length = y.length := by
      simp only [bne_eq_false_iff_eq] at hc; omega
    refine ⟨fun n i wr => Ext w wr ∧ ∃ k : Nat, i = k ∧ k + n = x.length ∧ x.take k = y.take k, ⟨x.length, Ext.rfl' _, 0, rfl, by omega, rfl⟩, ?_⟩
    rintro n us i wr ⟨xr, k, rfl, hk, hsame⟩
    refine Br.mk (fun hc => ?_) (fun hc => ?_)
    · simp only [decide_eq_true_eq] at hc
      have hgx : x[k]? = some (x[k]'(by omega)) := List.getElem?_eq_getElem (by omega)
      have hgy : y[k]? = some (y[k]'(by omega)) := List.getElem?_eq_getElem (by omega)
      generalize x[k]'(by omega) = p at hgx
      generalize y[k]'(by omega) = q at hgy
      have hra := ha.ext xr.drew
      have hrb := hb.ext xr.drew
      refine ⟨⟨hra.isSome (by decide) (i := k) (by simp; omega), by omega, by omega⟩, p.1, p.2.1, p.2.2, hra.loadL (i := k) (by rw [List.getElem?_map, hgx]; rfl), ⟨hrb.isSome (by decide) (i := k) (by simp; omega), by omega, by omega⟩, q.1, q.2.1, q.2.2, hrb.loadL (i := k) (by rw [List.getElem?_map, hgy]; rfl), Br.mk (fun hq => ?_) (fun hq => ?_)⟩
      · have hpq : p ≠ q := by
          intro e; subst e; simp at hq
        have : (x == y) = false := by
          rw [beq_eq_false_iff_ne]; intro e
          rw [e, hgy] at hgx; exact hpq (by cases hgx; rfl)
        exact ⟨by rw [this], xr.drew⟩
      · have hpq : p = q := by
          simp only [Bool.not_eq_false', Bool.and_eq_true, beq_iff_eq] at hq
          obtain ⟨h1, h2, h3⟩ := hq
          exact Prod.ext h1 (Prod.ext h2 h3)
        have hw : IntKind.wrap .i64 ((k : Int) + 1) = ((k + 1 : Nat) : Int) := by rw [wrap_in (by unfold inI; omega)]; omega
        rw [hw]
        exact ⟨n - 1, by omega, xr.drew, k + 1, rfl, by omega, by rw [List.take_add_one, List.take_add_one, hgx, hgy, hsame, hpq]⟩
    · simp only [decide_eq_false_iff_not] at hc
      rw [List.take_of_length_le (by omega), List.take_of_length_le (by omega)] at hsame
      exact ⟨by rw [hsame]; simp, xr⟩
end Go.Proofs.Ytbphdgiepimmkaa
