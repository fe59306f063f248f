import Derived.Test.YtfipllblcnahdaaDoorFr
set_option linter.all false
namespace Go.Vc
open Go Go.RowKit Go.ChangeShapes Go.WideShapes

section
variable {H : Type} {enc : TypeId × Value → H} {P : Program} {w : World} {base : Nat} {spare : Nat → Bool} {held : Bool}
/-- A type all of whose cells are integers. -/
def flatB (P : Program) : Nat → TypeId → Bool
  | 0, _ => false
  | n + 1, t => match P.underlying t with
    | some (.int .i64) => P.cellsOf t == 1
    | some (.struct fs) => (List.range (P.cellsOf t)).all fun i => (List.range fs.size).any fun j => match fs[j]? with
      | some f => decide (f.offset ≤ i) && decide (i < f.offset + P.cellsOf f.type) && flatB P n f.type
      | none => false
    | _ => false
theorem flat_of_trod : ∀ {n : Nat} {t : TypeId} {fuel : Nat} {cs : List Value} {x : DataW H × List MemPlace}, flatB P n t = true → DataW.trod enc P w base spare held fuel t cs = some x →
    cs.length = P.cellsOf t ∧ ∀ v ∈ cs, ∃ z, v = .int .i64 z ∧ inI z
  | 0, _, _, _, _, h, _ => by simp [flatB] at h
  | n + 1, t, fuel, cs, x, h, ht => by
    unfold flatB at h
    split at h
    · rename_i e
      obtain ⟨z, rfl, _, hw⟩ := DataW.trod_int e ht
      have : P.cellsOf t = 1 := by simpa using h
      refine ⟨by rw [this]; rfl, fun v hv => ?_⟩
      rw [List.mem_singleton] at hv
      exact ⟨z, hv, inI_wf' hw⟩
    · rename_i fs e
      obtain ⟨xs, k, _, _, hl, hxl, hf⟩ := DataW.trod_struct e ht
      refine ⟨hl, fun v hv => ?_⟩
      obtain ⟨i, hi, rfl⟩ := List.getElem_of_mem hv
      rw [List.all_eq_true] at h
      have hj := h i (List.mem_range.2 (by omega))
      rw [List.any_eq_true] at hj
      obtain ⟨j, hjr, hj⟩ := hj
      rw [List.mem_range] at hjr
      split at hj
      · rename_i f hfj
        simp only [Bool.and_eq_true, decide_eq_true_eq] at hj
        have hx := hf j f hfj
        rw [List.getElem?_eq_getElem (by omega)] at hx
        obtain ⟨hlen, hall⟩ := flat_of_trod hj.2 hx
        refine hall _ (List.mem_of_getElem? (i := i - f.offset) ?_)
        rw [List.getElem?_take, if_pos (by omega), List.getElem?_drop, List.getElem?_eq_getElem (by omega)]
        congr 2; omega
      · cases hj
    · cases h
theorem ints_of_cells : ∀ {cs : List Value}, (∀ v ∈ cs, ∃ z, v = .int .i64 z ∧ inI z) → ∃ r : List Int, cs = r.map (fun n => .int .i64 n) ∧ ∀ n ∈ r, inI n
  | [], _ => ⟨[], rfl, by simp⟩
  | v :: cs, h => by
    obtain ⟨z, rfl, hz⟩ := h v (List.mem_cons_self ..)
    obtain ⟨r, rfl, hr⟩ := ints_of_cells fun u hu => h u (List.mem_cons_of_mem _ hu)
    refine ⟨z :: r, rfl, fun n hn => ?_⟩
    rcases List.mem_cons.1 hn with rfl | hn
    · exact hz
    · exact hr n hn
/-- A struct of integers that came in. -/
theorem flats_of_trod {n : Nat} {t : TypeId} {fuel : Nat} {cs : List Value} {x : DataW H × List MemPlace} (hb : flatB P n t = true) (h : DataW.trod enc P w base spare held fuel t cs = some x) :
    ∃ r : List Int, cs = r.map (fun n => .int .i64 n) ∧ r.length = P.cellsOf t ∧ ∀ n ∈ r, inI n := by
  obtain ⟨h1, h2⟩ := flat_of_trod hb h
  obtain ⟨r, rfl, hr⟩ := ints_of_cells h2
  exact ⟨r, rfl, by simpa using h1, hr⟩
/-- A struct of three integers that came in. -/
theorem flat3_of_trod {n : Nat} {t : TypeId} {fuel : Nat} {cs : List Value} {x : DataW H × List MemPlace} (hb : flatB P n t = true) (hk : P.cellsOf t = 3) (h : DataW.trod enc P w base spare held fuel t cs = some x) :
    ∃ a b c, cs = [.int .i64 a, .int .i64 b, .int .i64 c] ∧ inI a ∧ inI b ∧ inI c := by
  obtain ⟨r, rfl, hl, hi⟩ := flats_of_trod hb h
  rw [hk] at hl
  match r, hl with
  | [a, b, c], _ => exact ⟨a, b, c, rfl, hi a (by simp), hi b (by simp), hi c (by simp)⟩
/-- A slice of structs of integers that came in. -/
theorem rows_of_trod {m k : Nat} {t e : TypeId} {fuel : Nat} {a : Option Addr} {len cap : Nat} {x : DataW H × List MemPlace} (ht : P.underlying t = some (.slice e)) (hb : flatB P m e = true) (hk : P.cellsOf e = k)
    (h : DataW.trod enc P w base spare held fuel t [.slice a len cap] = some x) :
    ∃ z : List (List Int), RdK w ⟨a, len, cap⟩ k (z.map fun r => r.map fun n => .int .i64 n) ∧ (∀ r ∈ z, r.length = k ∧ ∀ n ∈ r, inI n) ∧ len ≤ cap ∧ cap ≤ maxLen := by
  rcases Go.Deep.open_slice ht h with ⟨hcs, _⟩ | ⟨b, len', cap', m', n, D, Pl, hcs, _, hl, hm, hmm, _, hx⟩
  · simp at hcs
    obtain ⟨rfl, rfl, rfl⟩ := hcs
    exact ⟨[], ⟨rfl, by simp, fun i r hi => by simp at hi⟩, by simp, Nat.le_refl _, by decide⟩
  · simp at hcs
    obtain ⟨rfl, rfl, rfl⟩ := hcs
    have hlm : len ≤ m' := by rw [hmm]; split <;> omega
    have each : ∀ i, i < len → ∃ r : List Int, (∀ j, j < k → w.cell? ((b.add (i * k)).add j) = (r.map fun n => Value.int .i64 n)[j]?) ∧ r.length = k ∧ ∀ n ∈ r, inI n := by
      intro i hi
      obtain ⟨cs', h1, h2⟩ := hx i (by omega)
      obtain ⟨r, rfl, hr1, hr2⟩ := flats_of_trod hb h2
      rw [hk] at h1 hr1
      exact ⟨r, (World.cells?_some h1).2.2, hr1, hr2⟩
    have pick : ∃ f : Nat → List Int, ∀ i, i < len → (∀ j, j < k → w.cell? ((b.add (i * k)).add j) = ((f i).map fun n => Value.int .i64 n)[j]?) ∧ (f i).length = k ∧ ∀ n ∈ f i, inI n := by
      refine ⟨fun i => if hi : i < len then Classical.choose (each i hi) else [], fun i hi => ?_⟩
      simp only [dif_pos hi]
      exact Classical.choose_spec (each i hi)
    obtain ⟨f, hf⟩ := pick
    refine ⟨(List.range len).map f, ⟨by simp, fun r hr => ?_, fun i r hi j v hj => ?_⟩, fun r hr => ?_, hl, hm⟩
    · obtain ⟨r', hr', rfl⟩ := List.mem_map.1 hr
      obtain ⟨i, hi, rfl⟩ := List.mem_map.1 hr'
      rw [List.length_map]
      exact (hf i (by simpa using hi)).2.1
    · simp only [List.map_map, List.getElem?_map, Option.map_eq_some_iff] at hi
      obtain ⟨q, hq, rfl⟩ := hi
      obtain ⟨hk1, hk2⟩ := List.getElem?_eq_some_iff.1 hq
      simp at hk1 hk2
      subst hk2
      obtain ⟨h0, h1, _⟩ := hf i hk1
      have hjk : j < k := by
        have := (List.getElem?_eq_some_iff.1 hj).1
        simp at this; omega
      have := h0 j hjk
      rw [← padd_padd]
      show w.cell? ((b.add (i * k)).add j) = _
      rw [this]; exact hj
    · obtain ⟨i, hi, rfl⟩ := List.mem_map.1 hr
      exact (hf i (by simpa using hi)).2
end
end Go.Vc
