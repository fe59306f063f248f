import Derived.Test.YtbphdgiepimmkaaDoorQX
set_option linter.all false
namespace Go.Proofs.YtbphdgiepimmkaaDoor
open Go Go.Vc Go.RowKit Go.Proofs Go.Runs Go.Code

abbrev Good6 (w : World) : Ending → World → Prop := fun e w' => e = .returned (.bool true) ∧ Ext w w'
theorem lives6 {w w0 : World} (x : Ext w w0) : Calls Tryd.prog n_law06_lives #[] w0 (fun e w17 => ∃ b18 : Bool, e = .returned (.bool b18) ∧ Good6 w (.returned (.bool b18)) w17) := by
  refine (law06_lives_spec w0).mono ?_
  rintro e w' ⟨rfl, x'⟩
  exact ⟨_, rfl, rfl, x.tr x'⟩
theorem yv_one (b : List Int) : ∀ r ∈ b.map yv, One r := by
  intro q hq; obtain ⟨c, _, rfl⟩ := List.mem_map.1 hq; exact one_i _ _
theorem CodeNumbers_good (n : Int) (s : Sl) (b : List Int) (w : World) (hi : inI n) (hs : RdY w s b) (hb : InY b) (hc : s.n ≤ s.c) :
    Calls Tryd.prog n_law06_CodeNumbers #[.int .i64 n, .slice s.a s.n s.c] w (Good6 w) := by
  apply law06_CodeNumbers.vc
  refine (ref06_Few_spec s b 6 w hs hc).mono ?_
  rintro e w0 ⟨t, rfl, ht, htc, rfl⟩
  have htb : InY (b.take 6) := fun c hc => hb c (List.mem_of_mem_take hc)
  have htl : (b.take 6).length ≤ 6 := by rw [List.length_take]; omega
  generalize b.take 6 = b' at *
  refine ⟨t, rfl, (code_Number_spec n w0 hi).mono ?_⟩
  rintro e w1 ⟨s3, rfl, o3, x1⟩
  have hn3 := RdY.len (OwY.rdy o3)
  have hl3 := numB_len n
  refine ⟨s3, rfl, (code_Digits_spec t b' w1 (ht.ext x1) htb htc).mono ?_⟩
  rintro e w2 ⟨rfl, rfl⟩
  refine ⟨_, _, _, rfl, (ref06_Digits_spec t b' w2 (ht.ext x1) htb).mono ?_⟩
  rintro e w3 ⟨rfl, rfl⟩
  refine ⟨_, _, _, rfl, (ref06_Number_spec n w3 hi).mono ?_⟩
  rintro e w4 ⟨s5, rfl, o5, x4⟩
  have x14 := x1.tr x4
  have r3 := RdK.ext (OwY.rdy o3) x4
  refine ⟨s5, rfl, (ref06_Same_spec s3 s5 _ _ w4 r3 (OwY.rdy o5) (numB_in n) (numB_in n)).mono ?_⟩
  rintro e w5 ⟨rfl, rfl⟩
  rw [decide_eq_true rfl]
  refine ⟨_, rfl, Br.mk (fun h => by cases h) (fun _ => Br.mk (fun h => by simp at h) (fun _ => Br.mk (fun h => by simp at h) (fun _ => Br.mk (fun h => by simp at h) (fun _ => ?_))))⟩
  have nil : (n < 0 ∨ n > 1048576) → s3.n = 0 := by
    intro h
    rw [hn3]
    unfold numB
    rw [if_pos h]; rfl
  refine Br.mk (fun h => ?_) (fun h => Br.mk (fun h2 => ?_) (fun h2 => ?_)) <;> simp only [decide_eq_true_eq, decide_eq_false_iff_not] at h
  · have := nil (.inl h)
    exact Br.mk (fun _ => lives6 x14) (fun h' => by simp at h'; omega)
  · simp only [decide_eq_true_eq] at h2
    have := nil (.inr h2)
    exact Br.mk (fun _ => lives6 x14) (fun h' => by simp at h'; omega)
  · simp only [decide_eq_false_iff_not] at h2
    have o0 : OwnK w0.heap.size tByte 1 w5 ⟨none, 0, 0⟩ [] := OwnK.nil
    obtain ⟨hp, hres⟩ := o0.appN (bytes := 1) (more := (numB n).map yv) x14.size (by simp) (yv_one _) (by simp; omega) (by simp; omega)
    rw [List.length_map, ← hn3] at hp hres
    refine ⟨_, RdK.flat r3 (by omega), hp, fun s21 w22 hr => ?_⟩
    obtain ⟨o21, hn21, x22, _, _⟩ := hres s21 w22 hr
    have xx : Ext w0 w22 := x14.trans x22
    have ht22 : RdY w22 t b' := ht.ext xx
    have htn := RdY.len ht22
    have h21 : s21.n = s3.n := by rw [hn21]; simp
    obtain ⟨hp2, hres2⟩ := o21.appN (bytes := 1) (more := b'.map yv) xx.size (by simp) (yv_one _) (by simp; omega) (by simp; omega)
    rw [List.length_map, ← htn] at hp2 hres2
    refine ⟨_, RdK.flat ht22 (by omega), hp2, fun s24 w25 hr2 => ?_⟩
    obtain ⟨o24, hn24, x25, _, _⟩ := hres2 s24 w25 hr2
    have x5 : Ext w0 w25 := xx.trans x25
    have e24 : ([] ++ (numB n).map yv) ++ b'.map yv = (numB n ++ b').map yv := by rw [List.nil_append, List.map_append]
    rw [e24] at o24
    have o24' : OwY w0.heap.size w25 s24 (numB n ++ b') := o24
    have hcap : s24.n ≤ s24.c := by
      have ho := o24.own
      generalize ((numB n ++ b').map yv).flatten = xs at ho
      cases ho with
      | nil => exact Nat.le_refl _
      | row g n c cs hg hr hc hn => exact hn
    refine (code_Digits_spec s24 _ w25 (OwY.rdy o24') (by
      intro c hc
      rcases List.mem_append.1 hc with hc | hc
      · exact numB_in n c hc
      · exact htb c hc) hcap).mono ?_
    rintro e w26 ⟨rfl, rfl⟩
    rw [digB_num (by omega) (by omega)]
    refine ⟨_, _, _, rfl, Br.mk (fun _ => Br.mk (fun _ => Br.mk (fun _ => lives6 x5) (fun h' => by simp at h')) (fun h' => by simp at h'; omega)) (fun h' => by simp at h')⟩
end Go.Proofs.YtbphdgiepimmkaaDoor
