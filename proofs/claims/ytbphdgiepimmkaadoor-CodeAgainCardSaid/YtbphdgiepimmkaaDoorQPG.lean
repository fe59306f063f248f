import Derived.Test.YtbphdgiepimmkaaDoorQP
set_option linter.all false
namespace Go.Code
open Go Go.Vc Go.Runs

theorem readG_nil {may : Int → Bool} {f : Nat} {n last : Int} {acc : List Rn} : readG may (f + 1) [] n last acc = if n > 0 then ([], 3) else (acc, 0) := rfl
theorem readG_cons' (may : Int → Bool) (f : Nat) (c : Int) (t : List Int) (n last : Int) (acc : List Rn) : readG may (f + 1) (c :: t) n last acc =
    if may c = false ∨ c = last then ([], 2)
    else if (digB t).2.2 ≠ 0 then ([], (digB t).2.2)
    else if (digB t).1 = 0 ∨ (digB t).1 > n then ([], 2)
    else if n - (digB t).1 = 0 then (if t.drop (digB t).2.1.toNat = [] then (acc ++ [((digB t).1, c)], 0) else ([], 2))
    else readG may f (t.drop (digB t).2.1.toNat) (n - (digB t).1) c (acc ++ [((digB t).1, c)]) := rfl
theorem readG_len {may : Int → Bool} : ∀ (f : Nat) (b : List Int) (n last : Int) (acc : List Rn), (readG may f b n last acc).1.length ≤ acc.length + b.length
  | 0, _, _, _, _ => by simp [readG]
  | f + 1, [], n, _, acc => by rw [readG_nil]; split <;> simp
  | f + 1, c :: t, n, last, acc => by
    rw [readG_cons']
    split
    · simp
    split
    · simp
    split
    · simp
    split
    · split <;> simp
    · have := readG_len (may := may) f (t.drop (digB t).2.1.toNat) (n - (digB t).1) c (acc ++ [((digB t).1, c)])
      simp only [List.length_append, List.length_cons, List.length_nil, List.length_drop] at this ⊢
      omega
theorem readB_len {may : Int → Bool} (b : List Int) (n : Int) : (readB may b n).1.length ≤ b.length := by
  have := readG_len (may := may) (b.length + 1) b n (-1) []
  simpa [readB] using this
/-- An error tells no runs. -/
theorem readG_err {may : Int → Bool} : ∀ (f : Nat) (b : List Int) (n last : Int) (acc : List Rn), (readG may f b n last acc).2 ≠ 0 → (readG may f b n last acc).1 = []
  | 0, _, _, _, _ => by simp [readG]
  | f + 1, [], n, _, acc => by rw [readG_nil]; split <;> simp
  | f + 1, c :: t, n, last, acc => by
    rw [readG_cons']
    split
    · simp
    split
    · simp
    split
    · simp
    split
    · split <;> simp
    · exact readG_err f _ _ _ _
/-- Runs that follow one another: of the block last no run begins. -/
def Follow (may : Int → Bool) : Int → List Rn → Prop
  | _, [] => True
  | last, r :: t => 1 ≤ r.1 ∧ r.1 ≤ 1048576 ∧ 0 ≤ r.2 ∧ r.2 < 256 ∧ may r.2 = true ∧ r.2 ≠ last ∧ Follow may r.2 t
theorem Follow.pos {may : Int → Bool} : ∀ {l : List Rn} {last : Int}, Follow may last l → ∀ r ∈ l, 1 ≤ r.1
  | [], _, _ => by simp
  | q :: t, _, h => by
    obtain ⟨h1, _, _, _, _, _, h7⟩ := h
    intro r hr
    rcases List.mem_cons.1 hr with rfl | hr
    · exact h1
    · exact h7.pos r hr
theorem wrB_cons (r : Rn) (t : List Rn) (h : 0 ≤ r.2 ∧ r.2 < 256) : wrB (r :: t) = r.2 :: (numB r.1 ++ wrB t) := by
  unfold wrB
  rw [List.flatMap_cons, Int.emod_eq_of_lt h.1 h.2]; rfl
theorem numB_pos {n : Int} (h : 1 ≤ n) (h' : n ≤ 1048576) : 1 ≤ (numB n).length := by
  have := numF_size (n := n) (by omega) h'
  split at this <;> split at this <;> omega
theorem sumR_cons (r : Rn) (t : List Rn) : sumR (r :: t) = r.1 + sumR t := by simp [sumR]
/-- One run's bytes ahead. -/
theorem readG_run {may : Int → Bool} {f : Nat} {r : Rn} {t : List Int} {n last : Int} {acc : List Rn} (h1 : 1 ≤ r.1) (h2 : r.1 ≤ 1048576) (h5 : may r.2 = true) (h6 : r.2 ≠ last) :
    readG may (f + 1) (r.2 :: (numB r.1 ++ t)) n last acc = if r.1 > n then ([], 2) else if n - r.1 = 0 then (if t = [] then (acc ++ [r], 0) else ([], 2)) else readG may f t (n - r.1) r.2 (acc ++ [r]) := by
  rw [readG_cons', digB_num (by omega) h2, if_neg (by
    rintro (h | h)
    · rw [h5] at h; cases h
    · exact h6 h), if_neg (by simp)]
  by_cases hn : r.1 > n
  · rw [if_pos (.inr hn), if_pos hn]
  · rw [if_neg (by show ¬ (r.1 = 0 ∨ r.1 > n); omega), if_neg hn]
    have e : (numB r.1 ++ t).drop (((numB r.1).length : Int)).toNat = t := by simp
    show (if n - r.1 = 0 then (if (numB r.1 ++ t).drop (((numB r.1).length : Int)).toNat = [] then (acc ++ [(r.1, r.2)], 0) else ([], 2)) else readG may f ((numB r.1 ++ t).drop (((numB r.1).length : Int)).toNat) (n - r.1) r.2 (acc ++ [(r.1, r.2)])) = _
    rw [e]
/-- The bytes of runs, read for as many cells. -/
theorem readG_all {may : Int → Bool} : ∀ (l : List Rn) (f : Nat) (t : List Int) (last : Int) (acc : List Rn), Follow may last l → l ≠ [] → (wrB l ++ t).length < f →
    readG may f (wrB l ++ t) (sumR l) last acc = if t = [] then (acc ++ l, 0) else ([], 2)
  | [], _, _, _, _, _, h, _ => absurd rfl h
  | r :: l, 0, _, _, _, _, _, hf => by omega
  | r :: l, f + 1, t, last, acc, hF, _, hf => by
    obtain ⟨h1, h2, h3, h4, h5, h6, hF'⟩ := hF
    have e : wrB (r :: l) ++ t = r.2 :: (numB r.1 ++ (wrB l ++ t)) := by rw [wrB_cons r l ⟨h3, h4⟩]; simp
    rw [e] at hf ⊢
    simp only [List.length_cons, List.length_append] at hf
    have hs0 : 0 ≤ sumR l := by rw [sumR_cells fun q hq => by have := hF'.pos q hq; omega]; omega
    rw [readG_run h1 h2 h5 h6, sumR_cons, if_neg (by omega), show r.1 + sumR l - r.1 = sumR l from by omega]
    by_cases hl : l = []
    · subst hl
      rw [if_pos (show sumR [] = 0 from rfl)]
      simp [wrB]
    · have hsp : 1 ≤ sumR l := by
        cases l with
        | nil => exact absurd rfl hl
        | cons q m =>
          have := hF'.pos q (.head _)
          have hm : 0 ≤ sumR m := by rw [sumR_cells fun p hp => by have := hF'.pos p (.tail _ hp); omega]; omega
          rw [sumR_cons]; omega
      rw [if_neg (by omega), readG_all l f t r.2 (acc ++ [r]) hF' hl (by simp only [List.length_append]; omega)]
      simp
/-- A number's bytes that are read are those that are written. -/
theorem numB_dig {t : List Int} (hi : ∀ c ∈ t, 0 ≤ c ∧ c < 256) (h : (digB t).2.2 = 0) : numB (digB t).1 = t.take (digB t).2.1.toNat := by
  unfold digB at h ⊢
  cases t with
  | nil => simp [digG] at h
  | cons a t =>
    have ha := hi a (.head _)
    rw [digStep] at h ⊢
    split
    · rename_i ha2
      rw [if_pos ha2] at h
      cases t with
      | nil => simp [digG] at h
      | cons b t =>
        have hb := hi b (.tail _ (.head _))
        rw [digStep] at h ⊢
        split
        · rename_i hb2
          rw [if_pos hb2] at h
          cases t with
          | nil => simp [digG] at h
          | cons c t =>
            have hc := hi c (.tail _ (.tail _ (.head _)))
            rw [digStep] at h ⊢
            split
            · rename_i hc2
              rw [if_pos hc2] at h
              simp [digG] at h
            · rename_i hc2
              rw [if_neg hc2] at h
              split
              · rename_i hz; rw [if_pos hz] at h; simp at h
              · rename_i hz
                have e : (0 + a % 128 * 128 ^ 0 + b % 128 * 128 ^ (0 + 1) + c % 128 * 128 ^ (0 + 1 + 1) : Int) = a % 128 + b % 128 * 128 + c % 128 * 16384 := by
                  simp
                rw [e] at hz ⊢
                have hc0 : c ≠ 0 := fun e0 => hz (.inl ⟨e0, by omega⟩)
                have hle : a % 128 + b % 128 * 128 + c % 128 * 16384 ≤ 1048576 := by
                  rcases Int.lt_or_le 1048576 (a % 128 + b % 128 * 128 + c % 128 * 16384) with hh | hh
                  · exact absurd (.inr hh) hz
                  · exact hh
                have ec : c % 128 = c := by omega
                rw [ec] at hle ⊢
                unfold numB
                rw [if_neg (by omega)]
                simp only [numF]
                rw [if_neg (by omega), if_neg (by omega), if_pos (by omega)]
                have e1 : 128 + (a % 128 + b % 128 * 128 + c * 16384) % 128 = a := by omega
                have e2 : 128 + (a % 128 + b % 128 * 128 + c * 16384) / 128 % 128 = b := by omega
                have e3 : (a % 128 + b % 128 * 128 + c * 16384) / 128 / 128 = c := by omega
                rw [e1, e2, e3]
                rfl
        · rename_i hb2
          rw [if_neg hb2] at h
          split
          · rename_i hz; rw [if_pos hz] at h; simp at h
          · rename_i hz
            have e : (0 + a % 128 * 128 ^ 0 + b % 128 * 128 ^ (0 + 1) : Int) = a % 128 + b % 128 * 128 := by simp
            rw [e] at hz ⊢
            have hb0 : b ≠ 0 := fun e0 => hz (.inl ⟨e0, by omega⟩)
            have ec : b % 128 = b := by omega
            rw [ec] at hz ⊢
            unfold numB
            rw [if_neg (by omega)]
            simp only [numF]
            rw [if_neg (by omega), if_pos (by omega)]
            have e1 : 128 + (a % 128 + b * 128) % 128 = a := by omega
            have e2 : (a % 128 + b * 128) / 128 = b := by omega
            rw [e1, e2]
            rfl
    · rename_i ha2
      rw [if_neg ha2] at h
      split
      · rename_i hz; rw [if_pos hz] at h; simp at h
      · have ec : a % 128 = a := by omega
        rw [ec]
        have e : (0 + a * 128 ^ 0 : Int) = a := by simp
        rw [e]
        unfold numB
        rw [if_neg (by omega)]
        simp only [numF]
        rw [if_pos (by omega)]
        rfl
/-- What is read is what is written of it. -/
theorem readG_again {may : Int → Bool} : ∀ (f : Nat) (b : List Int) (n last : Int) (acc : List Rn), (∀ c ∈ b, 0 ≤ c ∧ c < 256) → 1 ≤ n → (readG may f b n last acc).2 = 0 →
    ∃ l, (readG may f b n last acc).1 = acc ++ l ∧ wrB l = b ∧ Follow may last l ∧ sumR l = n ∧ l ≠ []
  | 0, _, _, _, _, _, _, h => by simp [readG] at h
  | f + 1, [], n, _, acc, _, hn, h => by rw [readG_nil, if_pos (by omega)] at h; simp at h
  | f + 1, c :: t, n, last, acc, hi, hn, h => by
    have hc := hi c (.head _)
    have ht : ∀ c ∈ t, 0 ≤ c ∧ c < 256 := fun q hq => hi q (.tail _ hq)
    rw [readG_cons'] at h ⊢
    split
    · rename_i h1; rw [if_pos h1] at h; simp at h
    rename_i h1
    rw [if_neg h1] at h
    split
    · rename_i h2; rw [if_pos h2] at h; exact absurd h h2
    rename_i h2
    rw [if_neg h2] at h
    split
    · rename_i h3; rw [if_pos h3] at h; simp at h
    rename_i h3
    rw [if_neg h3] at h
    have h2' : (digB t).2.2 = 0 := Decidable.not_not.1 h2
    have hd := digG_ok 3 0 0 t (by omega) h2'
    have hnum := numB_dig ht h2'
    rw [show digG 3 0 0 t = digB t from rfl] at hd
    generalize hdg : digB t = d at *
    obtain ⟨sz, k, er⟩ := d
    simp only at h h3 hd hnum ⊢
    have hmay : may c = true := by
      cases hm : may c with
      | true => rfl
      | false => exact absurd (.inl hm) h1
    have hcl : c ≠ last := fun e => h1 (.inr e)
    have htk : numB sz ++ t.drop k.toNat = t := by rw [hnum]; exact List.take_append_drop _ _
    split
    · rename_i h4
      rw [if_pos h4] at h
      split
      · rename_i h5
        refine ⟨[(sz, c)], rfl, ?_, ⟨by show 1 ≤ sz; omega, by show sz ≤ 1048576; omega, hc.1, hc.2, hmay, hcl, trivial⟩, by simp [sumR]; omega, by simp⟩
        rw [wrB_cons _ _ hc]
        rw [h5, List.append_nil] at htk
        simp [htk, wrB]
      · rename_i h5; rw [if_neg h5] at h; simp at h
    · rename_i h4
      rw [if_neg h4] at h
      obtain ⟨l, e1, e2, e3, e4, e5⟩ := readG_again f (t.drop k.toNat) (n - sz) c (acc ++ [(sz, c)]) (fun q hq => ht q (List.mem_of_mem_drop hq)) (by omega) h
      refine ⟨(sz, c) :: l, by rw [e1]; simp, ?_, ⟨by show 1 ≤ sz; omega, by show sz ≤ 1048576; omega, hc.1, hc.2, hmay, hcl, e3⟩, by rw [sumR_cons]; show sz + sumR l = n; omega, by simp⟩
      rw [wrB_cons _ _ hc, e2]
      show c :: (numB sz ++ t.drop k.toNat) = _
      rw [htk]
theorem wrB_inj {may : Int → Bool} : ∀ {l m : List Rn} {a b : Int}, Follow may a l → Follow may b m → wrB l = wrB m → l = m
  | [], [], _, _, _, _, _ => rfl
  | [], r :: m, _, _, _, h, e => by rw [wrB_cons r m ⟨h.2.2.1, h.2.2.2.1⟩] at e; simp [wrB] at e
  | r :: l, [], _, _, h, _, e => by rw [wrB_cons r l ⟨h.2.2.1, h.2.2.2.1⟩] at e; simp [wrB] at e
  | r :: l, q :: m, _, _, h, h', e => by
    rw [wrB_cons r l ⟨h.2.2.1, h.2.2.2.1⟩, wrB_cons q m ⟨h'.2.2.1, h'.2.2.2.1⟩] at e
    injection e with e1 e2
    have d1 := digB_num (n := r.1) (by have := h.1; omega) h.2.1 (wrB l)
    have d2 := digB_num (n := q.1) (by have := h'.1; omega) h'.2.1 (wrB m)
    rw [e2, d2] at d1
    simp only [Prod.mk.injEq] at d1
    have er : r = q := by
      obtain ⟨r1, r2⟩ := r; obtain ⟨q1, q2⟩ := q
      simp only at e1 d1
      rw [e1, d1.1]
    subst er
    have e3 := List.append_cancel_left e2
    rw [wrB_inj h.2.2.2.2.2.2 h'.2.2.2.2.2.2 e3]
theorem Follow.of {may : Int → Bool} : ∀ {l : List Rn} {last : Int}, (∀ r ∈ l, 1 ≤ r.1 ∧ r.1 ≤ 1048576 ∧ 0 ≤ r.2 ∧ r.2 < 256 ∧ may r.2 = true) → (∀ i q r, l[i]? = some q → l[i + 1]? = some r → q.2 ≠ r.2) → (∀ r, l.head? = some r → r.2 ≠ last) → Follow may last l
  | [], _, _, _, _ => trivial
  | r :: t, last, h1, h2, h3 => by
    obtain ⟨a, b, c, d, e⟩ := h1 r (.head _)
    refine ⟨a, b, c, d, e, h3 r rfl, Follow.of (fun q hq => h1 q (.tail _ hq)) (fun i q s hq hs => h2 (i + 1) q s (by simpa using hq) (by simpa using hs)) (fun q hq => ?_)⟩
    have := h2 0 r q rfl (by cases t <;> simp_all)
    exact fun e => this e.symm
theorem Follow.next {may : Int → Bool} : ∀ {l : List Rn} {last : Int}, Follow may last l → ∀ i q r, l[i]? = some q → l[i + 1]? = some r → q.2 ≠ r.2
  | [], _, _, i, q, r, h, _ => by simp at h
  | [x], _, _, i, q, r, h, h' => by simp at h'
  | x :: y :: t, _, h, 0, q, r, hq, hr => by
    simp at hq hr; subst hq; subst hr
    exact fun e => h.2.2.2.2.2.2.2.2.2.2.2.1 e.symm
  | x :: y :: t, _, h, i + 1, q, r, hq, hr => h.2.2.2.2.2.2.next i q r (by simpa using hq) (by simpa using hr)
theorem Follow.mem {may : Int → Bool} : ∀ {l : List Rn} {last : Int}, Follow may last l → ∀ r ∈ l, 1 ≤ r.1 ∧ r.1 ≤ 1048576 ∧ 0 ≤ r.2 ∧ r.2 < 256 ∧ may r.2 = true
  | [], _, _, r, h => by cases h
  | q :: t, _, h, r, hr => by
    rcases List.mem_cons.1 hr with rfl | hr
    · exact ⟨h.1, h.2.1, h.2.2.1, h.2.2.2.1, h.2.2.2.2.1⟩
    · exact h.2.2.2.2.2.2.mem r hr
theorem Follow.mayR {may : Int → Bool} {l : List Rn} {last : Int} (h : Follow may last l) (hne : 1 ≤ sumR l) : mayR may l (sumR l) = true := by
  unfold Go.Runs.mayR
  rw [decide_eq_true (by omega), mayL_true (fun r hr => ⟨h.pos r hr, (h.mem r hr).2.2.2.2⟩) h.next (fun r _ => by simp) rfl]
  rfl
theorem Follow.okW {may : Int → Bool} {l : List Rn} {last : Int} (h : Follow may last l) (hne : 1 ≤ sumR l) (hs : sumR l ≤ 1048576) : okW may l = true := by
  unfold Go.Code.okW
  rw [chkL_true (fun r hr => h.pos r hr) hs, h.mayR hne]; rfl
end Go.Code
