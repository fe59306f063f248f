import Derived.Test.YtbnmglonbhdcbaaDoorKB
import Derived.Test.YtbnmglonbhdcbaaDoorGB
import Derived.Test.YtbnmglonbhdcbaaDoorGC
set_option linter.all false
namespace Go.Proofs.YtbnmglonbhdcbaaDoor
open Go Go.Vc Go.RowKit Go.Proofs Go.Chk Go.Runs Go.Code

abbrev p9 : Po := (9, 9)
/-- The chunk 9, 9 is here once, pinned n times; all others are not pinned; none is dirty. -/
def I1 (l : List En) (n : Int) : Prop := ∃ A B C, l = A ++ (p9, C, false, n) :: B ∧ ∀ e ∈ A ++ B, e.1 ≠ p9 ∧ e.2.2.1 = false ∧ e.2.2.2 = 0
theorem I1.all {l : List En} {n : Int} (h : I1 l n) : ∀ e ∈ l, e.2.2.1 = false ∧ (e.2.2.2 = 0 ∨ e.2.2.2 = n) := by
  obtain ⟨A, B, C, rfl, hn⟩ := h
  intro e he
  rcases List.mem_append.1 he with he | he
  · exact ⟨(hn e (List.mem_append_left _ he)).2.1, .inl (hn e (List.mem_append_left _ he)).2.2⟩
  · rcases List.mem_cons.1 he with rfl | he
    · exact ⟨rfl, .inr rfl⟩
    · exact ⟨(hn e (List.mem_append_right _ he)).2.1, .inl (hn e (List.mem_append_right _ he)).2.2⟩
theorem I1.erase {l : List En} {n : Int} (h : I1 l n) {k : Nat} {e : En} (hk : l[k]? = some e) (he : e.1 ≠ p9) : I1 (l.eraseIdx k) n := by
  obtain ⟨A, B, C, rfl, hn⟩ := h
  rcases Nat.lt_trichotomy k A.length with h | h | h
  · rw [List.eraseIdx_append_of_lt_length h]
    refine ⟨A.eraseIdx k, B, C, rfl, fun x hx => hn x ?_⟩
    rcases List.mem_append.1 hx with hx | hx
    · exact List.mem_append_left _ ((List.eraseIdx_sublist ..).subset hx)
    · exact List.mem_append_right _ hx
  · subst h
    rw [List.getElem?_append_right (Nat.le_refl _), Nat.sub_self] at hk
    simp at hk
    exact absurd (by rw [← hk]) he
  · obtain ⟨j, rfl⟩ : ∃ j, k = A.length + (j + 1) := ⟨k - A.length - 1, by omega⟩
    rw [List.eraseIdx_append_of_length_le (by omega), Nat.add_sub_cancel_left]
    refine ⟨A, B.eraseIdx j, C, rfl, fun x hx => hn x ?_⟩
    rcases List.mem_append.1 hx with hx | hx
    · exact List.mem_append_left _ hx
    · exact List.mem_append_right _ ((List.eraseIdx_sublist ..).subset hx)
theorem I1.snoc {l : List En} {n : Int} (h : I1 l n) {e : En} (he : e.1 ≠ p9 ∧ e.2.2.1 = false ∧ e.2.2.2 = 0) : I1 (l ++ [e]) n := by
  obtain ⟨A, B, C, rfl, hn⟩ := h
  refine ⟨A, B ++ [e], C, by simp, fun x hx => ?_⟩
  rw [← List.append_assoc] at hx
  rcases List.mem_append.1 hx with hx | hx
  · exact hn x hx
  · simp at hx; subst hx; exact he
theorem first9 {A B : List En} {C : List Int} {n : Int} (hn : ∀ e ∈ A ++ B, e.1 ≠ p9 ∧ e.2.2.1 = false ∧ e.2.2.2 = 0) : firstI (fun e : En => e.1 == p9) (A ++ (p9, C, false, n) :: B) = A.length ∧ (A ++ (p9, C, false, n) :: B)[A.length]? = some (p9, C, false, n) := by
  have h2 : (A ++ ((p9, C, false, n) : En) :: B)[A.length]? = some (p9, C, false, n) := by
    rw [List.getElem?_append_right (Nat.le_refl _), Nat.sub_self]; rfl
  refine ⟨firstI_at h2 (by simp) (fun j hj y hy => ?_), h2⟩
  rw [List.getElem?_append_left hj] at hy
  have := (hn y (List.mem_append_left _ (List.mem_of_getElem? hy))).1
  simpa using this
theorem modify_mid {α : Type} (f : α → α) (x : α) (B : List α) : ∀ A : List α, (A ++ x :: B).modify A.length f = A ++ f x :: B
  | [] => by simp
  | a :: A => by simp [modify_mid f x B A]
theorem I1.pins {l : List En} {n : Int} (h : I1 l n) : pinsE l p9 = n := by
  obtain ⟨A, B, C, rfl, hn⟩ := h
  obtain ⟨h1, h2⟩ := first9 (C := C) (n := n) hn
  unfold pinsE
  rw [h1, if_pos (by omega), Int.toNat_natCast, h2]; rfl
theorem I1.pin {l : List En} {n : Int} (h : I1 l n) : (pinE l p9).2 = 0 ∧ I1 (pinE l p9).1 (n + 1) := by
  obtain ⟨A, B, C, rfl, hn⟩ := h
  obtain ⟨h1, h2⟩ := first9 (C := C) (n := n) hn
  unfold pinE
  rw [h1, if_pos (by omega), Int.toNat_natCast, modify_mid]
  exact ⟨rfl, A, B, C, rfl, hn⟩
theorem I1.unpin {l : List En} {n : Int} (h : I1 l n) (h0 : n ≠ 0) : (unpinE l p9).2 = 0 ∧ I1 (unpinE l p9).1 (n - 1) := by
  obtain ⟨A, B, C, rfl, hn⟩ := h
  obtain ⟨h1, h2⟩ := first9 (C := C) (n := n) hn
  unfold unpinE
  rw [h1, if_pos (by omega), Int.toNat_natCast, h2, if_neg (by simpa using h0), modify_mid]
  exact ⟨rfl, A, B, C, rfl, hn⟩
theorem I1.unpin0 {l : List En} (h : I1 l 0) : unpinE l p9 = (l, 1) := by
  obtain ⟨A, B, C, rfl, hn⟩ := h
  obtain ⟨h1, h2⟩ := first9 (C := C) (n := 0) hn
  unfold unpinE
  rw [h1, if_pos (by omega), Int.toNat_natCast, h2, Option.map_some, if_pos rfl]
theorem I1.busy {l : List En} {n : Int} (h : I1 l n) (h0 : 0 < n) : unldE l p9 = (l, 10) := by
  obtain ⟨A, B, C, rfl, hn⟩ := h
  obtain ⟨h1, h2⟩ := first9 (C := C) (n := n) hn
  unfold unldE
  rw [h1, if_pos (by omega), Int.toNat_natCast, h2, Option.map_some, Option.getD_some, if_pos h0]
theorem I1.unld {l : List En} (h : I1 l 0) : (unldE l p9).2 = 0 ∧ (∀ e ∈ (unldE l p9).1, e.2.2.1 = false) ∧ (unldE (unldE l p9).1 p9).2 = 6 := by
  obtain ⟨A, B, C, rfl, hn⟩ := h
  obtain ⟨h1, h2⟩ := first9 (C := C) (n := 0) hn
  have e : unldE (A ++ (p9, C, false, 0) :: B) p9 = (A ++ B, 0) := by
    unfold unldE
    rw [h1, if_pos (by omega), Int.toNat_natCast, h2, Option.map_some, Option.getD_some, if_neg (Int.lt_irrefl 0), List.eraseIdx_append_of_length_le (Nat.le_refl _), Nat.sub_self]; rfl
  rw [e]
  refine ⟨rfl, fun x hx => (hn x hx).2.1, ?_⟩
  show (unldE (A ++ B) p9).2 = 6
  unfold unldE
  rw [firstI_none fun y hy => by have := (hn y hy).1; simpa using this, if_neg (by decide)]
/-- What coming of another chunk does. -/
theorem I1.load {seed limit : Int} {l : List En} {n : Int} (h : I1 l n) (h0 : 0 < n) (hl : 1 ≤ limit) (hlen : (l.length : Int) ≤ limit) {q : Po} (hq : inT q) (hne : q ≠ p9) : I1 (ldE seed limit l q).1 n ∧ ((ldE seed limit l q).2 ≠ 0 ↔ limit = 1) := by
  have hlong : 1 ≤ l.length := by obtain ⟨A, B, C, rfl, -⟩ := h; simp; omega
  unfold ldE
  rw [if_neg (by simpa using hq)]
  rcases firstI_cases (fun e : En => e.1 == q) l with ⟨hf, hno⟩ | ⟨k, e, hk, hek, hf, -⟩
  · rw [hf, if_neg (by decide)]
    have hnew : I1 l n → I1 (l ++ [(q, made seed q, false, 0)]) n := fun h => h.snoc ⟨hne, rfl, rfl⟩
    by_cases hr : (l.length : Int) < limit
    · have er : roomE limit l = (l, 0) := by unfold roomE; rw [if_pos hr]
      rw [er, if_neg (by simp)]
      exact ⟨hnew h, ⟨fun e => absurd rfl e, fun e => by omega⟩⟩
    · rcases firstI_cases (fun e : En => e.2.2.2 == 0) l with ⟨hg, hno2⟩ | ⟨j, e, hj, hej, hg, -⟩
      · have er : roomE limit l = (l, 8) := by unfold roomE; rw [if_neg hr, hg, if_pos (by decide)]
        rw [er, if_pos (by simp)]
        refine ⟨h, fun _ => ?_, fun _ => by simp⟩
        obtain ⟨A, B, C, rfl, hn⟩ := h
        have hA : A = [] := by
          cases A with
          | nil => rfl
          | cons a A =>
            have h1 := hno2 a (by simp)
            have h2 := (hn a (by simp)).2.2
            rw [h2] at h1; cases h1
        have hB : B = [] := by
          cases B with
          | nil => rfl
          | cons b B =>
            have h1 := hno2 b (by simp)
            have h2 := (hn b (by simp)).2.2
            rw [h2] at h1; cases h1
        subst hA; subst hB
        simp at hr hlen
        omega
      · have er : roomE limit l = (l.eraseIdx j, 0) := by unfold roomE; rw [if_neg hr, hg, if_neg (by omega), Int.toNat_natCast]
        rw [er, if_neg (by simp)]
        have he9 : e.1 ≠ p9 := by
          intro e9
          obtain ⟨A, B, C, rfl, hn⟩ := h
          have hm := List.mem_of_getElem? hj
          rcases List.mem_append.1 hm with hm | hm
          · exact (hn e (List.mem_append_left _ hm)).1 e9
          · rcases List.mem_cons.1 hm with rfl | hm
            · simp at hej; omega
            · exact (hn e (List.mem_append_right _ hm)).1 e9
        refine ⟨(h.erase hj he9).snoc ⟨hne, rfl, rfl⟩, fun e => absurd rfl e, fun e1 => ?_⟩
        -- of one alone, that is pinned, none is free
        exfalso
        obtain ⟨A, B, C, rfl, hn⟩ := h
        have hAB : A.length + B.length = 0 := by simp at hlen; omega
        have hA : A = [] := List.eq_nil_of_length_eq_zero (by omega)
        have hB : B = [] := List.eq_nil_of_length_eq_zero (by omega)
        subst hA; subst hB
        have hm := List.mem_of_getElem? hj
        simp at hm; subst hm
        exact he9 rfl
  · rw [hf, if_pos (by omega), Int.toNat_natCast, hk]
    have heq : e.1 = q := by simpa using hek
    have he9 : e.1 ≠ p9 := by rw [heq]; exact hne
    have hall : e.2.2.1 = false ∧ e.2.2.2 = 0 := by
      obtain ⟨A, B, C, rfl, hn⟩ := h
      have hm := List.mem_of_getElem? hk
      rcases List.mem_append.1 hm with hm | hm
      · exact (hn e (List.mem_append_left _ hm)).2
      · rcases List.mem_cons.1 hm with rfl | hm
        · exact absurd rfl he9
        · exact (hn e (List.mem_append_right _ hm)).2
    refine ⟨(h.erase hk he9).snoc ⟨he9, hall⟩, fun e => absurd rfl e, fun e1 => ?_⟩
    exfalso
    obtain ⟨A, B, C, rfl, hn⟩ := h
    have hAB : A.length + B.length = 0 := by simp at hlen; omega
    have hA : A = [] := List.eq_nil_of_length_eq_zero (by omega)
    have hB : B = [] := List.eq_nil_of_length_eq_zero (by omega)
    subst hA; subst hB
    have hm := List.mem_of_getElem? hk
    simp at hm; subst hm
    exact he9 rfl
/-- Where none is pinned. -/
def I0 (l : List En) : Prop := ∀ e ∈ l, e.2.2.1 = false ∧ e.2.2.2 = 0
theorem I0.load {seed limit : Int} {l : List En} (h : I0 l) (q : Po) : I0 (ldE seed limit l q).1 := by
  have er : ∀ k, I0 (l.eraseIdx k) := fun k e he => h e ((List.eraseIdx_sublist ..).subset he)
  have hr : I0 (roomE limit l).1 := by
    unfold roomE
    split
    · exact h
    · split
      · exact h
      · exact er _
  have sn : ∀ {l : List En} {m : List En}, I0 l → I0 m → I0 (l ++ m) := fun h1 h2 e he => by
    rcases List.mem_append.1 he with he | he
    · exact h1 e he
    · exact h2 e he
  unfold ldE
  split
  · exact h
  · split
    · refine sn (er _) fun e he => ?_
      simp at he
      exact h e (List.mem_of_getElem? he)
    · split
      · exact hr
      · exact sn hr fun e he => by simp at he; subst he; exact ⟨rfl, rfl⟩
theorem I0.pins {l : List En} (h : I0 l) (p : Po) : pinsE l p = 0 := by
  unfold pinsE
  split
  · cases hk : l[(firstI (fun e : En => e.1 == p) l).toNat]? with
    | none => rfl
    | some e => exact (h e (List.mem_of_getElem? hk)).2
  · rfl
end Go.Proofs.YtbnmglonbhdcbaaDoor
namespace Go.Proofs.YtbnmglonbhdcbaaDoor
open Go Go.Vc Go.RowKit Go.Proofs Go.Chk Go.Runs Go.Code

def In9 (l : List En) (n : Int) : Prop := (0 < n ∧ I1 l n) ∨ (n = 0 ∧ I0 l)
theorem In9.clean {l : List En} {n : Int} (h : In9 l n) : ∀ e ∈ l, e.2.2.1 = false := by
  rcases h with ⟨-, h⟩ | ⟨-, h⟩
  · exact fun e he => (h.all e he).1
  · exact fun e he => (h e he).1
theorem In9.load {seed limit : Int} {l : List En} {n : Int} (h : In9 l n) (hl : 1 ≤ limit) (hlen : (l.length : Int) ≤ limit) {q : Po} (hq : inT q) (hne : q ≠ p9) : In9 (ldE seed limit l q).1 n := by
  rcases h with ⟨h0, h⟩ | ⟨h0, h⟩
  · exact .inl ⟨h0, (h.load h0 hl hlen hq hne).1⟩
  · exact .inr ⟨h0, h.load q⟩
theorem I1.few {l : List En} {n : Int} (h : I1 l n) (h0 : 0 ≤ n) (h5 : n ≤ 5) : ∀ e ∈ l, -1000000000 ≤ e.2.2.2 ∧ e.2.2.2 ≤ 1000000000 := fun e he => by
  rcases (h.all e he).2 with h | h <;> omega
theorem posK_ne (q : Po) : posK q ≠ p9 ∧ inT (posK q) := by
  have h := posK_bd q
  refine ⟨fun e => ?_, by unfold inT; omega⟩
  rw [e] at h
  simp at h
theorem ld9 {lim : Int} (h : 1 ≤ lim) : ldE 1 lim [] p9 = ([(p9, made 1 p9, false, 0)], 0) := by
  have e : roomE lim [] = ([], 0) := by unfold roomE; rw [if_pos (by simp; omega)]
  unfold ldE
  rw [if_neg (by decide), if_neg (by decide), e, if_neg (by decide)]; rfl
theorem TablePins_law (n0 : Int) (hn0 : inI n0) (s : Sl) (z : List Po) (limit : Int) (w : World)
    (hs : RdK w s 2 (z.map fun r => [.int .i64 r.1, .int .i64 r.2])) (hz : ∀ r ∈ z, inI r.1 ∧ inI r.2) (hc : s.n ≤ s.c) :
    Calls Tryd.prog n_law12_TablePins #[.int .i64 n0, .slice s.a s.n s.c, .int .i64 limit] w fun e w' => e = .returned (.bool true) ∧ Ext w w' := by
  apply law12_TablePins.vc
  have hbn := around_bd n0 6 (by decide)
  have hsn := hs.n
  rw [List.length_map] at hsn
  refine (around_spec n0 6 w hn0 (by decide) (by unfold inI; omega)).mono ?_
  rintro e w0 ⟨rfl, hw0⟩
  subst hw0
  generalize around n0 6 = n at hbn ⊢
  refine ⟨_, rfl, (tiNew_spec 1 limit 100000 w0).mono ?_⟩
  rintro e w2 ⟨t, rfl, h0⟩
  have hlim := h0.len
  generalize min (max limit 1) 16 = lim at h0 hlim
  refine ⟨_, rfl, Br.mk (fun h => by cases h) (fun _ w4 e4 w5 e5 => ?_)⟩
  have x25 : Ext w2 w5 := ((Ext.rfl' _).of_alloc e4).of_setRow e5 (Nat.le_refl _)
  have hR5 : Row w5 w2.heap.size [.int .i64 9, .int .i64 9] tPo := by
    rw [e5]; exact Row.set (by rw [e4]; exact Row.new w2 [_, _] _) _
  clear e4 e5
  have hne := h0.ext x25
  refine (tiLoad_spec hne (.inl (by simp)) p9).mono ?_
  rintro e w6 ⟨rfl, h6, kp6⟩
  rw [ld9 hlim.2.1] at h6 ⊢
  generalize made 1 p9 = M at h6
  refine ⟨_, rfl, kp6 _ _ hR5, fun k i w' => i = n - k ∧ 0 ≤ i ∧ TI w0 w' t 1 lim [(p9, M, false, i)] ∧ Row w' w2.heap.size [.int .i64 9, .int .i64 9] tPo, ⟨n.toNat, rfl, by omega, by omega, h6, kp6.row hR5⟩, ?_⟩
  rintro k us i w12 ⟨hi, hi0, hT, hR⟩
  have hI1 : ∀ m, I1 [(p9, M, false, m)] m := fun m => ⟨[], [], M, rfl, by simp⟩
  refine Br.mk (fun hb => ?_) (fun hb => ?_)
  · simp only [decide_eq_true_eq] at hb
    refine (tiPin_spec hT ((hI1 i).few hi0 (by omega)) p9).mono ?_
    rintro e w14 ⟨rfl, h14, kp14⟩
    have ep : pinE [(p9, M, false, i)] p9 = ([(p9, M, false, i + 1)], 0) := rfl
    rw [ep] at h14 ⊢
    have wr : IntKind.wrap .i64 (i + 1) = i + 1 := wrap_in (by unfold inI; omega)
    refine ⟨_, rfl, kp14 _ _ hR, nope rfl ⟨k - 1, by omega, rfl, ?_⟩⟩
    rw [wr]
    exact ⟨by omega, by omega, h14, kp14.row hR⟩
  · simp only [decide_eq_false_iff_not] at hb
    have hin : i = n := by omega
    subst hin
    clear hb
    refine ⟨fun k j w' => ∃ l, 0 ≤ j ∧ j + k = s.n ∧ TI w0 w' t 1 lim l ∧ In9 l i ∧ Row w' w2.heap.size [.int .i64 9, .int .i64 9] tPo, ⟨s.n, rfl, _, Int.le_refl _, by omega, hT, ?_, hR⟩, ?_⟩
    · by_cases h : 0 < i
      · exact .inl ⟨h, hI1 i⟩
      · have : i = 0 := by omega
        subst this
        exact .inr ⟨rfl, fun e he => by simp at he; subst he; exact ⟨rfl, rfl⟩⟩
    rintro k2 us2 j w20 ⟨l, hj0, hjk, hT2, hIn, hR2⟩
    refine Br.mk (fun h1 => Br.mk (fun h2 => ?_) (fun h2 => ?_)) (fun h1 => ?_)
    · simp only [decide_eq_true_eq] at h1 h2
      obtain ⟨q, hq⟩ : ∃ q, z[j.toNat]? = some q := ⟨_, List.getElem?_eq_getElem (by omega)⟩
      have hsx := hs.ext hT2.x
      refine ⟨hsx.inB (by decide) hj0 (by omega), q.1, q.2, hsx.loadL (by rw [List.getElem?_map, hq]; rfl), (rPos_spec q (hz q (List.mem_of_getElem? hq)) w20).mono ?_⟩
      rintro e w24 ⟨rfl, x24⟩
      refine ⟨_, _, rfl, x24.heap hR2.lt, (tiLoad_spec (hT2.ext x24) (.inl hIn.clean) (posK q)).mono ?_⟩
      rintro e w27 ⟨rfl, h27, kp27⟩
      have hR27 := kp27.row (hR2.ext x24)
      have hln := hT2.len
      have hpq := posK_ne q
      have hIn' := hIn.load (seed := 1) hln.2.1 hln.1 hpq.2 hpq.1
      have wr : IntKind.wrap .i64 (j + 1) = j + 1 := wrap_in (by unfold inI; omega)
      refine ⟨_, rfl, kp27 _ _ (hR2.ext x24), Br.mk (fun hb => ?_) (fun hb => ?_)⟩
      · simp only [decide_eq_true_eq] at hb
        rcases hIn with ⟨-, hI⟩ | ⟨h, -⟩
        · obtain ⟨hI', hcode⟩ := hI.load (seed := 1) hb hln.2.1 hln.1 hpq.2 hpq.1
          refine (tiPins_spec h27 p9).mono ?_
          rintro e w29 ⟨rfl, h29, kp29⟩
          rw [hI'.pins]
          have hR29 := kp29.row hR27
          refine ⟨_, rfl, kp29 _ _ hR27, nope (by simp) ?_⟩
          refine (tiCap_spec h29).mono ?_
          rintro e w31 ⟨rfl, hw⟩
          subst hw
          refine ⟨_, rfl, rfl, nope ?_ ⟨k2 - 1, by omega, rfl, ?_⟩⟩
          · by_cases hl1 : lim = 1
            · have := hcode.2 hl1
              rw [bne_iff_ne.2 this, beq_iff_eq.2 hl1]; rfl
            · have h3 : (ldE 1 lim l (posK q)).2 = 0 := Decidable.byContradiction fun h => hl1 (hcode.1 h)
              rw [h3, beq_eq_false_iff_ne.2 hl1]; rfl
          · rw [wr]
            exact ⟨_, by omega, by omega, h29, hIn', hR29⟩
        · omega
      · refine ⟨k2 - 1, by omega, rfl, ?_⟩
        rw [wr]
        exact ⟨_, by omega, by omega, h27, hIn', hR27⟩
    all_goals
      clear h1
      refine Br.mk (fun hb => ?_) (fun hb => ?_)
      · simp only [beq_iff_eq] at hb
        rcases hIn with ⟨h, -⟩ | ⟨-, hI⟩
        · omega
        · refine (tiPins_spec hT2 p9).mono ?_
          rintro e w33 ⟨rfl, h33, kp33⟩
          have hR33 := kp33.row hR2
          rw [hI.pins]
          refine ⟨_, rfl, kp33 _ _ hR2, yes rfl ((lives12_spec w33).mono ?_)⟩
          rintro e w35 ⟨rfl, x35⟩
          exact ⟨_, rfl, x35.heap hR33.lt, rfl, h33.x.tr x35⟩
      · simp only [beq_eq_false_iff_ne] at hb
        rcases Or.symm hIn with ⟨h, -⟩ | ⟨hpos, hI⟩
        · exact absurd h hb
        refine ⟨fun k m w' => ∃ l, 0 ≤ m ∧ m + k = i ∧ TI w0 w' t 1 lim l ∧ I1 l k ∧ Row w' w2.heap.size [.int .i64 9, .int .i64 9] tPo, ⟨i.toNat, rfl, l, Int.le_refl _, by omega, hT2, by rw [Int.toNat_of_nonneg (by omega)]; exact hI, hR2⟩, ?_⟩
        clear hI hIn hT2 hR2 l
        rintro k3 us3 m w41 ⟨l, hm0, hmk, hT3, hI, hR3⟩
        refine Br.mk (fun hb2 => ?_) (fun hb2 => ?_)
        · simp only [decide_eq_true_eq] at hb2
          have hk0 : (0 : Int) < k3 := by omega
          refine (tiUnload_spec hT3 p9 fun e he _ => (hI.all e he).1).mono ?_
          rintro e w43 ⟨rfl, h43, kp43⟩
          have hR43 := kp43.row hR3
          rw [hI.busy hk0] at h43 ⊢
          refine ⟨_, rfl, kp43 _ _ hR3, nope rfl ?_⟩
          refine (tiUnpin_spec h43 (hI.few (by omega) (by omega)) p9).mono ?_
          rintro e w45 ⟨rfl, h45, kp45⟩
          have hR45 := kp45.row hR43
          obtain ⟨hc0, hI'⟩ := hI.unpin (by omega)
          rw [hc0]
          have wr : IntKind.wrap .i64 (m + 1) = m + 1 := wrap_in (by unfold inI; omega)
          refine ⟨_, rfl, kp45 _ _ hR43, nope rfl ⟨k3 - 1, by omega, rfl, ?_⟩⟩
          rw [wr]
          refine ⟨_, by omega, by omega, h45, ?_, hR45⟩
          have : ((k3 - 1 : Nat) : Int) = (k3 : Int) - 1 := by omega
          rw [this]; exact hI'
        · simp only [decide_eq_false_iff_not] at hb2
          have hk0 : k3 = 0 := by omega
          subst hk0
          refine (tiUnpin_spec hT3 (hI.few (by omega) (by omega)) p9).mono ?_
          rintro e w47 ⟨rfl, h47, kp47⟩
          have hR47 := kp47.row hR3
          have hI0 : I1 l 0 := hI
          rw [hI0.unpin0] at h47 ⊢
          refine ⟨_, rfl, kp47 _ _ hR3, yes rfl ?_⟩
          refine (tiUnload_spec h47 p9 fun e he _ => (hI.all e he).1).mono ?_
          rintro e w49 ⟨rfl, h49, kp49⟩
          have hR49 := kp49.row hR47
          obtain ⟨hu1, hu2, hu3⟩ := hI0.unld
          rw [hu1]
          refine ⟨_, rfl, kp49 _ _ hR47, yes rfl ?_⟩
          refine (tiUnload_spec h49 p9 fun e he _ => hu2 e he).mono ?_
          rintro e w51 ⟨rfl, h51, kp51⟩
          have hR51 := kp51.row hR49
          rw [hu3]
          refine ⟨_, rfl, kp51 _ _ hR49, yes rfl ((lives12_spec w51).mono ?_)⟩
          rintro e w53 ⟨rfl, x53⟩
          exact ⟨_, rfl, x53.heap hR51.lt, rfl, h51.x.tr x53⟩
end Go.Proofs.YtbnmglonbhdcbaaDoor
namespace Go.Proofs.YtbnmglonbhdcbaaDoor
open Go Go.Vc Go.RowKit Go.Proofs Go.Chk Go.Runs Go.Code

abbrev rP (q : Po) : List Value := [.int .i64 q.1, .int .i64 q.2]
def nq (p q : Po) : Bool := !(q.1 == p.1 && q.2 == p.2)
theorem nq_iff {p q : Po} : nq p q = true ↔ q ≠ p := by
  unfold nq
  rw [Bool.not_eq_true', Bool.and_eq_false_iff, beq_eq_false_iff_ne, beq_eq_false_iff_ne]
  constructor
  · rintro h rfl
    rcases h with h | h <;> exact h rfl
  · intro h
    by_cases h1 : q.1 = p.1
    · exact .inr fun h2 => h (Prod.ext h1 h2)
    · exact .inl h1
theorem nq_self (p : Po) : nq p p = false := by unfold nq; simp
theorem nq_all {p : Po} {l : List En} (h : ∀ e ∈ l, e.1 ≠ p) : (l.map (·.1)).filter (nq p) = l.map (·.1) := List.filter_eq_self.2 fun q hq => by
  obtain ⟨e, he, rfl⟩ := List.mem_map.1 hq
  exact nq_iff.2 (h e he)
/-- The row of the places, as the law keeps it. -/
def rowW (limit : Int) (ps : List Po) (p : Po) : List Po :=
  if limit < ((ps.filter (nq p) ++ [p]).length : Int) then (ps.filter (nq p) ++ [p]).drop 1 else ps.filter (nq p) ++ [p]
theorem rowW_nodup {limit : Int} {ps : List Po} {p : Po} (h : ps.Nodup) : (rowW limit ps p).Nodup := by
  have h1 : (ps.filter (nq p) ++ [p]).Nodup := by
    refine List.nodup_append.2 ⟨List.Pairwise.sublist List.filter_sublist h, by simp, fun a ha b hb => ?_⟩
    simp only [List.mem_singleton] at hb
    subst hb
    exact nq_iff.1 (List.mem_filter.1 ha).2
  unfold rowW
  split
  · exact List.Pairwise.sublist (List.drop_sublist 1 _) h1
  · exact h1
theorem row_ld {seed limit : Int} {l : List En} {p : Po} (hI : I0 l) (hp : inT p) (hnd : (l.map (·.1)).Nodup) (hlen : (l.length : Int) ≤ limit) (hl : 1 ≤ limit) :
    (ldE seed limit l p).2 = 0 ∧ (ldE seed limit l p).1.map (·.1) = rowW limit (l.map (·.1)) p := by
  unfold ldE rowW
  rw [if_neg (by simpa using hp)]
  rcases firstI_cases (fun e : En => e.1 == p) l with ⟨hf, hno⟩ | ⟨k, e, hk, hek, hf, -⟩
  · rw [hf, if_neg (by decide), nq_all fun e he => by simpa using hno e he]
    by_cases hr : (l.length : Int) < limit
    · have er : roomE limit l = (l, 0) := by unfold roomE; rw [if_pos hr]
      rw [er, if_neg (by simp), if_neg (by simp; omega)]
      exact ⟨rfl, by simp⟩
    · cases l with
      | nil => simp at hr; omega
      | cons x r =>
        have h0 : firstI (fun e : En => e.2.2.2 == 0) (x :: r) = ((0 : Nat) : Int) := firstI_at (k := 0) (x := x) rfl (by simp [(hI x (by simp)).2]) (by omega)
        have er : roomE limit (x :: r) = (r, 0) := by unfold roomE; rw [if_neg hr, h0, if_neg (by omega)]; rfl
        rw [er, if_neg (by simp), if_pos (by simp at hr ⊢; omega)]
        exact ⟨rfl, by simp⟩
  · rw [hf, if_pos (by omega), Int.toNat_natCast, hk]
    have heq : e.1 = p := by simpa using hek
    obtain ⟨A, B, hl2, hkA⟩ : ∃ A B, l = A ++ e :: B ∧ k = A.length := by
      obtain ⟨hkl, he⟩ := List.getElem?_eq_some_iff.1 hk
      exact ⟨l.take k, l.drop (k + 1), by rw [← he, ← List.drop_eq_getElem_cons hkl, List.take_append_drop], by rw [List.length_take]; omega⟩
    subst hl2
    subst hkA
    rw [List.eraseIdx_append_of_length_le (Nat.le_refl _), Nat.sub_self]
    rw [List.map_append, List.map_cons, heq] at hnd
    obtain ⟨-, h2, h3⟩ := List.nodup_append.1 hnd
    have hA := nq_all (p := p) (l := A) fun x hx => h3 _ (List.mem_map.2 ⟨x, hx, rfl⟩) _ (by simp)
    have hB := nq_all (p := p) (l := B) fun x hx hxp => (List.nodup_cons.1 h2).1 (by rw [← hxp]; exact List.mem_map.2 ⟨x, hx, rfl⟩)
    have hW : ((A ++ e :: B).map (·.1)).filter (nq p) = A.map (·.1) ++ B.map (·.1) := by
      rw [List.map_append, List.map_cons, List.filter_append, hA, heq, List.filter_cons, nq_self, if_neg (by decide), hB]
    rw [hW, if_neg (by simp at hlen ⊢; omega)]
    refine ⟨rfl, ?_⟩
    show (A ++ B ++ [e]).map (·.1) = _
    simp [heq]
/-- A slice of places, of which an owned row stays. -/
def Wn (w : World) (s : Sl) (ps : List Po) : Prop := ∃ s0 rows0, OwnK 0 tPo 2 w s0 rows0 ∧ ∀ w', RdK w' s0 2 rows0 → RdK w' s 2 (ps.map rP)
theorem Wn.ext {w w' : World} {s : Sl} {ps : List Po} (h : Wn w s ps) (x : Ext w w') : Wn w' s ps := by
  obtain ⟨s0, r0, h1, h2⟩ := h
  exact ⟨s0, r0, h1.ext x, h2⟩
theorem Wn.kp {w w' : World} {s : Sl} {ps : List Po} (h : Wn w s ps) (k : KP w w') : Wn w' s ps := by
  obtain ⟨s0, r0, h1, h2⟩ := h
  exact ⟨s0, r0, k.own (by decide) h1, h2⟩
theorem Wn.nil (w : World) : Wn w ⟨none, 0, 0⟩ [] := ⟨_, _, OwnK.nil, fun _ h => h⟩
theorem Wn.rd {w : World} {s : Sl} {ps : List Po} (h : Wn w s ps) : RdK w s 2 (ps.map rP) := by
  obtain ⟨s0, r0, h1, h2⟩ := h
  exact h2 w (h1.rd (by decide))
theorem TableRow_law (s : Sl) (z : List Po) (limit : Int) (w : World)
    (hs : RdK w s 2 (z.map fun r => [.int .i64 r.1, .int .i64 r.2])) (hz : ∀ r ∈ z, inI r.1 ∧ inI r.2) (hc : s.n ≤ s.c) :
    Calls Tryd.prog n_law12_TableRow #[.slice s.a s.n s.c, .int .i64 limit] w fun e w' => e = .returned (.bool true) ∧ Ext w w' := by
  apply law12_TableRow.vc
  have hsn := hs.n
  rw [List.length_map] at hsn
  refine (tiNew_spec 0 limit 0 w).mono ?_
  rintro e w0 ⟨t, rfl, h0⟩
  obtain ⟨lim, hdef⟩ : ∃ lim, lim = min (max limit 1) 16 := ⟨_, rfl⟩
  rw [← hdef] at h0
  refine ⟨_, rfl, Br.mk (fun h => by cases h) (fun _ => ?_)⟩
  refine ⟨fun n i s' w' => ∃ l, 0 ≤ i ∧ i + n = s.n ∧ TI w w' t 0 lim l ∧ I0 l ∧ (l.map (·.1)).Nodup ∧ Wn w' s' (l.map (·.1)), ⟨s.n, [], Int.le_refl _, by omega, h0, by intro e he; simp at he, by simp, Wn.nil w0⟩, ?_⟩
  rintro n3 us i s6 w7 ⟨l, hi0, hin, hT, hI, hnd, hW⟩
  refine Br.mk (fun h1 => Br.mk (fun h2 => ?_) (fun h2 => ?_)) (fun h1 => ?_)
  · simp only [decide_eq_true_eq] at h1 h2
    obtain ⟨q, hq⟩ : ∃ q, z[i.toNat]? = some q := ⟨_, List.getElem?_eq_getElem (by omega)⟩
    have hsx := hs.ext hT.x
    refine ⟨hsx.inB (by decide) hi0 (by omega), q.1, q.2, hsx.loadL (by rw [List.getElem?_map, hq]; rfl), (rPos_spec q (hz q (List.mem_of_getElem? hq)) w7).mono ?_⟩
    rintro e w11 ⟨rfl, x11⟩
    have hpK := (posK_ne q).2
    generalize posK q = p at hpK ⊢
    refine ⟨_, _, rfl, fun w14 e14 w15 e15 => ?_⟩
    have x15 : Ext w11 w15 := ((Ext.rfl' _).of_alloc e14).of_setRow e15 (Nat.le_refl _)
    have hR15 : Row w15 w11.heap.size [.int .i64 p.1, .int .i64 p.2] tPo := by
      rw [e15]; exact Row.set (by rw [e14]; exact Row.new w11 [_, _] _) _
    clear e14 e15
    refine (tiLoad_spec ((hT.ext x11).ext x15) (.inl fun e he => (hI e he).1) p).mono ?_
    rintro e w16 ⟨rfl, h16, kp16⟩
    have hR16 := kp16.row hR15
    have z16 := hR16.lt
    have hln := hT.len
    obtain ⟨hcode, hrow⟩ := row_ld (seed := 0) hI hpK hnd hln.1 hln.2.1
    have hI16 := hI.load (seed := 0) (limit := lim) p
    have hl16 := h16.len
    generalize (ldE 0 lim l p).2 = code at hcode ⊢
    subst hcode
    generalize (ldE 0 lim l p).1 = l' at h16 hrow hI16 hl16
    have hnd' : (l'.map (·.1)).Nodup := by rw [hrow]; exact rowW_nodup hnd
    have hW16 := ((hW.ext x11).ext x15).kp kp16
    obtain ⟨ps, hps⟩ : ∃ ps, ps = l.map (·.1) := ⟨_, rfl⟩
    have hpl : ps.length = l.length := by rw [hps, List.length_map]
    rw [← hps] at hrow hW16
    have wk : ∀ j : Nat, j < 100 → IntKind.wrap .i64 ((j : Int) + 1) = ((j + 1 : Nat) : Int) := fun j hj => by rw [wrap_in (by unfold inI; omega)]; omega
    have wi : IntKind.wrap .i64 (i + 1) = i + 1 := wrap_in (by unfold inI; omega)
    refine ⟨_, rfl, kp16 _ _ hR15, nope rfl ?_⟩
    refine ⟨fun n k s22 w23 => ∃ j : Nat, k = j ∧ j + n = ps.length ∧ Ext w16 w23 ∧ OwnK w16.heap.size tPo 2 w23 s22 (((ps.take j).filter (nq p)).map rP), ⟨ps.length, rfl, 0, rfl, by omega, Ext.rfl' _, OwnK.nil⟩, ?_⟩
    rintro n19 us20 k s22 w23 ⟨j, rfl, hj, x23, ho⟩
    have z23 := x23.size
    have hon : s22.n ≤ 16 := by
      have h3 := (ho.rd (show 0 < 2 by decide)).n
      rw [List.length_map] at h3
      have h4 := List.length_filter_le (nq p) (ps.take j)
      rw [List.length_take] at h4
      omega
    have hbk : s22.blk ≠ some w11.heap.size := fun e => by have := (ho.own.lt e).1; omega
    have hrd := (hW16.ext x23).rd
    have hrn : s6.n = ps.length := by have := hrd.n; rw [List.length_map] at this; exact this
    refine Br.mk (fun hb => ?_) (fun hb => ?_)
    · simp only [decide_eq_true_eq] at hb
      obtain ⟨y, hy⟩ := get_lt (l := ps) (i := j) (by omega)
      have hib := hrd.inB (i := (j : Int)) (by decide) (by omega) (by omega)
      have hld := (hrd.ext (Ext.dr w23)).loadL (i := j) (r := rP y) (by rw [List.getElem?_map, hy]; rfl)
      have ht : (ps.take (j + 1)).filter (nq p) = (ps.take j).filter (nq p) ++ [y].filter (nq p) := by rw [List.take_add_one, hy, List.filter_append]; rfl
      refine ⟨hib, y.1, y.2, hld, Br.mk (fun hb2 => ⟨hib, y.1, y.2, hld, fun w29 e29 => ?_⟩) (fun hb2 => ⟨n19 - 1, by omega, rfl, j + 1, wk j (by omega), by omega, x23.tr (Ext.dr _), ?_⟩)⟩
      · subst e29
        obtain ⟨hp, hres⟩ := (ho.ext (Ext.dr w23)).app1 (bytes := 16) (news := rP y) (.cells #[.int .i64 y.1, .int .i64 y.2] 23) z23 rfl (one_ii _ _ _ _) (by omega) (by omega)
        refine ⟨hp, fun s30 w31 hr => ?_⟩
        obtain ⟨f1, ho31, -, xb, hk31, -⟩ := hres _ _ hr
        refine ⟨?_, f1, n19 - 1, by omega, rfl, j + 1, wk j (by omega), by omega, (x23.tr (Ext.dr _)).trans xb, ?_⟩
        · rw [hk31 _ hbk (show w11.heap.size < w23.heap.size by omega)]
          exact ((Ext.al w23.drew _).heap (show w11.heap.size < w23.heap.size by omega)).symm
        · have e1 : [y].filter (nq p) = [y] := by rw [List.filter_cons, if_pos (show nq p y = true from hb2)]; rfl
          rw [ht, e1, List.map_append]
          exact ho31
      · have e1 : [y].filter (nq p) = [] := by rw [List.filter_cons, if_neg (by have : nq p y = false := hb2; rw [this]; decide)]; rfl
        rw [ht, e1, List.append_nil]
        exact ho.ext (Ext.dr w23)
    · simp only [decide_eq_false_iff_not] at hb
      rw [List.take_of_length_le (by omega)] at ho
      intro w32 e32
      subst e32
      obtain ⟨hp, hres⟩ := ho.app1 (bytes := 16) (news := rP p) (.cells #[.int .i64 p.1, .int .i64 p.2] 23) z23 rfl (one_ii _ _ _ _) (by omega) (by omega)
      refine ⟨hp, fun s33 w34 hr => ?_⟩
      obtain ⟨f1, ho34, hn34, xb, hk34, -⟩ := hres _ _ hr
      have x34 : Ext w16 w34 := x23.trans xb
      have z34 := x34.size
      have hr34 : Row w34 w11.heap.size [.int .i64 p.1, .int .i64 p.2] tPo := hR16.ext x34
      have hlt23 : w23.heap.size < w34.heap.size := (Row.same (Row.new w23 [.int .i64 p.1, .int .i64 p.2] 23) f1).lt
      have hW34 : OwnK w16.heap.size tPo 2 w34 s33 ((ps.filter (nq p) ++ [p]).map rP) := by rw [List.map_append]; exact ho34
      have hn33 := (hW34.rd (show 0 < 2 by decide)).n
      rw [List.length_map] at hn33
      have hc33 : s33.n ≤ s33.c := by
        rcases hW34.form (show 0 < 2 by decide) with ⟨h, -⟩ | ⟨g, cs, -, -, -, -, h, -⟩
        · rw [h]; exact Nat.le_refl _
        · exact h
      refine ⟨?_, f1, (tiCap_spec (h16.ext x34)).mono ?_⟩
      · rw [hk34 _ hbk (by omega)]
        exact ((Ext.al w23 _).heap (by omega)).symm
      rintro e w35 ⟨rfl, hw⟩
      subst hw
      refine ⟨_, rfl, rfl, rfl, Br.mk (fun hb3 => ?_) (fun hb3 => ?_)⟩
      · simp only [decide_eq_true_eq] at hb3
        have hrow' : l'.map (·.1) = (ps.filter (nq p) ++ [p]).drop 1 := by rw [hrow]; unfold rowW; rw [if_pos (by omega)]
        have hw : ∀ w', RdK w' s33 2 ((ps.filter (nq p) ++ [p]).map rP) → RdK w' ⟨slBase s33.a 1 s33.c 2, s33.n - 1, s33.c - 1⟩ 2 ((l'.map (·.1)).map rP) := fun w' h => by
          have h3 := h.rest (l := 1) (m := s33.c) (n' := s33.n - 1) (c' := s33.c - 1) (by rw [List.length_map]; omega) (fun e => by rw [List.length_map]; omega)
          rw [← List.map_drop, ← hrow'] at h3
          exact h3
        have hll : l'.length = s33.n - 1 := by rw [← List.length_map (f := (·.1)), hrow', List.length_drop]; omega
        refine ⟨by decide, by omega, (tiHere_spec (h16.ext x34)).mono ?_⟩
        rintro e w37 ⟨s38, rfl, ho38, x37⟩
        have hrd38 := ho38.rd (show 0 < 2 by decide)
        have hn38 := hrd38.n
        rw [List.length_map] at hn38
        refine ⟨_, rfl, x37.heap hr34.lt, x37.heap hlt23, nope (by rw [hn38, hll]; simp) ?_⟩
        refine ⟨fun n k w' => 0 ≤ k ∧ k + n = (l'.length : Int) ∧ Ext w37 w', ⟨l'.length, rfl, rfl, Int.le_refl _, by omega, Ext.rfl' _⟩, ?_⟩
        rintro n40 us41 k w43 ⟨hk0, hkn, x43⟩
        refine Br.mk (fun hb4 => ?_) (fun hb4 => ?_)
        · simp only [decide_eq_true_eq] at hb4
          have hb5 : k < ((s33.n - 1 : Nat) : Int) := hb4
          obtain ⟨y, hy⟩ := get_lt (l := l') (i := k.toNat) (by omega)
          have hA := hrd38.ext (x43.tr (Ext.dr _))
          have hB := hw _ ((hW34.ext (x37.tr (x43.tr (Ext.dr _)))).rd (by decide))
          have wkk : IntKind.wrap .i64 (k + 1) = k + 1 := wrap_in (by unfold inI; omega)
          refine ⟨hA.inB (by decide) hk0 (by omega), y.1.1, y.1.2, hA.loadL (by rw [List.getElem?_map, hy]; rfl), hB.inB (by decide) hk0 hb5, y.1.1, y.1.2, hB.loadL (by rw [List.getElem?_map, List.getElem?_map, hy]; rfl), nope (by simp) ⟨n40 - 1, by omega, rfl, rfl, ?_⟩⟩
          rw [wkk]
          exact ⟨by omega, by omega, x43.tr (Ext.dr _)⟩
        · refine ⟨n3 - 1, by omega, l', by omega, by rw [wi]; omega, (h16.ext x34).ext (x37.tr x43), hI16, hnd', s33, _, (hW34.ext (x37.tr x43)).low (Nat.zero_le _), hw⟩
      · simp only [decide_eq_false_iff_not] at hb3
        have hrow' : l'.map (·.1) = ps.filter (nq p) ++ [p] := by rw [hrow]; unfold rowW; rw [if_neg (by omega)]
        have hw : ∀ w', RdK w' s33 2 ((ps.filter (nq p) ++ [p]).map rP) → RdK w' s33 2 ((l'.map (·.1)).map rP) := fun w' h => by rw [hrow']; exact h
        have hll : l'.length = s33.n := by rw [← List.length_map (f := (·.1)), hrow']; exact hn33.symm
        refine (tiHere_spec (h16.ext x34)).mono ?_
        rintro e w37 ⟨s38, rfl, ho38, x37⟩
        have hrd38 := ho38.rd (show 0 < 2 by decide)
        have hn38 := hrd38.n
        rw [List.length_map] at hn38
        refine ⟨_, rfl, x37.heap hr34.lt, x37.heap hlt23, nope (by rw [hn38, hll]; simp) ?_⟩
        refine ⟨fun n k w' => 0 ≤ k ∧ k + n = (l'.length : Int) ∧ Ext w37 w', ⟨l'.length, rfl, rfl, Int.le_refl _, by omega, Ext.rfl' _⟩, ?_⟩
        rintro n40 us41 k w43 ⟨hk0, hkn, x43⟩
        refine Br.mk (fun hb4 => ?_) (fun hb4 => ?_)
        · simp only [decide_eq_true_eq] at hb4
          obtain ⟨y, hy⟩ := get_lt (l := l') (i := k.toNat) (by omega)
          have hA := hrd38.ext (x43.tr (Ext.dr _))
          have hB := hw _ ((hW34.ext (x37.tr (x43.tr (Ext.dr _)))).rd (by decide))
          have wkk : IntKind.wrap .i64 (k + 1) = k + 1 := wrap_in (by unfold inI; omega)
          refine ⟨hA.inB (by decide) hk0 (by omega), y.1.1, y.1.2, hA.loadL (by rw [List.getElem?_map, hy]; rfl), hB.inB (by decide) hk0 (by omega), y.1.1, y.1.2, hB.loadL (by rw [List.getElem?_map, List.getElem?_map, hy]; rfl), nope (by simp) ⟨n40 - 1, by omega, rfl, rfl, ?_⟩⟩
          rw [wkk]
          exact ⟨by omega, by omega, x43.tr (Ext.dr _)⟩
        · refine ⟨n3 - 1, by omega, l', by omega, by rw [wi]; omega, (h16.ext x34).ext (x37.tr x43), hI16, hnd', s33, _, (hW34.ext (x37.tr x43)).low (Nat.zero_le _), hw⟩
  all_goals
    refine (tiCap_spec hT).mono ?_
    rintro e w61 ⟨rfl, hw⟩
    subst hw
    refine ⟨_, rfl, yes ?_ ((lives12_spec w61).mono ?_)⟩
    · rw [beq_iff_eq, hdef]
      split <;> split <;> omega
    · rintro e w63 ⟨rfl, x63⟩
      exact ⟨_, rfl, rfl, hT.x.tr x63⟩
end Go.Proofs.YtbnmglonbhdcbaaDoor
