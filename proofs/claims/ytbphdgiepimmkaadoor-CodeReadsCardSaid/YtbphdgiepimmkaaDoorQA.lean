import Derived.Test.YtbphdgiepimmkaaDoorW
import Derived.Test.YtbphdgiepimmkaaDoorQP
set_option linter.all false
namespace Go.Proofs.YtbphdgiepimmkaaDoor
open Go Go.Vc Go.RowKit Go.Proofs Go.Runs Go.Code

abbrev tByte : TypeId := 5
abbrev yv (b : Int) : List Value := [.int .u8 b]
abbrev RdY (w : World) (s : Sl) (b : List Int) : Prop := RdK w s 1 (b.map yv)
abbrev OwY (B : Nat) (w : World) (s : Sl) (b : List Int) : Prop := OwnK B tByte 1 w s (b.map yv)
abbrev InY (b : List Int) : Prop := ∀ c ∈ b, 0 ≤ c ∧ c < 256
theorem OwY.rdy {B : Nat} {w : World} {s : Sl} {c : List Int} (h : OwY B w s c) : RdY w s c := OwnK.rd h (by omega)
theorem RdY.len {w : World} {s : Sl} {c : List Int} (h : RdY w s c) : s.n = c.length := by have := h.n; simpa using this
theorem RdY.c0 {w : World} {s : Sl} {l : List Int} (h : RdY w s l) {i : Nat} {b : Int} (hi : l[i]? = some b) : ld w (padd s.a (i * 1)) = some (.int .u8 b) := by
  have := h.rd i (yv b) (by rw [List.getElem?_map, hi]; rfl) 0 _ rfl
  simpa using this
theorem RdY.inB {w : World} {s : Sl} {l : List Int} (h : RdY w s l) {i : Nat} (hi : i < l.length) : InB s.a (i : Int) s.n := RdK.inB h (by omega) (by omega) (by have := RdY.len h; omega)
theorem RdY.ll {w : World} {s : Sl} {l : List Int} (h : RdY w s l) : LoadL w s.a 0 (l.map (Value.int .u8)) :=
  LoadL_of fun j v hj => by
    rw [List.getElem?_map, Option.map_eq_some_iff] at hj
    obtain ⟨b, hb, rfl⟩ := hj
    have := RdY.c0 h hb
    simpa using this
theorem str_inj {b c : List Int} (hb : InY b) (hc : InY c) : strOfNums b = strOfNums c ↔ b = c := by
  refine ⟨fun h => ?_, fun h => by rw [h]⟩
  have e : b.map (fun n => UInt8.ofNat n.toNat) = c.map fun n => UInt8.ofNat n.toNat := by
    have := congrArg (fun s : ByteArray => s.data.toList) h
    simpa [strOfNums] using this
  clear h
  induction b generalizing c with
  | nil => cases c with
    | nil => rfl
    | cons y c => simp at e
  | cons x b ih => cases c with
    | nil => simp at e
    | cons y c =>
      simp only [List.map_cons, List.cons.injEq] at e
      have h1 := hb x (.head _)
      have h2 := hc y (.head _)
      have h3 := congrArg UInt8.toNat e.1
      simp at h3
      rw [show x = y from by omega, ih (fun q hq => hb q (.tail _ hq)) (fun q hq => hc q (.tail _ hq)) e.2]
theorem ref06_Same_spec (s t : Sl) (b c : List Int) (w : World) (hs : RdY w s b) (ht : RdY w t c) (hb : InY b) (hc : InY c) :
    Calls Tryd.prog n_ref06_Same #[.slice s.a s.n s.c, .slice t.a t.n t.c] w fun e w' => e = .returned (.bool (decide (b = c))) ∧ w' = w := by
  apply ref06_Same.vc
  refine ⟨b, (RdY.len hs).symm, RdY.ll hs, c, (RdY.len ht).symm, RdY.ll ht, ?_, rfl⟩
  have : strEq (strOfNums b) (strOfNums c) = decide (b = c) := by
    rw [Bool.eq_iff_iff, strEq_iff, str_inj hb hc, decide_eq_true_iff]
  rw [this]
theorem ref06_Few_spec (s : Sl) (b : List Int) (m : Nat) (w : World) (hs : RdY w s b) (hc : s.n ≤ s.c) :
    Calls Tryd.prog n_ref06_Few #[.slice s.a s.n s.c, .int .i64 (m : Nat)] w fun e w' => ∃ t : Sl, e = .returned (.slice t.a t.n t.c) ∧ RdY w t (b.take m) ∧ t.n ≤ t.c ∧ w' = w := by
  have hn := RdY.len hs
  apply ref06_Few.vc
  refine Br.mk (fun h => ?_) (fun h => ?_) <;> simp at h
  · refine ⟨by omega, by omega, ⟨slBase s.a 0 s.c 1, m, s.c⟩, by simp, ?_, by show m ≤ s.c; omega, rfl⟩
    have := RdK.cut hs (m := m) (c' := s.c) (c'' := s.c) (by simp; omega)
    rwa [← List.map_take] at this
  · refine ⟨s, rfl, ?_, hc, rfl⟩
    rw [List.take_of_length_le (by omega)]; exact hs
theorem code_Number_spec (n : Int) (w : World) (hi : inI n) :
    Calls Tryd.prog n_code_Number #[.int .i64 n] w fun e w' => ∃ s : Sl, e = .returned (.slice s.a s.n s.c) ∧ OwY w.heap.size w' s (numB n) ∧ Ext w w' := by
  apply code_Number.vc
  refine Br.mk (fun h => ?_) (fun h => Br.mk (fun h2 => ?_) (fun h2 => ?_)) <;> simp only [decide_eq_true_eq, decide_eq_false_iff_not] at *
  · exact ⟨⟨none, 0, 0⟩, rfl, by unfold numB; rw [if_pos (.inl h)]; exact OwnK.nil, Ext.rfl' w⟩
  · exact ⟨⟨none, 0, 0⟩, rfl, by unfold numB; rw [if_pos (.inr h2)]; exact OwnK.nil, Ext.rfl' w⟩
  have e0 : numB n = numF 3 n := by unfold numB; rw [if_neg (by omega)]
  rw [e0]
  refine ⟨fun m x o wr => ∃ (k : Nat) (b : List Int), k = m ∧ 1 ≤ k ∧ k ≤ 3 ∧ 0 ≤ x ∧ x < 128 ^ k ∧ b.length + k = 3 ∧ Ext w wr ∧ OwY w.heap.size wr o b ∧ b ++ numF k x = numF 3 n, ⟨3, 3, [], rfl, by omega, by omega, by omega, by omega, rfl, Ext.rfl' w, OwnK.nil, rfl⟩, ?_⟩
  rintro m us x o wr ⟨k, b, rfl, k1, k3, hx0, hx, hbk, xr, ho, heq⟩
  have hon := RdY.len (OwY.rdy ho)
  refine Br.mk (fun h3 => ?_) (fun h3 => ?_) <;> simp only [decide_eq_true_eq, decide_eq_false_iff_not] at h3
  · obtain ⟨j, rfl⟩ : ∃ j, k = j + 1 := ⟨k - 1, by omega⟩
    rintro w7 rfl
    rw [or128 x hx0]
    obtain ⟨hp, hres⟩ := OwnK.app1 ho (bytes := 1) (news := yv (128 + x % 128)) (.cells #[.int .u8 (128 + x % 128)] tByte) xr.size rfl (one_i _ _) (by omega) (by omega)
    refine ⟨hp, fun s17 w18 hr' => ?_⟩
    obtain ⟨k1', ho', _, xb, _, _⟩ := hres s17 w18 hr'
    have hdiv : x.fdiv (2 ^ (min (7 : Int).toNat 64)) = x / 128 := by
      rw [show ((2 : Int) ^ (min (7 : Int).toNat 64)) = 128 from by decide]
      exact Int.fdiv_eq_ediv_of_nonneg _ (by omega)
    rw [hdiv]
    have hj : 1 ≤ j := by
      rcases Nat.eq_zero_or_pos j with rfl | h
      · simp at hx; omega
      · exact h
    refine ⟨k1', j, by omega, j, b ++ [128 + x % 128], rfl, hj, by omega, by omega, ?_, by simp; omega, xr.trans xb, ?_, ?_⟩
    · rw [Int.pow_succ] at hx; omega
    · show OwnK _ _ 1 _ _ ((b ++ [128 + x % 128]).map yv)
      rw [List.map_append]; exact ho'
    · rw [← heq]
      show _ = b ++ (if x < 128 then [x] else (128 + x % 128) :: numF j (x / 128))
      rw [if_neg (by omega)]; simp
  · rintro w7 rfl
    have hwx : IntKind.wrap .u8 x = x := by rw [wrap_u8]; omega
    rw [hwx]
    obtain ⟨hp, hres⟩ := OwnK.app1 ho (bytes := 1) (news := yv x) (.cells #[.int .u8 x] tByte) xr.size rfl (one_i _ _) (by omega) (by omega)
    refine ⟨hp, fun s17 w18 hr' => ?_⟩
    obtain ⟨k1', ho', _, xb, _, _⟩ := hres s17 w18 hr'
    refine ⟨k1', s17, rfl, ?_, xr.trans xb⟩
    rw [← heq]
    obtain ⟨j, rfl⟩ : ∃ j, k = j + 1 := ⟨k - 1, by omega⟩
    show OwnK _ _ 1 _ _ ((b ++ (if x < 128 then [x] else (128 + x % 128) :: numF j (x / 128))).map yv)
    rw [if_pos (by omega), List.map_append]; exact ho'
theorem ref06_Number_spec (n : Int) (w : World) (hi : inI n) :
    Calls Tryd.prog n_ref06_Number #[.int .i64 n] w fun e w' => ∃ s : Sl, e = .returned (.slice s.a s.n s.c) ∧ OwY w.heap.size w' s (numB n) ∧ Ext w w' := by
  apply ref06_Number.vc
  refine Br.mk (fun h => ?_) (fun h => Br.mk (fun h2 => ?_) (fun h2 => ?_)) <;> simp only [decide_eq_true_eq, decide_eq_false_iff_not] at *
  · exact ⟨⟨none, 0, 0⟩, rfl, by unfold numB; rw [if_pos (.inl h)]; exact OwnK.nil, Ext.rfl' w⟩
  · exact ⟨⟨none, 0, 0⟩, rfl, by unfold numB; rw [if_pos (.inr h2)]; exact OwnK.nil, Ext.rfl' w⟩
  have e0 : numB n = numF 3 n := by unfold numB; rw [if_neg (by omega)]
  rw [e0]
  refine ⟨fun m i x o wr => ∃ (k : Nat) (b : List Int), k = m ∧ 1 ≤ k ∧ k ≤ 3 ∧ i = 3 - (k : Int) ∧ 0 ≤ x ∧ x < 128 ^ k ∧ x ≤ 1048576 ∧ b.length + k = 3 ∧ Ext w wr ∧ OwY w.heap.size wr o b ∧ b ++ numF k x = numF 3 n, ⟨3, 3, [], rfl, by omega, by omega, by omega, by omega, by omega, by omega, rfl, Ext.rfl' w, OwnK.nil, rfl⟩, ?_⟩
  rintro m us i x o wr ⟨k, b, rfl, k1, k3, rfl, hx0, hx, hxm, hbk, xr, ho, heq⟩
  have hon := RdY.len (OwY.rdy ho)
  obtain ⟨j, rfl⟩ : ∃ j, k = j + 1 := ⟨k - 1, by omega⟩
  have hj : ¬ x < 128 → 1 ≤ j := by
    intro hh
    rcases Nat.eq_zero_or_pos j with rfl | h
    · simp at hx; omega
    · exact h
  refine Br.mk (fun h3 => Br.mk (fun h4 => ?_) (fun h4 => ?_)) (fun h3 => ?_) <;> simp only [decide_eq_true_eq, decide_eq_false_iff_not] at *
  · rintro w7 rfl
    have hwx : IntKind.wrap .u8 x = x := by rw [wrap_u8]; omega
    rw [hwx]
    obtain ⟨hp, hres⟩ := OwnK.app1 ho (bytes := 1) (news := yv x) (.cells #[.int .u8 x] tByte) xr.size rfl (one_i _ _) (by omega) (by omega)
    refine ⟨hp, fun s17 w18 hr' => ?_⟩
    obtain ⟨k1', ho', _, xb, _, _⟩ := hres s17 w18 hr'
    refine ⟨k1', s17, rfl, ?_, xr.trans xb⟩
    rw [← heq]
    show OwnK _ _ 1 _ _ ((b ++ (if x < 128 then [x] else (128 + x % 128) :: numF j (x / 128))).map yv)
    rw [if_pos h4, List.map_append]; exact ho'
  · rintro w7 rfl
    have htm : Int.tmod x 128 = x % 128 := Int.tmod_eq_emod_of_nonneg hx0
    have htd : Int.tdiv x 128 = x / 128 := Int.tdiv_eq_ediv_of_nonneg hx0
    have hw1 := wrap_in (n := 128 + x % 128) (by unfold inI; omega)
    have hw2 := wrap_in (n := x / 128) (by unfold inI; omega)
    have hw3 := wrap_in (n := 3 - ((j + 1 : Nat) : Int) + 1) (by unfold inI; omega)
    rw [htm, htd, hw1, hw2, hw3]
    have hwx : IntKind.wrap .u8 (128 + x % 128) = 128 + x % 128 := by rw [wrap_u8]; omega
    rw [hwx]
    obtain ⟨hp, hres⟩ := OwnK.app1 ho (bytes := 1) (news := yv (128 + x % 128)) (.cells #[.int .u8 (128 + x % 128)] tByte) xr.size rfl (one_i _ _) (by omega) (by omega)
    refine ⟨hp, fun s17 w18 hr' => ?_⟩
    obtain ⟨k1', ho', _, xb, _, _⟩ := hres s17 w18 hr'
    have := hj h4
    refine ⟨k1', j, by omega, j, b ++ [128 + x % 128], rfl, this, by omega, by omega, by omega, ?_, by omega, by simp; omega, xr.trans xb, ?_, ?_⟩
    · rw [Int.pow_succ] at hx; omega
    · show OwnK _ _ 1 _ _ ((b ++ [128 + x % 128]).map yv)
      rw [List.map_append]; exact ho'
    · rw [← heq]
      show _ = b ++ (if x < 128 then [x] else (128 + x % 128) :: numF j (x / 128))
      rw [if_neg h4]; simp
  · omega
end Go.Proofs.YtbphdgiepimmkaaDoor
