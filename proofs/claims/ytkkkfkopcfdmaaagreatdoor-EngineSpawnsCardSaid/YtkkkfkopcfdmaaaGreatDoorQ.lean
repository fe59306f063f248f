import Derived.Test.YtkkkfkopcfdmaaaGreatDoorR
import Derived.Test.YtkkkfkopcfdmaaaGreatDoorP
set_option linter.all false
namespace Go.Proofs.YtkkkfkopcfdmaaaGreatDoor
open Go Go.Vc Go.RowKit Go.Proofs Go.Runs Go.Code
abbrev tByte : TypeId := 5
abbrev yv (b : Int) : List Value := [.int .u8 b]
abbrev RdY (w : World) (s : Sl) (b : List Int) : Prop := RdK w s 1 (b.map yv)
abbrev OwY (B : Nat) (w : World) (s : Sl) (b : List Int) : Prop := OwnK B tByte 1 w s (b.map yv)
abbrev InY (b : List Int) : Prop := ∀ c ∈ b, 0 ≤ c ∧ c < 256
theorem OwY.rdy {B : Nat} {w : World} {s : Sl} {c : List Int} (h : OwY B w s c) : RdY w s c := OwnK.rd h (by omega)
theorem RdY.len {w : World} {s : Sl} {c : List Int} (h : RdY w s c) : s.n = c.length := by have := h.n; simpa using this
theorem RdY.c0 {w : World} {s : Sl} {l : List Int} (h : RdY w s l) {i : Nat} {b : Int} (hi : l[i]? = some b) : ld w (padd s.a (i * 1)) = some (.int .u8 b) := by
 have := h.rd i (yv b) (by rw [List.getElem?_map, hi]; rfl) 0 _ rfl
 simpa using this
theorem RdY.inB {w : World} {s : Sl} {l : List Int} (h : RdY w s l) {i : Nat} (hi : i < l.length) : InB s.a (i : Int) s.n := RdK.inB h (by omega) (by omega) (by have := RdY.len h; omega)
theorem code_Number_spec (n : Int) (w : World) (hi : inI n) :
  Calls Tryz.prog n_code_Number #[.int .i64 n] w fun e w' => ∃ s : Sl, e = .returned (.slice s.a s.n s.c) ∧ OwY w.heap.size w' s (numB n) ∧ Ext w w' := by
 apply code_Number.vc
 refine Br.mk (fun h => ?_) (fun h => Br.mk (fun h2 => ?_) (fun h2 => ?_)) <;> simp only [decide_eq_true_eq, decide_eq_false_iff_not] at *
 ·exact ⟨⟨none, 0, 0⟩, rfl, by unfold numB; rw [if_pos (.inl h)]; exact OwnK.nil, Ext.rfl' w⟩
 ·exact ⟨⟨none, 0, 0⟩, rfl, by unfold numB; rw [if_pos (.inr h2)]; exact OwnK.nil, Ext.rfl' w⟩
 have e0 : numB n = numF 3 n := by unfold numB; rw [if_neg (by omega)]
 rw [e0]
 refine ⟨fun m x o wr => ∃ (k : Nat) (b : List Int), k = m ∧ 1 ≤ k ∧ k ≤ 3 ∧ 0 ≤ x ∧ x < 128 ^ k ∧ b.length + k = 3 ∧ Ext w wr ∧ OwY w.heap.size wr o b ∧ b ++ numF k x = numF 3 n, ⟨3, 3, [], rfl, by omega, by omega, by omega, by omega, rfl, Ext.rfl' w, OwnK.nil, rfl⟩, ?_⟩
 rintro m us x o wr ⟨k, b, rfl, k1, k3, hx0, hx, hbk, xr, ho, heq⟩
 have hon := RdY.len (OwY.rdy ho)
 refine Br.mk (fun h3 => ?_) (fun h3 => ?_) <;> simp only [decide_eq_true_eq, decide_eq_false_iff_not] at h3
 ·obtain ⟨j, rfl⟩ : ∃ j, k = j + 1 := ⟨k - 1, by omega⟩
  rintro w7 rfl
  rw [or128 x hx0]
  obtain ⟨hp, hres⟩ := OwnK.app1 ho (bytes := 1) (news := yv (128 + x % 128)) (.cells #[.int .u8 (128 + x % 128)] tByte) xr.size rfl (one_i _ _) (by omega) (by omega)
  refine ⟨hp, fun s17 w18 hr' => ?_⟩
  obtain ⟨k1', ho', _, xb, _, _⟩ := hres s17 w18 hr'
  have hdiv : x.fdiv (2 ^ (min (7 : Int).toNat 64)) = x / 128 := by
   rw [show ((2 : Int) ^ (min (7 : Int).toNat 64)) = 128 from by decide]
   exact Int.fdiv_eq_ediv_of_nonneg _ (by omega)
  rw [hdiv]
  have hj : 1 ≤ j := by
   rcases Nat.eq_zero_or_pos j with rfl | h
   ·simp at hx; omega
   ·exact h
  refine ⟨k1', j, by omega, j, b ++ [128 + x % 128], rfl, hj, by omega, by omega, ?_, by simp; omega, xr.trans xb, ?_, ?_⟩
  ·rw [Int.pow_succ] at hx; omega
  ·show OwnK _ _ 1 _ _ ((b ++ [128 + x % 128]).map yv)
   rw [List.map_append]; exact ho'
  ·rw [← heq]
   show _ = b ++ (if x < 128 then [x] else (128 + x % 128) :: numF j (x / 128))
   rw [if_neg (by omega)]; simp
 ·rintro w7 rfl
  have hwx : IntKind.wrap .u8 x = x := by rw [wrap_u8]; omega
  rw [hwx]
  obtain ⟨hp, hres⟩ := OwnK.app1 ho (bytes := 1) (news := yv x) (.cells #[.int .u8 x] tByte) xr.size rfl (one_i _ _) (by omega) (by omega)
  refine ⟨hp, fun s17 w18 hr' => ?_⟩
  obtain ⟨k1', ho', _, xb, _, _⟩ := hres s17 w18 hr'
  refine ⟨k1', s17, rfl, ?_, xr.trans xb⟩
  rw [← heq]
  obtain ⟨j, rfl⟩ : ∃ j, k = j + 1 := ⟨k - 1, by omega⟩
  show OwnK _ _ 1 _ _ ((b ++ (if x < 128 then [x] else (128 + x % 128) :: numF j (x / 128))).map yv)
  rw [if_pos (by omega), List.map_append]; exact ho'
end Go.Proofs.YtkkkfkopcfdmaaaGreatDoor
namespace Go.Proofs.YtkkkfkopcfdmaaaGreatDoor
open Go Go.Vc Go.RowKit Go.Proofs Go.Runs Go.Code
theorem drop_cons {α : Type} {l : List α} {k : Nat} {c : α} (h : l[k]? = some c) : l.drop k = c :: l.drop (k + 1) := by
 obtain ⟨h1, h2⟩ := List.getElem?_eq_some_iff.1 h
 rw [List.drop_eq_getElem_cons h1, h2]
theorem code_Digits_spec (s : Sl) (b : List Int) (w : World) (hs : RdY w s b) (hb : InY b) (hc : s.n ≤ s.c) :
  Calls Tryz.prog n_code_Digits #[.slice s.a s.n s.c] w fun e w' => e = .returned (.tuple #[.int .i64 (digB b).1, .int .i64 (digB b).2.1, .int .i64 (digB b).2.2]) ∧ w' = w := by
 have hn := RdY.len hs
 apply code_Digits.vc
 have em : (if 3 < ((s.n : Nat) : Int) then 3 else ((s.n : Nat) : Int)) = ((min 3 s.n : Nat) : Int) := by split <;> omega
 unfold code_Digits.pre
 rw [em]
 refine ⟨by omega, by omega, ?_⟩
 refine ⟨fun n x y wr => ∃ k : Nat, x = k ∧ k + n = min 3 s.n ∧ wr = w ∧ 0 ≤ y ∧ y < 128 ^ k ∧ digG (3 - k) k y (b.drop k) = digB b, ⟨min 3 s.n, 0, rfl, by omega, rfl, by omega, by omega, rfl⟩, ?_⟩
 rintro n us x y wr ⟨k, rfl, hk, rfl, y0, y1, heq⟩
 have hw := wrap_in (n := (k : Int) + 1) (by unfold inI; omega)
 refine Br.mk (fun h => ?_) (fun h => ?_) <;> simp only [decide_eq_true_eq, decide_eq_false_iff_not] at h
 ·obtain ⟨c, hcb⟩ := get_lt (l := b) (i := k) (by omega)
  have hci := hb c (List.mem_of_getElem? hcb)
  rw [drop_cons hcb, show 3 - k = (2 - k) + 1 from by omega, digStep] at heq
  have hin := RdY.inB hs (i := k) (by omega)
  obtain ⟨o1, o2⟩ := orStep k (by omega) y c y0 y1 hci.1 hci.2
  have hp := pow_step k y c y1
  have hp0 : 0 ≤ (128 : Int) ^ k := Int.pow_nonneg (by omega)
  have hm0 : 0 ≤ c % 128 * 128 ^ k := Int.mul_nonneg (by omega) hp0
  refine ⟨⟨?_, by omega, by omega⟩, c, ?_, ?_⟩
  ·have := hin.1
   unfold slBase
   split
   ·exact this
   ·rw [Option.isSome_map]; exact this
  ·rw [padd_slBase]; exact RdY.c0 hs hcb
  ·rw [o1, hw]
   refine AndL_ng.2 ⟨o2, ?_⟩
   refine Br.mk (fun h1 => ?_) (fun h1 => ?_) <;> simp only [decide_eq_true_eq, decide_eq_false_iff_not] at h1
   ·rw [if_pos h1] at heq
    exact ⟨n - 1, by omega, k + 1, by omega, by omega, rfl, by omega, hp, by rw [show 3 - (k + 1) = 2 - k from by omega]; exact heq⟩
   ·rw [if_neg h1] at heq
    refine Br.mk (fun h2 => Br.mk (fun h3 => ?_) (fun h3 => Br.mk (fun h4 => ?_) (fun h4 => ?_))) (fun h2 => Br.mk (fun h4 => ?_) (fun h4 => ?_)) <;> simp only [decide_eq_true_eq, decide_eq_false_iff_not, beq_iff_eq, beq_eq_false_iff_ne] at *
    ·rw [if_pos (.inl ⟨h2, by omega⟩)] at heq
     exact ⟨by rw [← heq], by first | rfl | trivial⟩
    ·rw [if_pos (.inr h4)] at heq
     exact ⟨by rw [← heq], by first | rfl | trivial⟩
    ·rw [if_neg (by omega)] at heq
     exact ⟨by rw [← heq], by first | rfl | trivial⟩
    ·rw [if_pos (.inr h4)] at heq
     exact ⟨by rw [← heq], by first | rfl | trivial⟩
    ·rw [if_neg (by omega)] at heq
     exact ⟨by rw [← heq], by first | rfl | trivial⟩
 ·have hkm : k = min 3 s.n := by omega
  refine Br.mk (fun h2 => ?_) (fun h2 => ?_) <;> simp only [decide_eq_true_eq, decide_eq_false_iff_not] at h2
  ·have : b.drop k = [] := List.drop_eq_nil_of_le (by omega)
   rw [this, show 3 - k = (2 - k) + 1 from by omega] at heq
   exact ⟨by rw [← heq]; rfl, by first | rfl | trivial⟩
  ·rw [show 3 - k = 0 from by omega] at heq
   exact ⟨by rw [← heq]; rfl, by first | rfl | trivial⟩
end Go.Proofs.YtkkkfkopcfdmaaaGreatDoor
namespace Go.Proofs.YtkkkfkopcfdmaaaGreatDoor
open Go Go.Vc Go.RowKit Go.Proofs Go.Runs Go.Code
abbrev WrRes (B : Nat) (l : List Rn) (e : Ending) (w' : World) : Prop :=
 ∃ s : Sl, e = .returned (.tuple #[.slice s.a s.n s.c, .int .i64 (if okW bMay l then 0 else 1)]) ∧ OwY B w' s (if okW bMay l then wrB l else [])
theorem chkL_cons (left : Int) (r : Rn) (t : List Rn) : chkL left (r :: t) = if r.1 < 1 ∨ r.1 > left then false else chkL (left - r.1) t := rfl
end Go.Proofs.YtkkkfkopcfdmaaaGreatDoor
namespace Go.Proofs.YtkkkfkopcfdmaaaGreatDoor
open Go Go.Vc Go.RowKit Go.Proofs Go.Runs Go.Code
theorem code_Write_spec (s : Sl) (l : List Rn) (w : World) (hs : RdR w s l) (hb : l.length ≤ 2000000) (hl : ∀ r ∈ l, inI r.1 ∧ inI r.2) :
  Calls Tryz.prog n_code_Write #[.slice s.a s.n s.c] w fun e w' => WrRes w.heap.size l e w' ∧ Ext w w' := by
 have hsn := RdR.len hs
 apply code_Write.vc
 refine ⟨fun n x y wr => ∃ k : Nat, x = k ∧ k + n = l.length ∧ Ext w wr ∧ 0 ≤ y ∧ y ≤ 1048576 ∧ y = 1048576 - sumR (l.take k) ∧ chkL y (l.drop k) = chkL 1048576 l, ⟨l.length, 0, rfl, by omega, Ext.rfl' w, by omega, by omega, rfl, rfl⟩, ?_⟩
 rintro n us x y wr ⟨k, rfl, hk, xr, y0, y1, hy, heq⟩
 have hw := wrap_in (n := (k : Int) + 1) (by unfold inI; omega)
 refine Br.mk (fun h => ?_) (fun h => ?_) <;> simp only [decide_eq_true_eq, decide_eq_false_iff_not] at h
 ·obtain ⟨r, hr⟩ := get_lt (l := l) (i := k) (by omega)
  have hd := drop_cons hr
  rw [hd, chkL_cons] at heq
  refine ⟨RdR.inB hs (by omega), _, _, RdR.ll (hs.ext xr) hr, ?_⟩
  rintro w9 rfl w10 rfl
  have x10 := ((xr.tr (Ext.al _ (.cells #[.int .i64 0, .int .i64 0] tRun))).setRow xr.size #[.int .i64 r.1, .int .i64 r.2])
  have bad : ∀ w', Ext w w' → (r.1 < 1 ∨ r.1 > y) → WrRes w.heap.size l (.returned (.tuple #[.slice none 0 0, .int .i64 1])) w' ∧ Ext w w' := by
   intro w' x' hh
   rw [if_pos hh] at heq
   have : okW bMay l = false := by unfold okW; rw [← heq]; rfl
   exact ⟨⟨⟨none, 0, 0⟩, by rw [this]; rfl, by rw [this]; exact OwnK.nil⟩, x'⟩
  refine Br.mk (fun h1 => ?_) (fun h1 => Br.mk (fun h2 => ?_) (fun h2 => ?_)) <;> simp only [decide_eq_true_eq, decide_eq_false_iff_not] at h1
  ·exact bad _ x10 (.inl h1)
  ·simp only [decide_eq_true_eq] at h2
   have hri := hl r (List.mem_of_getElem? hr)
   unfold inI at hri
   have hw2 := wrap_in (n := y - r.1) (by unfold inI; omega)
   exact bad _ x10 (.inr (by omega))
  ·simp only [decide_eq_false_iff_not] at h2
   have hri := hl r (List.mem_of_getElem? hr)
   unfold inI at hri
   have hw2 := wrap_in (n := y - r.1) (by unfold inI; omega)
   rw [if_neg (by omega)] at heq
   have e := sumR_take_succ hr
   refine ⟨n - 1, by omega, k + 1, by omega, by omega, x10, by omega, by omega, by omega, ?_⟩
   rw [← heq, hw2]
 ·have hkl : k = l.length := by omega
  subst hkl
  rw [List.drop_length] at heq
  rw [List.take_length] at hy
  have hchk : chkL 1048576 l = true := by rw [← heq]; rfl
  have hpos := (chkL_pos hchk).1
  refine (runs_Len_spec s l wr (hs.ext xr) (by unfold Bd; omega) (fun r hr => by have := hpos r hr; omega) (by omega)).mono ?_
  rintro e w0 ⟨rfl, x0⟩
  refine ⟨_, rfl, (runs_May_spec s l (sumR l) w0 ((hs.ext xr).ext x0) (by unfold Bd; omega) (by unfold inI; omega)).mono ?_⟩
  rintro e w1 ⟨rfl, x1⟩
  have hok : okW bMay l = mayR bMay l (sumR l) := by unfold okW; rw [hchk]; rfl
  have x01 := (xr.tr x0).tr x1
  refine ⟨_, rfl, Br.mk (fun h2 => ?_) (fun h2 => ?_)⟩
  ·have : okW bMay l = false := by rw [hok]; simpa using h2
   exact ⟨⟨⟨none, 0, 0⟩, by rw [this]; rfl, by rw [this]; exact OwnK.nil⟩, x01⟩
  ·have hokt : okW bMay l = true := by rw [hok]; simpa using h2
   refine ⟨fun n x o wr => ∃ k : Nat, x = k ∧ k + n = l.length ∧ Ext w wr ∧ OwY w.heap.size wr o (wrB (l.take k)), ⟨l.length, 0, rfl, by omega, x01, OwnK.nil⟩, ?_⟩
   rintro n2 us2 x2 o w2 ⟨j, rfl, hj, x2, ho⟩
   have hwj := wrap_in (n := (j : Int) + 1) (by unfold inI; omega)
   refine Br.mk (fun h => ?_) (fun h => ?_) <;> simp only [decide_eq_true_eq, decide_eq_false_iff_not] at h
   ·obtain ⟨r, hr⟩ := get_lt (l := l) (i := j) (by omega)
    have hri := hl r (List.mem_of_getElem? hr)
    have hon := RdY.len (OwY.rdy ho)
    have hol := wrB_len (l.take j)
    rw [List.length_take] at hol
    refine ⟨RdR.inB hs (by omega), _, _, RdR.ll (hs.ext x2) hr, ?_⟩
    rintro w24 rfl w25 hw25 w26 rfl
    have x25 : Ext w w25 := by rw [hw25]; exact ((x2.tr (Ext.al _ (.cells #[.int .i64 0, .int .i64 0] tRun))).setRow x2.size #[.int .i64 r.1, .int .i64 r.2])
    have hrow : Row w25 w2.heap.size [.int .i64 r.1, .int .i64 r.2] tRun := by rw [hw25]; exact (Row.new w2 [.int .i64 0, .int .i64 0] tRun).set [.int .i64 r.1, .int .i64 r.2]
    have ho25 : OwY w.heap.size w25.drew o (wrB (l.take j)) := by
     refine OwnK.ext (OwnK.keep ho (w' := w25) ?_) (Ext.dr _)
     intro g hg
     have := (ho.own.lt hg).2
     rw [hw25, setRow_other _ _ _ _ (by omega)]
     exact (Ext.al _ _).heap this
    have hlt25 := hrow.lt
    clear hw25
    have xd := x25.drew
    have hrowd := hrow.ext (Ext.dr w25)
    have hz : w25.drew.heap.size = w25.heap.size := rfl
    rw [wrap_u8]
    obtain ⟨hp, hres⟩ := OwnK.app1 ho25 (bytes := 1) (news := yv (r.2 % 256)) (.cells #[.int .u8 (r.2 % 256)] tByte) xd.size rfl (one_i _ _) (by omega) (by omega)
    refine ⟨hp, fun s27 w28 hr' => ?_⟩
    obtain ⟨k1, ho', hn', xb, hkp, hbk⟩ := hres s27 w28 hr'
    have x28 : Ext w w28 := xd.trans xb
    have hone : o.blk ≠ some w2.heap.size := fun hb => absurd (ho.own.lt hb).2 (Nat.lt_irrefl _)
    have hk28 : w28.heap[w2.heap.size]? = w25.drew.heap[w2.heap.size]? := hkp _ hone (by omega)
    have hrow28 := hrowd.same hk28
    have hlt28 := hrow28.lt
    have hlt28' : w25.drew.heap.size < w28.heap.size := by
     have e : (w25.drew.alloc (.cells #[.int .u8 (r.2 % 256)] tByte)).heap[w25.drew.heap.size]? = some (.cells #[.int .u8 (r.2 % 256)] tByte (0, 0)) := Row.new w25.drew [.int .u8 (r.2 % 256)] tByte
     rw [← k1] at e
     exact (Array.getElem?_eq_some_iff.1 e).1
    have ll0 : ∀ {w'}, Row w' w2.heap.size [.int .i64 r.1, .int .i64 r.2] tRun → LoadL w' (some ⟨w2.heap.size, 0, none⟩) 0 [.int .i64 r.1] := fun hh => hh.loadL (o := 0) fun j hj => by
     have : j = 0 := by simpa using hj
     subst this; rfl
    have ll1 : ∀ {w'}, Row w' w2.heap.size [.int .i64 r.1, .int .i64 r.2] tRun → LoadL w' (some ⟨w2.heap.size, 1, none⟩) 0 [.int .i64 r.2] := fun hh => hh.loadL (o := 1) fun j hj => by
     have : j = 0 := by simpa using hj
     subst this; rfl
    refine ⟨?_, k1, ll0 hrow28, ll1 hrow28, (code_Number_spec r.1 w28 hri.1).mono ?_⟩
    ·rw [hk28]; symm; exact (Ext.al _ _).heap (by omega)
    rintro e w29 ⟨sn, rfl, on, x29⟩
    have hnn := RdY.len (OwY.rdy on)
    have hnl := numB_len r.1
    have hrow29 := hrow28.ext x29
    refine ⟨sn, rfl, x29.heap hlt28, x29.heap hlt28', ll1 hrow29, ((numB r.1).map yv).flatten, RdK.flat (OwY.rdy on) (by omega), ?_⟩
    have ho3 : OwnK w.heap.size tByte 1 w29 s27 _ := OwnK.ext ho' x29
    obtain ⟨hp2, hres2⟩ := OwnK.appN ho3 (bytes := 1) (more := (numB r.1).map yv) (x28.tr x29).size (by simp) (by intro q hq; obtain ⟨c, _, rfl⟩ := List.mem_map.1 hq; exact one_i _ _) (by simp; omega) (by simp; omega)
    rw [List.length_map] at hp2 hres2
    rw [hnn]
    refine ⟨hp2, fun s32 w33 hr2 => ?_⟩
    obtain ⟨ho4, _, xb2, hk2, _⟩ := hres2 s32 w33 hr2
    have hne : s27.blk ≠ some w2.heap.size := by
     rcases hbk with h | h
     ·rw [h]; exact hone
     ·rw [h]; intro hb; simp at hb; omega
    have hne2 : s27.blk ≠ some w25.drew.heap.size := by
     rcases hbk with h | h
     ·rw [h]; intro hb; exact absurd (ho25.own.lt hb).2 (Nat.lt_irrefl _)
     ·rw [h]; intro hb; simp at hb
    have hk33 := hk2 _ hne (Nat.lt_of_lt_of_le hlt28 x29.size)
    refine ⟨hk33, hk2 _ hne2 (Nat.lt_of_lt_of_le hlt28' x29.size), ll1 (hrow29.same hk33), n2 - 1, by omega, j + 1, by omega, by omega, (x28.tr x29).trans xb2, ?_⟩
    rw [wrB_succ hr]
    show OwnK _ _ 1 _ _ ((wrB (l.take j) ++ (r.2 % 256 :: numB r.1)).map yv)
    rw [List.map_append, List.map_cons]
    have := ho4
    rw [List.append_assoc] at this
    exact this
   ·have : j = l.length := by omega
    subst this
    rw [List.take_length] at ho
    exact ⟨⟨o, by rw [hokt]; rfl, by rw [hokt]; exact ho⟩, x2⟩
end Go.Proofs.YtkkkfkopcfdmaaaGreatDoor
namespace Go.Proofs.YtkkkfkopcfdmaaaGreatDoor
open Go Go.Vc Go.RowKit Go.Proofs Go.Runs Go.Code
theorem yv_one (b : List Int) : ∀ r ∈ b.map yv, One r := by
 intro q hq; obtain ⟨c, _, rfl⟩ := List.mem_map.1 hq; exact one_i _ _
end Go.Proofs.YtkkkfkopcfdmaaaGreatDoor
namespace Go.Proofs.YtkkkfkopcfdmaaaGreatDoor
open Go Go.Vc Go.RowKit Go.Proofs Go.Runs Go.Code
end Go.Proofs.YtkkkfkopcfdmaaaGreatDoor
namespace Go.Proofs.YtkkkfkopcfdmaaaGreatDoor
open Go Go.Vc Go.RowKit Go.Proofs Go.Runs Go.Code
end Go.Proofs.YtkkkfkopcfdmaaaGreatDoor
namespace Go.Proofs.YtkkkfkopcfdmaaaGreatDoor
open Go Go.Vc Go.RowKit Go.Proofs Go.Runs Go.Code
abbrev RdRes (B : Nat) (p : List Rn × Int) (e : Ending) (w' : World) : Prop :=
 ∃ s : Sl, e = .returned (.tuple #[.slice s.a s.n s.c, .int .i64 p.2]) ∧ OwR B w' s p.1
theorem readG_cons (may : Int → Bool) (f : Nat) (c : Int) (t : List Int) (n last : Int) (acc : List Rn) : readG may (f + 1) (c :: t) n last acc =
  if may c = false ∨ c = last then ([], 2)
  else if (digB t).2.2 ≠ 0 then ([], (digB t).2.2)
  else if (digB t).1 = 0 ∨ (digB t).1 > n then ([], 2)
  else if n - (digB t).1 = 0 then (if t.drop (digB t).2.1.toNat = [] then (acc ++ [((digB t).1, c)], 0) else ([], 2))
  else readG may f (t.drop (digB t).2.1.toNat) (n - (digB t).1) c (acc ++ [((digB t).1, c)]) := rfl
theorem resNil {B : Nat} {p : List Rn × Int} {q : Int} {w' : World} (h : p = ([], q)) : RdRes B p (.returned (.tuple #[.slice none 0 0, .int .i64 q])) w' := by
 subst h; exact ⟨⟨none, 0, 0⟩, rfl, OwnK.nil⟩
theorem readG_fuel {may : Int → Bool} : ∀ (f g : Nat) (b : List Int) {n last : Int} {acc : List Rn} (_ : b.length < f) (_ : b.length < g), readG may f b n last acc = readG may g b n last acc
 | 0, _, _, _, _, _, h, _ => by omega
 | _ + 1, 0, _, _, _, _, _, h => by omega
 | f + 1, g + 1, [], _, _, _, _, _ => rfl
 | f + 1, g + 1, c :: t, n, last, acc, h1, h2 => by
   rw [readG_cons, readG_cons]
   have hd := digG_ok 3 0 0 t (by omega)
   rw [show digG 3 0 0 t = digB t from rfl] at hd
   simp only [List.length_cons] at h1 h2
   rw [readG_fuel f g (t.drop (digB t).2.1.toNat) (by rw [List.length_drop]; omega) (by rw [List.length_drop]; omega)]
theorem code_Read_spec (s : Sl) (b : List Int) (n : Int) (w : World) (hs : RdY w s b) (hb : InY b) (hc : s.n ≤ s.c) (hl : b.length ≤ 1099511627776) (hn : 1 ≤ n) (hn' : inI n) :
  Calls Tryz.prog n_code_Read #[.slice s.a s.n s.c, .int .i64 n] w fun e w' => RdRes w.heap.size (readB bMay b n) e w' ∧ Ext w w' := by
 unfold inI at hn'
 apply code_Read.vc
 refine ⟨fun m s3 last left o wr => ∃ (b' : List Int) (acc : List Rn), m = b'.length ∧ RdY w s3 b' ∧ s3.n ≤ s3.c ∧ InY b' ∧ acc.length + b'.length ≤ b.length ∧ 1 ≤ left ∧ left ≤ n ∧ Ext w wr ∧ OwR w.heap.size wr o acc ∧ readG bMay (b'.length + 1) b' left last acc = readB bMay b n, ⟨b.length, b, [], rfl, hs, hc, hb, by simp, hn, by omega, Ext.rfl' w, OwnK.nil, rfl⟩, ?_⟩
 rintro m us s3 last left o wr ⟨b', acc, rfl, h3, h3c, hb', hacc, hl1, hl2, xr, ho, heq⟩
 have hn3 := RdY.len h3
 refine Br.mk (fun h => ?_) (fun h => ?_) <;> simp only [decide_eq_true_eq, decide_eq_false_iff_not] at h
 ·obtain ⟨c, t, rfl⟩ : ∃ c t, b' = c :: t := by
   cases b' with
   | nil => simp at hn3; omega
   | cons c t => exact ⟨c, t, rfl⟩
  have hci := hb' c (.head _)
  have htI : InY t := fun q hq => hb' q (.tail _ hq)
  simp only [List.length_cons] at hn3 hacc
  rw [readG_cons] at heq
  have hwc := wrap_in (n := c) (by unfold inI; omega)
  have hrt : RdY wr ⟨slBase s3.a 1 s3.n 1, s3.n - 1, s3.n - 1⟩ t := by
   have := RdK.rest (h3.ext xr) (l := 1) (m := s3.n) (n' := s3.n - 1) (c' := s3.n - 1) (by rw [List.length_map, List.length_cons]; omega) (fun e => by rw [List.length_map, List.length_cons]; omega)
   exact this
  refine ⟨RdY.inB h3 (i := 0) (by simp), c, RdY.c0 (h3.ext xr) (i := 0) rfl, ?_⟩
  rw [hwc]
  rintro w10 rfl w11 hw11
  have x11 : Ext w w11 := by rw [hw11]; exact ((xr.tr (Ext.al _ (.cells #[.int .i64 0, .int .i64 0] tRun))).setRow xr.size #[.int .i64 0, .int .i64 c])
  have xr11 : Ext wr w11 := by rw [hw11]; exact ((Ext.al wr (.cells #[.int .i64 0, .int .i64 0] tRun)).setRow (Nat.le_refl _) #[.int .i64 0, .int .i64 c])
  have hrow : Row w11 wr.heap.size [.int .i64 0, .int .i64 c] tRun := by rw [hw11]; exact (Row.new wr [.int .i64 0, .int .i64 0] tRun).set [.int .i64 0, .int .i64 c]
  clear hw11
  have bad : ∀ {q : Int} {w' : World}, Ext w w' → readB bMay b n = ([], q) → RdRes w.heap.size (readB bMay b n) (.returned (.tuple #[.slice none 0 0, .int .i64 q])) w' ∧ Ext w w' := fun x' e => ⟨resNil e, x'⟩
  refine (block_May_spec c w11).mono ?_
  rintro e w12 ⟨rfl, x12⟩
  have x112 := x11.tr x12
  have hrow12 := hrow.ext x12
  refine ⟨_, rfl, x12.heap hrow.lt, Br.mk (fun h1 => ?_) (fun h1 => Br.mk (fun h2 => ?_) (fun h2 => ?_))⟩
  ·refine bad x112 ?_
   rw [← heq, if_pos (.inl (by simpa using h1))]
  ·refine bad x112 ?_
   rw [← heq, if_pos (.inr (by simpa using h2))]
  have hm : bMay c = true := by simpa using h1
  have hl' : c ≠ last := by simpa using h2
  rw [if_neg (by rw [hm]; simp [hl'])] at heq
  refine ⟨by omega, by omega, by omega, by omega, by omega, by omega, ?_⟩
  refine (code_Digits_spec ⟨slBase s3.a 1 s3.n 1, s3.n - 1, s3.n - 1⟩ t w12 ((hrt.ext xr11).ext x12) htI (Nat.le_refl _)).mono ?_
  rintro e w14 ⟨rfl, rfl⟩
  have hdig := digG_ok 3 0 0 t (by omega)
  rw [show digG 3 0 0 t = digB t from rfl] at hdig
  generalize digB t = d at *
  obtain ⟨sz, kk, er⟩ := d
  simp only at *
  refine ⟨_, _, _, rfl, (by first | rfl | trivial), Br.mk (fun h3' => ?_) (fun h3' => ?_)⟩
  ·refine bad x112 ?_
   rw [← heq, if_pos (by simpa using h3')]
  have her : er = 0 := by simpa using h3'
  subst her
  have hd := hdig rfl
  rw [if_neg (by simp)] at heq
  refine Br.mk (fun h4 => ?_) (fun h4 => Br.mk (fun h5 => ?_) (fun h5 => ?_)) <;> simp only [beq_iff_eq, beq_eq_false_iff_ne, decide_eq_true_eq, decide_eq_false_iff_not] at h4
  ·refine bad x112 ?_
   rw [← heq, if_pos (.inl h4)]
  ·simp only [decide_eq_true_eq] at h5
   refine bad x112 ?_
   rw [← heq, if_pos (.inr h5)]
  simp only [decide_eq_false_iff_not] at h5
  rw [if_neg (by omega)] at heq
  have hwl := wrap_in (n := left - sz) (by unfold inI; omega)
  have hwk := wrap_in (n := 1 + kk) (by unfold inI; omega)
  rw [hwl, hwk]
  rintro w18 hw18
  have x18 : Ext w w18 := by rw [hw18]; exact x112.setRow xr.size _
  have ho12 : OwR w.heap.size w14 o acc := OwnK.ext ho (xr11.tr x12)
  have ho18 : OwR w.heap.size w18.drew o acc := by
   refine OwnK.ext (OwnK.keep ho12 (w' := w18) ?_) (Ext.dr _)
   intro g hg
   have := (ho.own.lt hg).2
   rw [hw18, setRow_other _ _ _ _ (by omega)]
  have hlt18 : wr.heap.size < w18.heap.size := by rw [hw18, setRow_size]; exact hrow12.lt
  clear hw18
  have xd := x18.drew
  have hz : w18.drew.heap.size = w18.heap.size := rfl
  have hon := RdR.len ho18.rdr
  refine ⟨by omega, by omega, ?_⟩
  rintro w19 rfl
  obtain ⟨hp, hres⟩ := OwnK.app1 ho18 (bytes := 16) (news := rv (sz, c)) (.cells #[.int .i64 sz, .int .i64 c] tRun) xd.size rfl (one_ii _ _ _ _) (by omega) (by omega)
  refine ⟨hp, fun s20 w21 hr' => ?_⟩
  obtain ⟨k1, ho', _, xb, hkp, _⟩ := hres s20 w21 hr'
  have x21 : Ext w w21 := xd.trans xb
  have ho21 : OwR w.heap.size w21 s20 (acc ++ [(sz, c)]) := by
   show OwnK _ _ 2 _ _ ((acc ++ [(sz, c)]).map rv)
   rw [List.map_append]; exact ho'
  have hkeep : w21.heap[wr.heap.size]? = (w18.drew.alloc (.cells #[.int .i64 sz, .int .i64 c] tRun)).heap[wr.heap.size]? := by
   rw [hkp _ (fun hb => absurd (ho.own.lt hb).2 (Nat.lt_irrefl _)) (by omega)]
   symm
   exact (Ext.al _ _).heap (by omega)
  have hdl : (t.drop kk.toNat).length = t.length - kk.toNat := List.length_drop
  refine ⟨hkeep, k1, Br.mk (fun h6 => Br.mk (fun h7 => ?_) (fun h7 => Br.mk (fun h8 => ?_) (fun h8 => ?_))) (fun h6 => ?_)⟩ <;> simp only [beq_iff_eq, beq_eq_false_iff_ne] at h6
  ·simp only [decide_eq_true_eq] at h7; omega
  ·simp only [decide_eq_true_eq] at h8
   rw [if_pos h6, if_neg (by intro e; rw [e] at hdl; simp at hdl; omega)] at heq
   exact bad x21 heq.symm
  ·simp only [decide_eq_false_iff_not] at h8
   rw [if_pos h6, if_pos (List.eq_nil_of_length_eq_zero (by omega))] at heq
   refine ⟨⟨s20, by rw [← heq], by rw [← heq]; exact ho21⟩, x21⟩
  ·rw [if_neg h6] at heq
   have hrest := RdK.rest h3 (l := (1 + kk).toNat) (m := s3.c) (n' := s3.n - (1 + kk).toNat) (c' := s3.c - (1 + kk).toNat) (by rw [List.length_map, List.length_cons]; omega) (fun e => by rw [List.length_map, List.length_cons]; omega)
   rw [show (1 + kk).toNat = kk.toNat + 1 from by omega, List.map_cons, List.drop_succ_cons, ← List.map_drop] at hrest
   rw [show (1 + kk).toNat = kk.toNat + 1 from by omega]
   refine ⟨(t.drop kk.toNat).length, by simp only [List.length_cons]; omega, t.drop kk.toNat, acc ++ [(sz, c)], rfl, hrest, by show s3.n - (kk.toNat + 1) ≤ s3.c - (kk.toNat + 1); omega, fun q hq => htI q (List.mem_of_mem_drop hq), by simp only [List.length_append, List.length_cons, List.length_nil]; omega, by omega, by omega, x21, ho21, ?_⟩
   rw [← heq]
   exact readG_fuel _ _ _ (by omega) (by simp only [List.length_cons]; omega)
 ·have : b' = [] := List.eq_nil_of_length_eq_zero (by omega)
  subst this
  have e : readB bMay b n = ([], 3) := by
   rw [← heq]; show (if left > 0 then ([], 3) else (acc, 0)) = _
   rw [if_pos (by omega)]
  refine Br.mk (fun _ => ⟨resNil e, xr⟩) (fun h2 => ?_)
  simp only [decide_eq_false_iff_not] at h2
  omega
end Go.Proofs.YtkkkfkopcfdmaaaGreatDoor
namespace Go.Proofs.YtkkkfkopcfdmaaaGreatDoor
open Go Go.Vc Go.RowKit Go.Proofs Go.Runs Go.Code
end Go.Proofs.YtkkkfkopcfdmaaaGreatDoor
namespace Go.Proofs.YtkkkfkopcfdmaaaGreatDoor
open Go Go.Vc Go.RowKit Go.Proofs Go.Runs Go.Code
theorem OwnK.le {B E k : Nat} {w : World} {s : Sl} {rows : List (List Value)} (h : OwnK B E k w s rows) : s.n ≤ s.c := by
 have ho := h.own
 generalize rows.flatten = xs at ho
 cases ho with
 | nil => exact Nat.le_refl _
 | row g n c cs hg hr hc hn => exact hn
theorem readB_again {b : List Int} {n : Int} (hb : InY b) (hn : 1 ≤ n) (h : (readB bMay b n).2 = 0) : wrB (readB bMay b n).1 = b ∧ Follow bMay (-1) (readB bMay b n).1 ∧ sumR (readB bMay b n).1 = n := by
 obtain ⟨l, e1, e2, e3, e4, _⟩ := readG_again (may := bMay) (b.length + 1) b n (-1) [] hb hn h
 rw [List.nil_append] at e1
 have e : readB bMay b n = readG bMay (b.length + 1) b n (-1) [] := rfl
 rw [e, e1]
 exact ⟨e2, e3, e4⟩
theorem follow_in {l : List Rn} {last : Int} (h : Follow bMay last l) : ∀ r ∈ l, inI r.1 ∧ inI r.2 := by
 intro r hr
 have := h.mem r hr
 unfold Go.Vc.inI; omega
end Go.Proofs.YtkkkfkopcfdmaaaGreatDoor
