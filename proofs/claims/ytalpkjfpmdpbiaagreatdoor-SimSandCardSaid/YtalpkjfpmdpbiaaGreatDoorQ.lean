import Derived.Test.YtalpkjfpmdpbiaaGreatDoorR
import Derived.Test.YtalpkjfpmdpbiaaGreatDoorP
set_option linter.all false
namespace Go.Proofs.YtalpkjfpmdpbiaaGreatDoor
open Go Go.Vc Go.RowKit Go.Proofs Go.aB Go.Code
abbrev eQ:TypeId:=5
abbrev yv (b:Int):List Value:=[.int .u8 b]
abbrev cJ (w:World) (s:Sl) (b:List Int):Prop:=ba w s 1 (b.map yv)
abbrev jX (B:Nat) (w:World) (s:Sl) (b:List Int):Prop:=af B eQ 1 w s (b.map yv)
abbrev FR (b:List Int):Prop:=∀c ∈ b,0<=c/\c<256
theorem jX.vL {B:Nat} {w:World} {s:Sl} {c:List Int} (h:jX B w s c):cJ w s c:=af.rd h (by omega)
theorem cJ.len {w:World} {s:Sl} {c:List Int} (h:cJ w s c):s.n=c.length:=by have:=h.n;simpa using this
theorem cJ.c0 {w : World} {s : Sl} {l : List Int} (h : cJ w s l) {i : Nat} {b : Int} (hi : l[i]? = some b) : ld w (ae s.a (i * 1)) = some (.int .u8 b) := by
 have := h.rd i (yv b) (by rw [List.getElem?_map, hi]; rfl) 0 _ rfl
 simpa using this
theorem cJ.eV {w : World} {s : Sl} {l : List Int} (h : cJ w s l) {i : Nat} (hi : i < l.length) : cn s.a (i : Int) s.n := ba.eV h (by omega) (by omega) (by have := cJ.len h; omega)
theorem sw (n : Int) (w : World) (hi : inI n) :
  Calls Tryz.prog j9 #[n] w fun e w' => ∃ s : Sl, e = .returned s ∧ jX w.heap.size w' s (j1 n) ∧ Ext w w' := by
 apply nq.vc
 refine Br.mk (fun h => ?_) (fun h => Br.mk (fun h2 => ?_) (fun h2 => ?_)) <;> simp only [decide_eq_true_eq, decide_eq_false_iff_not] at *
 ·exact ⟨⟨none, 0, 0⟩, rfl, by unfold j1; rw [if_pos (.inl h)]; exact af.nil, Ext.aq w⟩
 ·exact ⟨⟨none, 0, 0⟩, rfl, by unfold j1; rw [if_pos (.inr h2)]; exact af.nil, Ext.aq w⟩
 have e0 : j1 n = oy 3 n := by unfold j1; rw [if_neg (by omega)]
 rw [e0]
 refine ⟨fun m x o wr => ∃ (k : Nat) (b : List Int), k = m ∧ 1 ≤ k ∧ k ≤ 3 ∧ 0 ≤ x ∧ x < 128 ^ k ∧ b.length + k = 3 ∧ Ext w wr ∧ jX w.heap.size wr o b ∧ b ++ oy k x = oy 3 n, ⟨3, 3, [], rfl, by omega, by omega, by omega, by omega, rfl, Ext.aq w, af.nil, rfl⟩, ?_⟩
 rintro m us x o wr ⟨k, b, rfl, k1, k3, hx0, hx, hbk, xr, ho, heq⟩
 have hon := cJ.len (jX.vL ho)
 refine Br.mk (fun h3 => ?_) (fun h3 => ?_) <;> simp only [decide_eq_true_eq, decide_eq_false_iff_not] at h3
 ·obtain ⟨j, rfl⟩ : ∃ j, k = j + 1 := ⟨k - 1, by omega⟩
  rintro w7 rfl
  rw [IJ x hx0]
  obtain ⟨hp, hres⟩ := af.mB ho (bytes := 1) (news := yv (128 + x % 128)) (.cells #[.int .u8 (128 + x % 128)] eQ) xr.size rfl (qe _ _) (by omega) (by omega)
  refine ⟨hp, fun s17 w18 hr' => ?_⟩
  obtain ⟨k1', ho', _, xb, _, _⟩ := hres s17 w18 hr'
  have hdiv : x.fdiv (2 ^ (min (7 : Int).toNat 64)) = x / 128 := by
   rw [show ((2 : Int) ^ (min (7 : Int).toNat 64)) = 128 from by decide]
   exact Int.fdiv_eq_ediv_of_nonneg _ (by omega)
  rw [hdiv]
  have hj : 1 ≤ j := by
   rcases Nat.eq_zero_or_pos j with rfl | h
   ·simp at hx; omega
   ·exact h
  refine ⟨k1', j, by omega, j, b ++ [128 + x % 128], rfl, hj, by omega, by omega, ?_, by simp; omega, xr.trans xb, ?_, ?_⟩
  ·rw [Int.pow_succ] at hx; omega
  ·show af _ _ 1 _ _ ((b ++ [128 + x % 128]).map yv)
   rw [List.map_append]; exact ho'
  ·rw [← heq]
   show _ = b ++ (if x < 128 then [x] else (128 + x % 128) :: oy j (x / 128))
   rw [if_neg (by omega)]; simp
 ·rintro w7 rfl
  have hwx : IntKind.wrap .u8 x = x := by rw [wrap_u8]; omega
  rw [hwx]
  obtain ⟨hp, hres⟩ := af.mB ho (bytes := 1) (news := yv x) (.cells #[.int .u8 x] eQ) xr.size rfl (qe _ _) (by omega) (by omega)
  refine ⟨hp, fun s17 w18 hr' => ?_⟩
  obtain ⟨k1', ho', _, xb, _, _⟩ := hres s17 w18 hr'
  refine ⟨k1', s17, rfl, ?_, xr.trans xb⟩
  rw [← heq]
  obtain ⟨j, rfl⟩ : ∃ j, k = j + 1 := ⟨k - 1, by omega⟩
  show af _ _ 1 _ _ ((b ++ (if x < 128 then [x] else (128 + x % 128) :: oy j (x / 128))).map yv)
  rw [if_pos (by omega), List.map_append]; exact ho'
end Go.Proofs.YtalpkjfpmdpbiaaGreatDoor
namespace Go.Proofs.YtalpkjfpmdpbiaaGreatDoor
open Go Go.Vc Go.RowKit Go.Proofs Go.aB Go.Code
theorem drop_cons {α:Type} {l:List α} {k:Nat} {c:α} (h:l[k]? =some c):l.drop k=c::l.drop (k+1):=by
 obtain ⟨h1,h2⟩:=List.getElem?_eq_some_iff.1 h
 rw [List.drop_eq_getElem_cons h1,h2]
theorem se (s : Sl) (b : List Int) (w : World) (hs : cJ w s b) (hb : FR b) (hc : s.n ≤ s.c) :
  Calls Tryz.prog j7 #[s] w fun e w' => e = .returned (.tuple #[.int .i64 (bt b).1, .int .i64 (bt b).2.1, .int .i64 (bt b).2.2]) ∧ w' = w := by
 have hn := cJ.len hs
 apply jJ.vc
 have em : (if 3 < ((s.n : Nat) : Int) then 3 else ((s.n : Nat) : Int)) = ((min 3 s.n : Nat) : Int) := by split <;> omega
 unfold jJ.pre
 rw [em]
 refine ⟨by omega, by omega, ?_⟩
 refine ⟨fun n x y wr => ∃ k : Nat, x = k ∧ k + n = min 3 s.n ∧ wr = w ∧ 0 ≤ y ∧ y < 128 ^ k ∧ j2 (3 - k) k y (b.drop k) = bt b, ⟨min 3 s.n, 0, rfl, by omega, rfl, by omega, by omega, rfl⟩, ?_⟩
 rintro n us x y wr ⟨k, rfl, hk, rfl, y0, y1, heq⟩
 have hw := ag (n := (k : Int) + 1) (by unfold inI; omega)
 refine Br.mk (fun h => ?_) (fun h => ?_) <;> simp only [decide_eq_true_eq, decide_eq_false_iff_not] at h
 ·obtain ⟨c, hcb⟩ := aN (l := b) (i := k) (by omega)
  have hci := hb c (List.mem_of_getElem? hcb)
  rw [drop_cons hcb, show 3 - k = (2 - k) + 1 from by omega, oh] at heq
  have hin := cJ.eV hs (i := k) (by omega)
  obtain ⟨o1, o2⟩ := HL k (by omega) y c y0 y1 hci.1 hci.2
  have hp := yV k y c y1
  have hp0 : 0 ≤ (128 : Int) ^ k := Int.pow_nonneg (by omega)
  have hm0 : 0 ≤ c % 128 * 128 ^ k := Int.mul_nonneg (by omega) hp0
  refine ⟨⟨?_, by omega, by omega⟩, c, ?_, ?_⟩
  ·have := hin.1
   unfold ai
   split
   ·exact this
   ·rw [Option.isSome_map]; exact this
  ·rw [gB]; exact cJ.c0 hs hcb
  ·rw [o1, hw]
   refine FW.2 ⟨o2, ?_⟩
   refine Br.mk (fun h1 => ?_) (fun h1 => ?_) <;> simp only [decide_eq_true_eq, decide_eq_false_iff_not] at h1
   ·rw [if_pos h1] at heq
    exact ⟨n - 1, by omega, k + 1, by omega, by omega, rfl, by omega, hp, by rw [show 3 - (k + 1) = 2 - k from by omega]; exact heq⟩
   ·rw [if_neg h1] at heq
    refine Br.mk (fun h2 => Br.mk (fun h3 => ?_) (fun h3 => Br.mk (fun h4 => ?_) (fun h4 => ?_))) (fun h2 => Br.mk (fun h4 => ?_) (fun h4 => ?_)) <;> simp only [decide_eq_true_eq, decide_eq_false_iff_not, beq_iff_eq, beq_eq_false_iff_ne] at *
    ·rw [if_pos (.inl ⟨h2, by omega⟩)] at heq
     exact ⟨by rw [← heq], by first | rfl | trivial⟩
    ·rw [if_pos (.inr h4)] at heq
     exact ⟨by rw [← heq], by first | rfl | trivial⟩
    ·rw [if_neg (by omega)] at heq
     exact ⟨by rw [← heq], by first | rfl | trivial⟩
    ·rw [if_pos (.inr h4)] at heq
     exact ⟨by rw [← heq], by first | rfl | trivial⟩
    ·rw [if_neg (by omega)] at heq
     exact ⟨by rw [← heq], by first | rfl | trivial⟩
 ·have hkm : k = min 3 s.n := by omega
  refine Br.mk (fun h2 => ?_) (fun h2 => ?_) <;> simp only [decide_eq_true_eq, decide_eq_false_iff_not] at h2
  ·have : b.drop k = [] := List.drop_eq_nil_of_le (by omega)
   rw [this, show 3 - k = (2 - k) + 1 from by omega] at heq
   exact ⟨by rw [← heq]; rfl, by first | rfl | trivial⟩
  ·rw [show 3 - k = 0 from by omega] at heq
   exact ⟨by rw [← heq]; rfl, by first | rfl | trivial⟩
theorem jO (s : Sl) (b : List Int) (w : World) (hs : cJ w s b) (hb : FR b) :
  Calls Tryz.prog fg #[s] w fun e w' => e = .returned (.tuple #[.int .i64 (bt b).1, .int .i64 (bt b).2.1, .int .i64 (bt b).2.2]) ∧ w' = w := by
 have hn := cJ.len hs
 apply lC.vc
 refine ⟨fun n x y z wr => ∃ k : Nat, x = k ∧ k + n = 3 ∧ wr = w ∧ 0 ≤ y ∧ y < 128 ^ k ∧ z = 128 ^ k ∧ j2 (3 - k) k y (b.drop k) = bt b, ⟨3, 0, rfl, by omega, rfl, by omega, by omega, rfl, rfl⟩, ?_⟩
 rintro n us x y z wr ⟨k, rfl, hk, rfl, y0, y1, rfl, heq⟩
 have hw := ag (n := (k : Int) + 1) (by unfold inI; omega)
 refine Br.mk (fun h => Br.mk (fun h0 => ?_) (fun h0 => ?_)) (fun h => ?_) <;> simp only [decide_eq_true_eq, decide_eq_false_iff_not] at *
 ·have : b.drop k = [] := List.drop_eq_nil_of_le (by omega)
  rw [this, show 3 - k = (2 - k) + 1 from by omega] at heq
  exact ⟨by rw [← heq]; rfl, by first | rfl | trivial⟩
 ·obtain ⟨c, hcb⟩ := aN (l := b) (i := k) (by omega)
  have hci := hb c (List.mem_of_getElem? hcb)
  rw [drop_cons hcb, show 3 - k = (2 - k) + 1 from by omega, oh] at heq
  have hin := cJ.eV hs (i := k) (by omega)
  have hp := yV k y c y1
  have hp0 : 1 ≤ (128 : Int) ^ k ∧ (128 : Int) ^ k ≤ 16384 := by
   have : k = 0 ∨ k = 1 ∨ k = 2 := by omega
   rcases this with rfl | rfl | rfl <;> decide
  have hm0 : 0 ≤ c % 128 * 128 ^ k := Int.mul_nonneg (by omega) (by omega)
  have hp2 : (128 : Int) ^ (k + 1) ≤ 2097152 := by rw [Int.pow_succ]; omega
  have w1 := ag (n := c) (by unfold inI; omega)
  have htm : Int.tmod c 128 = c % 128 := Int.tmod_eq_emod_of_nonneg hci.1
  have w2 := ag (n := c % 128 * 128 ^ k) (by unfold inI; omega)
  have w3 := ag (n := y + c % 128 * 128 ^ k) (by unfold inI; omega)
  have w4 := ag (n := (128 : Int) ^ k * 128) (by unfold inI; omega)
  refine ⟨hin, c, cJ.c0 hs hcb, ?_⟩
  rw [w1, htm, w2, w3, hw, w4]
  refine Br.mk (fun h1 => ?_) (fun h1 => ?_) <;> simp only [decide_eq_true_eq, decide_eq_false_iff_not] at h1
  ·rw [if_pos h1] at heq
   exact ⟨n - 1, by omega, k + 1, by omega, by omega, (by first | rfl | trivial), by omega, hp, (Int.pow_succ _ _).symm, by rw [show 3 - (k + 1) = 2 - k from by omega]; exact heq⟩
  ·rw [if_neg h1] at heq
   refine Br.mk (fun h2 => Br.mk (fun h3 => ?_) (fun h3 => Br.mk (fun h4 => ?_) (fun h4 => ?_))) (fun h2 => Br.mk (fun h4 => ?_) (fun h4 => ?_)) <;> simp only [decide_eq_true_eq, decide_eq_false_iff_not, beq_iff_eq, beq_eq_false_iff_ne] at *
   ·rw [if_pos (.inl ⟨h2, by omega⟩)] at heq
    exact ⟨by rw [← heq], by first | rfl | trivial⟩
   ·rw [if_pos (.inr h4)] at heq
    exact ⟨by rw [← heq], by first | rfl | trivial⟩
   ·rw [if_neg (by omega)] at heq
    exact ⟨by rw [← heq], by first | rfl | trivial⟩
   ·rw [if_pos (.inr h4)] at heq
    exact ⟨by rw [← heq], by first | rfl | trivial⟩
   ·rw [if_neg (by omega)] at heq
    exact ⟨by rw [← heq], by first | rfl | trivial⟩
 ·rw [show 3 - k = 0 from by omega] at heq
  exact ⟨by rw [← heq]; rfl, by first | rfl | trivial⟩
end Go.Proofs.YtalpkjfpmdpbiaaGreatDoor
namespace Go.Proofs.YtalpkjfpmdpbiaaGreatDoor
open Go Go.Vc Go.RowKit Go.Proofs Go.aB Go.Code
abbrev Hq (B:Nat) (l:List Rn) (e:Ending) (w':World):Prop:=
 ∃s:Sl,e=.returned (.tuple #[s,.int .i64 (if okW aC l then 0 else 1)])/\jX B w' s (if okW aC l then k7 l else [])
theorem Dy (left : Int) (r : Rn) (t : List Rn) : uv left (r :: t) = if r.1 < 1 ∨ r.1 > left then false else uv (left - r.1) t := rfl
end Go.Proofs.YtalpkjfpmdpbiaaGreatDoor
namespace Go.Proofs.YtalpkjfpmdpbiaaGreatDoor
open Go Go.Vc Go.RowKit Go.Proofs Go.aB Go.Code
theorem tn (s : Sl) (l : List Rn) (w : World) (hs : dT w s l) (hb : l.length ≤ 2000000) (hl : ∀ r ∈ l, inI r.1 ∧ inI r.2) :
  Calls Tryz.prog lx #[s] w fun e w' => Hq w.heap.size l e w' ∧ Ext w w' := by
 have hsn := dT.len hs
 apply px.vc
 refine ⟨fun n x y wr => ∃ k : Nat, x = k ∧ k + n = l.length ∧ Ext w wr ∧ 0 ≤ y ∧ y ≤ 1048576 ∧ y = 1048576 - aF (l.take k) ∧ uv y (l.drop k) = uv 1048576 l, ⟨l.length, 0, rfl, by omega, Ext.aq w, by omega, by omega, rfl, rfl⟩, ?_⟩
 rintro n us x y wr ⟨k, rfl, hk, xr, y0, y1, hy, heq⟩
 have hw := ag (n := (k : Int) + 1) (by unfold inI; omega)
 refine Br.mk (fun h => ?_) (fun h => ?_) <;> simp only [decide_eq_true_eq, decide_eq_false_iff_not] at h
 ·obtain ⟨r, hr⟩ := aN (l := l) (i := k) (by omega)
  have hd := drop_cons hr
  rw [hd, Dy] at heq
  refine ⟨dT.eV hs (by omega), _, _, dT.ll (hs.ext xr) hr, ?_⟩
  rintro w9 rfl w10 rfl
  have x10 := ((xr.tr (Ext.al _ (.cells #[(0:Int), (0:Int)] cg))).setRow xr.size #[.int .i64 r.1, .int .i64 r.2])
  have bad : ∀ w', Ext w w' → (r.1 < 1 ∨ r.1 > y) → Hq w.heap.size l (.returned (.tuple #[.slice none 0 0, (1:Int)])) w' ∧ Ext w w' := by
   intro w' x' hh
   rw [if_pos hh] at heq
   have : okW aC l = false := by unfold okW; rw [← heq]; rfl
   exact ⟨⟨⟨none, 0, 0⟩, by rw [this]; rfl, by rw [this]; exact af.nil⟩, x'⟩
  refine Br.mk (fun h1 => ?_) (fun h1 => Br.mk (fun h2 => ?_) (fun h2 => ?_)) <;> simp only [decide_eq_true_eq, decide_eq_false_iff_not] at h1
  ·exact bad _ x10 (.inl h1)
  ·replace h2 := eN h2
   have hri := hl r (List.mem_of_getElem? hr)
   unfold inI at hri
   have hw2 := ag (n := y - r.1) (by unfold inI; omega)
   exact bad _ x10 (.inr (by omega))
  ·replace h2 := eO h2
   have hri := hl r (List.mem_of_getElem? hr)
   unfold inI at hri
   have hw2 := ag (n := y - r.1) (by unfold inI; omega)
   rw [if_neg (by omega)] at heq
   have e := jj hr
   refine ⟨n - 1, by omega, k + 1, by omega, by omega, x10, by omega, by omega, by omega, ?_⟩
   rw [← heq, hw2]
 ·have hkl : k = l.length := by omega
  subst hkl
  rw [List.drop_length] at heq
  rw [List.take_length] at hy
  have hchk : uv 1048576 l = true := by rw [← heq]; rfl
  have hpos := (yW hchk).1
  refine (ko s l wr (hs.ext xr) (by unfold Bd; omega) (fun r hr => by have := hpos r hr; omega) (by omega)).mono ?_
  rintro e w0 ⟨rfl, x0⟩
  refine ⟨_, rfl, (oS s l (aF l) w0 ((hs.ext xr).ext x0) (by unfold Bd; omega) (by unfold inI; omega)).mono ?_⟩
  rintro e w1 ⟨rfl, x1⟩
  have hok : okW aC l = j3 aC l (aF l) := by unfold okW; rw [hchk]; rfl
  have x01 := (xr.tr x0).tr x1
  refine ⟨_, rfl, Br.mk (fun h2 => ?_) (fun h2 => ?_)⟩
  ·have : okW aC l = false := by rw [hok]; simpa using h2
   exact ⟨⟨⟨none, 0, 0⟩, by rw [this]; rfl, by rw [this]; exact af.nil⟩, x01⟩
  ·have hokt : okW aC l = true := by rw [hok]; simpa using h2
   refine ⟨fun n x o wr => ∃ k : Nat, x = k ∧ k + n = l.length ∧ Ext w wr ∧ jX w.heap.size wr o (k7 (l.take k)), ⟨l.length, 0, rfl, by omega, x01, af.nil⟩, ?_⟩
   rintro n2 us2 x2 o w2 ⟨j, rfl, hj, x2, ho⟩
   have hwj := ag (n := (j : Int) + 1) (by unfold inI; omega)
   refine Br.mk (fun h => ?_) (fun h => ?_) <;> simp only [decide_eq_true_eq, decide_eq_false_iff_not] at h
   ·obtain ⟨r, hr⟩ := aN (l := l) (i := j) (by omega)
    have hri := hl r (List.mem_of_getElem? hr)
    have hon := cJ.len (jX.vL ho)
    have hol := BN (l.take j)
    rw [List.length_take] at hol
    refine ⟨dT.eV hs (by omega), _, _, dT.ll (hs.ext x2) hr, ?_⟩
    rintro w24 rfl w25 hw25 w26 rfl
    have x25 : Ext w w25 := by rw [hw25]; exact ((x2.tr (Ext.al _ (.cells #[(0:Int), (0:Int)] cg))).setRow x2.size #[.int .i64 r.1, .int .i64 r.2])
    have hrow : Row w25 w2.heap.size [.int .i64 r.1, .int .i64 r.2] cg := by rw [hw25]; exact (Row.new w2 [(0:Int), (0:Int)] cg).set [.int .i64 r.1, .int .i64 r.2]
    have ho25 : jX w.heap.size w25.drew o (k7 (l.take j)) := by
     refine af.ext (af.bC ho (w' := w25) ?_) (Ext.dr _)
     intro g hg
     have := (ho.own.lt hg).2
     rw [hw25, setRow_other _ _ _ _ (by omega)]
     exact (Ext.al _ _).heap this
    have hlt25 := hrow.lt
    clear hw25
    have xd := x25.drew
    have hrowd := hrow.ext (Ext.dr w25)
    have hz : w25.drew.heap.size = w25.heap.size := rfl
    rw [wrap_u8]
    obtain ⟨hp, hres⟩ := af.mB ho25 (bytes := 1) (news := yv (r.2 % 256)) (.cells #[.int .u8 (r.2 % 256)] eQ) xd.size rfl (qe _ _) (by omega) (by omega)
    refine ⟨hp, fun s27 w28 hr' => ?_⟩
    obtain ⟨k1, ho', hn', xb, hkp, hbk⟩ := hres s27 w28 hr'
    have x28 : Ext w w28 := xd.trans xb
    have hone : o.ax ≠ some w2.heap.size := fun hb => absurd (ho.own.lt hb).2 (Nat.lt_irrefl _)
    have hk28 : w28.heap[w2.heap.size]? = w25.drew.heap[w2.heap.size]? := hkp _ hone (by omega)
    have hrow28 := hrowd.same hk28
    have hlt28 := hrow28.lt
    have hlt28' : w25.drew.heap.size < w28.heap.size := by
     have e : (w25.drew.alloc (.cells #[.int .u8 (r.2 % 256)] eQ)).heap[w25.drew.heap.size]? = some (.cells #[.int .u8 (r.2 % 256)] eQ (0, 0)) := Row.new w25.drew [.int .u8 (r.2 % 256)] eQ
     rw [← k1] at e
     exact (Array.getElem?_eq_some_iff.1 e).1
    have ll0 : ∀ {w'}, Row w' w2.heap.size [.int .i64 r.1, .int .i64 r.2] cg → aj w' (some ⟨w2.heap.size, 0, none⟩) 0 [.int .i64 r.1] := fun hh => hh.aX (o := 0) fun j hj => by
     have : j = 0 := by simpa using hj
     subst this; rfl
    have ll1 : ∀ {w'}, Row w' w2.heap.size [.int .i64 r.1, .int .i64 r.2] cg → aj w' (some ⟨w2.heap.size, 1, none⟩) 0 [.int .i64 r.2] := fun hh => hh.aX (o := 1) fun j hj => by
     have : j = 0 := by simpa using hj
     subst this; rfl
    refine ⟨?_, k1, ll0 hrow28, ll1 hrow28, (sw r.1 w28 hri.1).mono ?_⟩
    ·rw [hk28]; symm; exact (Ext.al _ _).k
    rintro e w29 ⟨sn, rfl, on, x29⟩
    have hnn := cJ.len (jX.vL on)
    have hnl := yY r.1
    have hrow29 := hrow28.ext x29
    refine ⟨sn, rfl, x29.heap hlt28, x29.heap hlt28', ll1 hrow29, ((j1 r.1).map yv).flatten, ba.flat (jX.vL on) (by omega), ?_⟩
    have ho3 : af w.heap.size eQ 1 w29 s27 _ := af.ext ho' x29
    obtain ⟨hp2, hres2⟩ := af.yQ ho3 (bytes := 1) (more := (j1 r.1).map yv) (x28.tr x29).size (by simp) (by intro q hq; obtain ⟨c, _, rfl⟩ := List.mem_map.1 hq; exact qe _ _) (by simp; omega) (by simp; omega)
    rw [List.length_map] at hp2 hres2
    rw [hnn]
    refine ⟨hp2, fun s32 w33 hr2 => ?_⟩
    obtain ⟨ho4, _, xb2, hk2, _⟩ := hres2 s32 w33 hr2
    have hne : s27.ax ≠ some w2.heap.size := by
     rcases hbk with h | h
     ·rw [h]; exact hone
     ·rw [h]; intro hb; simp at hb; omega
    have hne2 : s27.ax ≠ some w25.drew.heap.size := by
     rcases hbk with h | h
     ·rw [h]; intro hb; exact absurd (ho25.own.lt hb).2 (Nat.lt_irrefl _)
     ·rw [h]; intro hb; simp at hb
    have hk33 := hk2 _ hne (Nat.lt_of_lt_of_le hlt28 x29.size)
    refine ⟨hk33, hk2 _ hne2 (Nat.lt_of_lt_of_le hlt28' x29.size), ll1 (hrow29.same hk33), n2 - 1, by omega, j + 1, by omega, by omega, (x28.tr x29).trans xb2, ?_⟩
    rw [Eo hr]
    show af _ _ 1 _ _ ((k7 (l.take j) ++ (r.2 % 256 :: j1 r.1)).map yv)
    rw [List.map_append, List.map_cons]
    have := ho4
    rw [List.append_assoc] at this
    exact this
   ·have : j = l.length := by omega
    subst this
    rw [List.take_length] at ho
    exact ⟨⟨o, by rw [hokt]; rfl, by rw [hokt]; exact ho⟩, x2⟩
end Go.Proofs.YtalpkjfpmdpbiaaGreatDoor
namespace Go.Proofs.YtalpkjfpmdpbiaaGreatDoor
open Go Go.Vc Go.RowKit Go.Proofs Go.aB Go.Code
theorem Ee (b:List Int):∀r ∈ b.map yv,One r:=by
 intro q hq;obtain ⟨c,_,rfl⟩:=List.mem_map.1 hq;exact qe _ _
end Go.Proofs.YtalpkjfpmdpbiaaGreatDoor
namespace Go.Proofs.YtalpkjfpmdpbiaaGreatDoor
open Go Go.Vc Go.RowKit Go.Proofs Go.aB Go.Code
end Go.Proofs.YtalpkjfpmdpbiaaGreatDoor
namespace Go.Proofs.YtalpkjfpmdpbiaaGreatDoor
open Go Go.Vc Go.RowKit Go.Proofs Go.aB Go.Code
end Go.Proofs.YtalpkjfpmdpbiaaGreatDoor
namespace Go.Proofs.YtalpkjfpmdpbiaaGreatDoor
open Go Go.Vc Go.RowKit Go.Proofs Go.aB Go.Code
abbrev Ah (B:Nat) (p:List Rn × Int) (e:Ending) (w':World):Prop:=
 ∃s:Sl,e=.returned (.tuple #[s,p.2])/\jG B w' s p.1
theorem lX (may : Int → Bool) (f : Nat) (c : Int) (t : List Int) (n last : Int) (acc : List Rn) : gE may (f + 1) (c :: t) n last acc =
  if may c = false ∨ c = last then ([], 2)
  else if (bt t).2.2 ≠ 0 then ([], (bt t).2.2)
  else if (bt t).1 = 0 ∨ (bt t).1 > n then ([], 2)
  else if n - (bt t).1 = 0 then (if t.drop (bt t).2.1.toNat = [] then (acc ++ [((bt t).1, c)], 0) else ([], 2))
  else gE may f (t.drop (bt t).2.1.toNat) (n - (bt t).1) c (acc ++ [((bt t).1, c)]) := rfl
theorem BA {B : Nat} {p : List Rn × Int} {q : Int} {w' : World} (h : p = ([], q)) : Ah B p (.returned (.tuple #[.slice none 0 0, q])) w' := by
 subst h; exact ⟨⟨none, 0, 0⟩, rfl, af.nil⟩
theorem lY {may : Int → Bool} : ∀ (f g : Nat) (b : List Int) {n last : Int} {acc : List Rn} (_ : b.length < f) (_ : b.length < g), gE may f b n last acc = gE may g b n last acc
 | 0, _, _, _, _, _, h, _ => by omega
 | _ + 1, 0, _, _, _, _, _, h => by omega
 | f + 1, g + 1, [], _, _, _, _, _ => rfl
 | f + 1, g + 1, c :: t, n, last, acc, h1, h2 => by
   rw [lX, lX]
   have hd := qm 3 0 0 t (by omega)
   rw [show j2 3 0 0 t = bt t from rfl] at hd
   simp only [List.length_cons] at h1 h2
   rw [lY f g (t.drop (bt t).2.1.toNat) (by rw [List.length_drop]; omega) (by rw [List.length_drop]; omega)]
theorem vz (s : Sl) (b : List Int) (n : Int) (w : World) (hs : cJ w s b) (hb : FR b) (hc : s.n ≤ s.c) (hl : b.length ≤ 1099511627776) (hn : 1 ≤ n) (hn' : inI n) :
  Calls Tryz.prog mZ #[s, n] w fun e w' => Ah w.heap.size (bh aC b n) e w' ∧ Ext w w' := by
 unfold inI at hn'
 apply rB.vc
 refine ⟨fun m s3 last left o wr => ∃ (b' : List Int) (acc : List Rn), m = b'.length ∧ cJ w s3 b' ∧ s3.n ≤ s3.c ∧ FR b' ∧ acc.length + b'.length ≤ b.length ∧ 1 ≤ left ∧ left ≤ n ∧ Ext w wr ∧ jG w.heap.size wr o acc ∧ gE aC (b'.length + 1) b' left last acc = bh aC b n, ⟨b.length, b, [], rfl, hs, hc, hb, by simp, hn, by omega, Ext.aq w, af.nil, rfl⟩, ?_⟩
 rintro m us s3 last left o wr ⟨b', acc, rfl, h3, h3c, hb', hacc, hl1, hl2, xr, ho, heq⟩
 have hn3 := cJ.len h3
 refine Br.mk (fun h => ?_) (fun h => ?_) <;> simp only [decide_eq_true_eq, decide_eq_false_iff_not] at h
 ·obtain ⟨c, t, rfl⟩ : ∃ c t, b' = c :: t := by
   cases b' with
   | nil => simp at hn3; omega
   | cons c t => exact ⟨c, t, rfl⟩
  have hci := hb' c (.head _)
  have htI : FR t := fun q hq => hb' q (.tail _ hq)
  simp only [List.length_cons] at hn3 hacc
  rw [lX] at heq
  have hwc := ag (n := c) (by unfold inI; omega)
  have hrt : cJ wr ⟨ai s3.a 1 s3.n 1, s3.n - 1, s3.n - 1⟩ t := by
   have := ba.rest (h3.ext xr) (l := 1) (m := s3.n) (n' := s3.n - 1) (c' := s3.n - 1) (by rw [List.length_map, List.length_cons]; omega) (fun e => by rw [List.length_map, List.length_cons]; omega)
   exact this
  refine ⟨cJ.eV h3 (i := 0) (by simp), c, cJ.c0 (h3.ext xr) (i := 0) rfl, ?_⟩
  rw [hwc]
  rintro w10 rfl w11 hw11
  have x11 : Ext w w11 := by rw [hw11]; exact ((xr.tr (Ext.al _ (.cells #[(0:Int), (0:Int)] cg))).setRow xr.size #[(0:Int), .int .i64 c])
  have xr11 : Ext wr w11 := by rw [hw11]; exact ((Ext.al wr (.cells #[(0:Int), (0:Int)] cg)).setRow (Nat.le_refl _) #[(0:Int), .int .i64 c])
  have hrow : Row w11 wr.heap.size [(0:Int), .int .i64 c] cg := by rw [hw11]; exact (Row.new wr [(0:Int), (0:Int)] cg).set [(0:Int), .int .i64 c]
  clear hw11
  have bad : ∀ {q : Int} {w' : World}, Ext w w' → bh aC b n = ([], q) → Ah w.heap.size (bh aC b n) (.returned (.tuple #[.slice none 0 0, .int .i64 q])) w' ∧ Ext w w' := fun x' e => ⟨BA e, x'⟩
  refine (dG c w11).mono ?_
  rintro e w12 ⟨rfl, x12⟩
  have x112 := x11.tr x12
  have hrow12 := hrow.ext x12
  refine ⟨_, rfl, x12.heap hrow.lt, Br.mk (fun h1 => ?_) (fun h1 => Br.mk (fun h2 => ?_) (fun h2 => ?_))⟩
  ·refine bad x112 ?_
   rw [← heq, if_pos (.inl (by simpa using h1))]
  ·refine bad x112 ?_
   rw [← heq, if_pos (.inr (by simpa using h2))]
  have hm : aC c = true := by simpa using h1
  have hl' : c ≠ last := by simpa using h2
  rw [if_neg (by rw [hm]; simp [hl'])] at heq
  refine ⟨by omega, by omega, by omega, by omega, by omega, by omega, ?_⟩
  refine (se ⟨ai s3.a 1 s3.n 1, s3.n - 1, s3.n - 1⟩ t w12 ((hrt.ext xr11).ext x12) htI (Nat.le_refl _)).mono ?_
  rintro e w14 ⟨rfl, rfl⟩
  have hdig := qm 3 0 0 t (by omega)
  rw [show j2 3 0 0 t = bt t from rfl] at hdig
  generalize bt t = d at *
  obtain ⟨sz, kk, er⟩ := d
  simp only at *
  refine ⟨_, _, _, rfl, (by first | rfl | trivial), Br.mk (fun h3' => ?_) (fun h3' => ?_)⟩
  ·refine bad x112 ?_
   rw [← heq, if_pos (by simpa using h3')]
  have her : er = 0 := by simpa using h3'
  subst her
  have hd := hdig rfl
  rw [if_neg (by simp)] at heq
  refine Br.mk (fun h4 => ?_) (fun h4 => Br.mk (fun h5 => ?_) (fun h5 => ?_)) <;> simp only [beq_iff_eq, beq_eq_false_iff_ne, decide_eq_true_eq, decide_eq_false_iff_not] at h4
  ·refine bad x112 ?_
   rw [← heq, if_pos (.inl h4)]
  ·replace h5 := eN h5
   refine bad x112 ?_
   rw [← heq, if_pos (.inr h5)]
  replace h5 := eO h5
  rw [if_neg (by omega)] at heq
  have hwl := ag (n := left - sz) (by unfold inI; omega)
  have hwk := ag (n := 1 + kk) (by unfold inI; omega)
  rw [hwl, hwk]
  rintro w18 hw18
  have x18 : Ext w w18 := by rw [hw18]; exact x112.setRow xr.size _
  have ho12 : jG w.heap.size w14 o acc := af.ext ho (xr11.tr x12)
  have ho18 : jG w.heap.size w18.drew o acc := by
   refine af.ext (af.bC ho12 (w' := w18) ?_) (Ext.dr _)
   intro g hg
   have := (ho.own.lt hg).2
   rw [hw18, setRow_other _ _ _ _ (by omega)]
  have hlt18 : wr.heap.size < w18.heap.size := by rw [hw18, setRow_size]; exact hrow12.lt
  clear hw18
  have xd := x18.drew
  have hz : w18.drew.heap.size = w18.heap.size := rfl
  have hon := dT.len ho18.pa
  refine ⟨by omega, by omega, ?_⟩
  rintro w19 rfl
  obtain ⟨hp, hres⟩ := af.mB ho18 (bytes := 16) (news := rv (sz, c)) (.cells #[sz, .int .i64 c] cg) xd.size rfl (kV _ _ _ _) (by omega) (by omega)
  refine ⟨hp, fun s20 w21 hr' => ?_⟩
  obtain ⟨k1, ho', _, xb, hkp, _⟩ := hres s20 w21 hr'
  have x21 : Ext w w21 := xd.trans xb
  have ho21 : jG w.heap.size w21 s20 (acc ++ [(sz, c)]) := by
   show af _ _ 2 _ _ ((acc ++ [(sz, c)]).map rv)
   rw [List.map_append]; exact ho'
  have hkeep : w21.heap[wr.heap.size]? = (w18.drew.alloc (.cells #[sz, .int .i64 c] cg)).heap[wr.heap.size]? := by
   rw [hkp _ (fun hb => absurd (ho.own.lt hb).2 (Nat.lt_irrefl _)) (by omega)]
   symm
   exact (Ext.al _ _).k
  have hdl : (t.drop kk.toNat).length = t.length - kk.toNat := List.length_drop
  refine ⟨hkeep, k1, Br.mk (fun h6 => Br.mk (fun h7 => ?_) (fun h7 => Br.mk (fun h8 => ?_) (fun h8 => ?_))) (fun h6 => ?_)⟩ <;> simp only [beq_iff_eq, beq_eq_false_iff_ne] at h6
  ·simp only [decide_eq_true_eq] at h7; omega
  ·replace h8 := eN h8
   rw [if_pos h6, if_neg (by intro e; rw [e] at hdl; simp at hdl; omega)] at heq
   exact bad x21 heq.symm
  ·replace h8 := eO h8
   rw [if_pos h6, if_pos (List.eq_nil_of_length_eq_zero (by omega))] at heq
   refine ⟨⟨s20, by rw [← heq], by rw [← heq]; exact ho21⟩, x21⟩
  ·rw [if_neg h6] at heq
   have hrest := ba.rest h3 (l := (1 + kk).toNat) (m := s3.c) (n' := s3.n - (1 + kk).toNat) (c' := s3.c - (1 + kk).toNat) (by rw [List.length_map, List.length_cons]; omega) (fun e => by rw [List.length_map, List.length_cons]; omega)
   rw [show (1 + kk).toNat = kk.toNat + 1 from by omega, List.map_cons, List.drop_succ_cons, ← List.map_drop] at hrest
   rw [show (1 + kk).toNat = kk.toNat + 1 from by omega]
   refine ⟨(t.drop kk.toNat).length, by simp only [List.length_cons]; omega, t.drop kk.toNat, acc ++ [(sz, c)], rfl, hrest, by show s3.n - (kk.toNat + 1) ≤ s3.c - (kk.toNat + 1); omega, fun q hq => htI q (List.mem_of_mem_drop hq), by simp only [List.length_append, List.length_cons, List.length_nil]; omega, by omega, by omega, x21, ho21, ?_⟩
   rw [← heq]
   exact lY _ _ _ (by omega) (by simp only [List.length_cons]; omega)
 ·have : b' = [] := List.eq_nil_of_length_eq_zero (by omega)
  subst this
  have e : bh aC b n = ([], 3) := by
   rw [← heq]; show (if left > 0 then ([], 3) else (acc, 0)) = _
   rw [if_pos (by omega)]
  refine Br.mk (fun _ => ⟨BA e, xr⟩) (fun h2 => ?_)
  replace h2 := eO h2
  omega
end Go.Proofs.YtalpkjfpmdpbiaaGreatDoor
namespace Go.Proofs.YtalpkjfpmdpbiaaGreatDoor
open Go Go.Vc Go.RowKit Go.Proofs Go.aB Go.Code
theorem tw (s : Sl) (b : List Int) (n : Int) (w : World) (hs : cJ w s b) (hb : FR b) (hl : b.length ≤ 1099511627776) (hsc : s.n ≤ s.c) (hn : 1 ≤ n) (hn' : inI n) :
  Calls Tryz.prog lr #[s, n] w fun e w' => Ah w.heap.size (bh aC b n) e w' ∧ Ext w w' := by
 have hsn := cJ.len hs
 unfold inI at hn'
 apply pq.vc
 refine ⟨fun m left i o wr => ∃ (k : Nat) (last : Int) (acc : List Rn), i = k ∧ k ≤ b.length ∧ m + k = b.length ∧ acc.length ≤ k ∧ 0 ≤ left ∧ left ≤ n ∧ Ext w wr ∧ jG w.heap.size wr o acc ∧
   (acc = [] → last = -1) ∧ (∀ q, acc.getLast? = some q → q.2 = last) ∧
   (if left > 0 then gE aC (b.length - k + 1) (b.drop k) left last acc else if b.drop k = [] then (acc, 0) else ([], 2)) = bh aC b n, ⟨b.length, 0, -1, [], rfl, by omega, by omega, by simp, by omega, by omega, Ext.aq w, af.nil, fun _ => rfl, by simp, by rw [if_pos (by omega)]; rfl⟩, ?_⟩
 rintro m us left i o wr ⟨k, last, acc, rfl, hkb, hmk, hak, hl0, hl1, xr, ho, hlast0, hlast, heq⟩
 have bad : ∀ {q : Int} {w' : World}, Ext w w' → bh aC b n = ([], q) → Ah w.heap.size (bh aC b n) (.returned (.tuple #[.slice none 0 0, .int .i64 q])) w' ∧ Ext w w' := fun x' e => ⟨BA e, x'⟩
 refine Br.mk (fun h => Br.mk (fun h2 => ?_) (fun h2 => ?_)) (fun h => Br.mk (fun h2 => ?_) (fun h2 => ?_)) <;> simp only [decide_eq_true_eq, decide_eq_false_iff_not] at h h2
 ·have hd : b.drop k = [] := List.drop_eq_nil_of_le (by omega)
  rw [if_pos h, hd, show b.length - k + 1 = (b.length - k) + 1 from rfl] at heq
  refine bad xr ?_
  rw [← heq]
  show (if left > 0 then ([], 3) else (acc, 0)) = _
  rw [if_pos h]
 ·obtain ⟨c, hck⟩ := aN (l := b) (i := k) (by omega)
  have hci := hb c (List.mem_of_getElem? hck)
  have hd := drop_cons hck
  have hwc := ag (n := c) (by unfold inI; omega)
  have hwk := ag (n := (k : Int) + 1) (by unfold inI; omega)
  rw [if_pos h, hd, lX] at heq
  have hin := cJ.eV hs (i := k) (by omega)
  refine ⟨hin, c, cJ.c0 (hs.ext xr) hck, ?_⟩
  rw [hwc, hwk]
  refine (vy c wr).mono ?_
  rintro e w9 ⟨rfl, rfl⟩
  refine ⟨_, rfl, Br.mk (fun h1 => ?_) (fun h1 => ?_)⟩
  ·refine bad xr ?_
   rw [← heq, if_pos (.inl (by simpa using h1))]
  have hm : aC c = true := by simpa using h1
  have htI : FR (b.drop (k + 1)) := fun q hq => hb q (List.mem_of_mem_drop hq)
  have hrest := ba.rest (hs.ext xr) (l := k + 1) (m := s.c) (n' := s.n - (k + 1)) (c' := s.c - (k + 1)) (by rw [List.length_map]; omega) (fun e => by rw [List.length_map]; omega)
  rw [← List.map_drop] at hrest
  have hdl : (b.drop (k + 1)).length = b.length - (k + 1) := List.length_drop
  rw [show ((k : Int) + 1).toNat = k + 1 from by omega]
  have hdig := qm 3 0 0 (b.drop (k + 1)) (by omega)
  rw [show j2 3 0 0 (b.drop (k + 1)) = bt (b.drop (k + 1)) from rfl] at hdig
  have hon := dT.len ho.pa
  have hne : Br (decide ((((o.n : Nat) : Int) : Int) > 0)) (c = last ∨ c ≠ last) (c ≠ last) := by
   refine Br.mk (fun _ => Decidable.em _) (fun h3 => ?_)
   replace h3 := eO h3
   have := hlast0 (List.eq_nil_of_length_eq_zero (by omega))
   omega
  refine Br.mk (fun h3 => ?_) (fun h3 => ?_)
  ·replace h3 := eN h3
   have hwo := ag (n := ((o.n : Nat) : Int) - 1) (by unfold inI; omega)
   rw [hwo]
   rw [show (if 0 > ((o.n : Nat) : Int) - 1 then 0 else ((o.n : Nat) : Int) - 1) = ((o.n - 1 : Nat) : Int) from by split <;> omega]
   obtain ⟨q, hq⟩ := aN (l := acc) (i := o.n - 1) (by omega)
   have hql := hlast q (by rw [List.getLast?_eq_getElem?, ← hon]; exact hq)
   refine ⟨dT.eV ho.pa (by omega), kQ.2 ⟨dT.some ho.pa (i := o.n - 1) (by omega), _, dT.c1 ho.pa hq, Br.mk (fun h4 => ?_) (fun h4 => ?_)⟩⟩ <;> simp only [beq_iff_eq, beq_eq_false_iff_ne] at h4
   ·refine bad xr ?_
    rw [← heq, if_pos (.inr (by omega))]
   ·have hcl : c ≠ last := by omega
    clear hne
    rw [if_neg (by rw [hm]; simp [hcl])] at heq
    refine ⟨by omega, by omega, ?_⟩
    refine (jO ⟨ai s.a (k + 1) s.c 1, s.n - (k + 1), s.c - (k + 1)⟩ (b.drop (k + 1)) _ hrest htI).mono ?_
    rintro e w12 ⟨rfl, rfl⟩
    generalize bt (b.drop (k + 1)) = d at *
    obtain ⟨sz, kk, er⟩ := d
    simp only at heq hdig
    refine ⟨_, _, _, rfl, Br.mk (fun h5 => ?_) (fun h5 => ?_)⟩
    ·refine bad xr ?_
     rw [← heq, if_pos (by simpa using h5)]
    have her : er = 0 := by simpa using h5
    subst her
    have hd2 := hdig rfl
    rw [if_neg (by simp)] at heq
    refine Br.mk (fun h6 => ?_) (fun h6 => Br.mk (fun h7 => ?_) (fun h7 => ?_)) <;> simp only [beq_iff_eq, beq_eq_false_iff_ne] at h6
    ·refine bad xr ?_
     rw [← heq, if_pos (.inl h6)]
    ·replace h7 := eN h7
     refine bad xr ?_
     rw [← heq, if_pos (.inr h7)]
    replace h7 := eO h7
    rw [if_neg (by omega)] at heq
    rintro w16 rfl
    obtain ⟨hp, hres⟩ := af.mB ho (bytes := 16) (news := rv (sz, c)) (.cells #[sz, c] cg) xr.size rfl (kV _ _ _ _) (by omega) (by omega)
    refine ⟨hp, fun s17 w18 hr' => ?_⟩
    obtain ⟨k1, ho', _, xb, _, _⟩ := hres s17 w18 hr'
    have ho21 : jG w.heap.size w18 s17 (acc ++ [(sz, c)]) := by
     show af _ _ 2 _ _ ((acc ++ [(sz, c)]).map rv)
     rw [List.map_append]; exact ho'
    have w1 := ag (n := left - sz) (by unfold inI; omega)
    have w2 := ag (n := (k : Int) + 1 + kk) (by unfold inI; omega)
    rw [w1, w2]
    refine ⟨k1, m - 1 - kk.toNat, by omega, k + 1 + kk.toNat, c, acc ++ [(sz, c)], by omega, by omega, by omega, by simp; omega, by omega, by omega, xr.trans xb, ho21, by simp, by intro q hq; simp at hq; subst hq; rfl, ?_⟩
    rw [← heq, ← List.drop_drop]
    by_cases hz : left - sz = 0
    ·rw [if_neg (by omega), if_pos hz]
    ·rw [if_pos (by omega), if_neg hz]
     exact lY _ _ _ (by rw [List.length_drop]; omega) (by rw [List.length_drop]; omega)
  ·have hcl : c ≠ last := Br.ff hne h3
   clear hne
   rw [if_neg (by rw [hm]; simp [hcl])] at heq
   refine ⟨by omega, by omega, ?_⟩
   refine (jO ⟨ai s.a (k + 1) s.c 1, s.n - (k + 1), s.c - (k + 1)⟩ (b.drop (k + 1)) _ hrest htI).mono ?_
   rintro e w12 ⟨rfl, rfl⟩
   generalize bt (b.drop (k + 1)) = d at *
   obtain ⟨sz, kk, er⟩ := d
   simp only at heq hdig
   refine ⟨_, _, _, rfl, Br.mk (fun h5 => ?_) (fun h5 => ?_)⟩
   ·refine bad xr ?_
    rw [← heq, if_pos (by simpa using h5)]
   have her : er = 0 := by simpa using h5
   subst her
   have hd2 := hdig rfl
   rw [if_neg (by simp)] at heq
   refine Br.mk (fun h6 => ?_) (fun h6 => Br.mk (fun h7 => ?_) (fun h7 => ?_)) <;> simp only [beq_iff_eq, beq_eq_false_iff_ne] at h6
   ·refine bad xr ?_
    rw [← heq, if_pos (.inl h6)]
   ·replace h7 := eN h7
    refine bad xr ?_
    rw [← heq, if_pos (.inr h7)]
   replace h7 := eO h7
   rw [if_neg (by omega)] at heq
   rintro w16 rfl
   obtain ⟨hp, hres⟩ := af.mB ho (bytes := 16) (news := rv (sz, c)) (.cells #[sz, c] cg) xr.size rfl (kV _ _ _ _) (by omega) (by omega)
   refine ⟨hp, fun s17 w18 hr' => ?_⟩
   obtain ⟨k1, ho', _, xb, _, _⟩ := hres s17 w18 hr'
   have ho21 : jG w.heap.size w18 s17 (acc ++ [(sz, c)]) := by
    show af _ _ 2 _ _ ((acc ++ [(sz, c)]).map rv)
    rw [List.map_append]; exact ho'
   have w1 := ag (n := left - sz) (by unfold inI; omega)
   have w2 := ag (n := (k : Int) + 1 + kk) (by unfold inI; omega)
   rw [w1, w2]
   refine ⟨k1, m - 1 - kk.toNat, by omega, k + 1 + kk.toNat, c, acc ++ [(sz, c)], by omega, by omega, by omega, by simp; omega, by omega, by omega, xr.trans xb, ho21, by simp, by intro q hq; simp at hq; subst hq; rfl, ?_⟩
   rw [← heq, ← List.drop_drop]
   by_cases hz : left - sz = 0
   ·rw [if_neg (by omega), if_pos hz]
   ·rw [if_pos (by omega), if_neg hz]
    exact lY _ _ _ (by rw [List.length_drop]; omega) (by rw [List.length_drop]; omega)
 ·rw [if_neg h, if_neg (by intro e; have := congrArg List.length e; simp at this; omega)] at heq
  exact bad xr heq.symm
 ·rw [if_neg h, if_pos (List.drop_eq_nil_of_le (by omega))] at heq
  exact ⟨⟨o, by rw [← heq], by rw [← heq]; exact ho⟩, xr⟩
end Go.Proofs.YtalpkjfpmdpbiaaGreatDoor
namespace Go.Proofs.YtalpkjfpmdpbiaaGreatDoor
open Go Go.Vc Go.RowKit Go.Proofs Go.aB Go.Code
theorem af.le {B E k:Nat} {w:World} {s:Sl} {rows:List (List Value)} (h:af B E k w s rows):s.n<=s.c:=by
 have ho:=h.own
 generalize rows.flatten=xs at ho
 cases ho with
 |nil=>exact Nat.le_refl _
 |row g n c cs hg hr hc hn=>exact hn
theorem sV {b : List Int} {n : Int} (hb : FR b) (hn : 1 ≤ n) (h : (bh aC b n).2 = 0) : k7 (bh aC b n).1 = b ∧ dE aC (-1) (bh aC b n).1 ∧ aF (bh aC b n).1 = n := by
 obtain ⟨l, e1, e2, e3, e4, _⟩ := ti (may := aC) (b.length + 1) b n (-1) [] hb hn h
 rw [List.nil_append] at e1
 have e : bh aC b n = gE aC (b.length + 1) b n (-1) [] := rfl
 rw [e, e1]
 exact ⟨e2, e3, e4⟩
theorem CS {l:List Rn} {last:Int} (h:dE aC last l):∀r ∈ l,inI r.1/\inI r.2:=by
 intro r hr
 have:=h.mem r hr
 unfold Go.Vc.inI;omega
end Go.Proofs.YtalpkjfpmdpbiaaGreatDoor
