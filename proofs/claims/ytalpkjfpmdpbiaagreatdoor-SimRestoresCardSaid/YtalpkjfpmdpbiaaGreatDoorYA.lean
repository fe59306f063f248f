import Derived.Test.YtalpkjfpmdpbiaaGreatDoorKT
import Derived.Test.YtalpkjfpmdpbiaaGreatDoorGF
import Derived.Test.YtalpkjfpmdpbiaaGreatDoorP
import Derived.Test.YtalpkjfpmdpbiaaGreatDoorWA
set_option linter.all false
namespace Go.Proofs.YtalpkjfpmdpbiaaGreatDoor
open Go Go.Vc Go.RowKit Go.Proofs Go.bY Go.aD Go.Code Go.ij
def cY(c:Ce):Prop:=(-2000000000<=c.1/\c.1<=2000000000)/\(-2000000000<=c.2.1/\c.2.1<=2000000000)/\-2000000000<=c.2.2/\c.2.2<=2000000000
def og(c:Ce):Prop:=(-1000000000<=c.1/\c.1<=1000000000)/\(-1000000000<=c.2.1/\c.2.1<=1000000000)/\-1000000000<=c.2.2/\c.2.2<=1000000000
theorem cY.ok{c:Ce}(h:cY c):lx c:=by unfold cY at h;unfold lx inI;omega
theorem og.wide{c:Ce}(h:og c):cY c:=by unfold og at h;unfold cY;omega
theorem uQ{c:Ce}(h:cY c){n:Ce}(hn:n ∈ eK c):lx n:=by
 unfold cY at h
 unfold eK a8 rR at hn
 simp only [List.mem_cons,List.not_mem_nil,or_false]at hn
 rcases hn with rfl|rfl|rfl|rfl|rfl|rfl<;>(unfold lx inI;simp only;omega)
theorem IW{c:Ce}(h:og c){n:Ce}(hn:n ∈ eK c):cY n:=by
 unfold og at h
 unfold eK a8 rR at hn
 simp only [List.mem_cons,List.not_mem_nil,or_false]at hn
 rcases hn with rfl|rfl|rfl|rfl|rfl|rfl<;>(unfold cY;simp only;omega)
theorem lN (n : Int) (h : -2147483648 ≤ n ∧ n ≤ 2147483648) (w : World) : Calls Tryz.prog dQ #[n] w fun e w' => e = .returned n ∧ w' = w := by
 apply rP.vc
 unfold rP.pre
 have e1 : (if (-2147483648) > n then (-2147483648) else n) = n := if_neg (by omega)
 rw [e1, if_neg (by omega)]
 exact ⟨rfl, rfl⟩
theorem HK (c : Ce) (h : (-2147483648 ≤ c.1 ∧ c.1 ≤ 2147483648) ∧ (-2147483648 ≤ c.2.1 ∧ c.2.1 ≤ 2147483648) ∧ -2147483648 ≤ c.2.2 ∧ c.2.2 ≤ 2147483648) (w : World) : Calls Tryz.prog qD #[iR c] w fun e w' => e = .returned (iR c) ∧ Ext w w' := by
 apply wD.vc
 intro w0 e0 w1 e1
 have x1 : Ext w w1 := ((Ext.ao _).aa e0).aa e1
 have z0 := cL e0
 have r0 : Row w1 w.heap.size [c.1, c.2.1, c.2.2] jY := (by rw [e0]; exact Row.new w [_, _, _] _ : Row w0 w.heap.size _ _).ext ((Ext.ao _).aa e1)
 clear e0 e1
 have xd := Ext.dr w1
 have r1 := r0.ext xd
 refine (lN c.1 h.1 w1.drew).mono ?_
 rintro e w2 ⟨rfl, rfl⟩
 refine ⟨_, rfl, rfl, rfl, r1.aL (o := 2) (fun j hj => by
  match j, hj with
  | 0, _ => rfl), r1.aL (o := 1) (fun j hj => by
  match j, hj with
  | 0, _ => rfl), (lN c.2.1 h.2.1 w1.drew).mono ?_⟩
 rintro e w4 ⟨rfl, rfl⟩
 refine ⟨_, rfl, rfl, rfl, r1.aL (o := 2) (fun j hj => by
  match j, hj with
  | 0, _ => rfl), (lN c.2.2 h.2.2 w1.drew).mono ?_⟩
 rintro e w6 ⟨rfl, rfl⟩
 exact ⟨_, rfl, rfl, rfl, fun w8 e8 => ⟨rfl, (x1.tr xd).af e8 (by omega)⟩⟩
theorem gL (a b d : Int) (c c' : Ce) (he : c' = (c.1 + a, c.2.1 + b, c.2.2 + d)) (hc : cY c) (ha : (-1 ≤ a ∧ a ≤ 1) ∧ (-1 ≤ b ∧ b ≤ 1) ∧ -1 ≤ d ∧ d ≤ 1) {g : Nat} {w : World} (hr : Row w g [c.1, c.2.1, c.2.2] jY) :
  Calls Tryz.prog cg #[a, b, d, .pointer (some ⟨g, 0, none⟩)] w fun e w' => e = .returned (iR c') ∧ Ext w w' := by
 subst he
 apply nZ.vc
 obtain ⟨⟨h1, h2⟩, ⟨h3, h4⟩, h5, h6⟩ := id hc
 intro w0 e0
 have x0 : Ext w w0 := (Ext.ao _).aa e0
 have z0 := cL e0
 clear e0
 have xd := x0.tr (Ext.dr w0)
 have zd : w0.drew.heap.size = w0.heap.size := rfl
 have r1 := hr.ext xd
 have q1 : IntKind.wrap .i64 (c.1 + a) = c.1 + a := wI
 have q2 : IntKind.wrap .i64 (c.2.1 + b) = c.2.1 + b := wI
 have q3 : IntKind.wrap .i64 (c.2.2 + d) = c.2.2 + d := wI
 refine ⟨c.1, r1.at 0 rfl, c.2.1, r1.at 1 rfl, c.2.2, r1.at 2 rfl, (lN c.1 (by omega) w0.drew).mono ?_⟩
 rintro e w4 ⟨rfl, rfl⟩
 refine ⟨_, rfl, rfl, jN (r1.at 2 rfl), jN (r1.at 1 rfl), (lN c.2.1 (by omega) w0.drew).mono ?_⟩
 rintro e w6 ⟨rfl, rfl⟩
 refine ⟨_, rfl, rfl, jN (r1.at 2 rfl), (lN c.2.2 (by omega) w0.drew).mono ?_⟩
 rintro e w8 ⟨rfl, rfl⟩
 refine ⟨_, rfl, rfl, ?_⟩
 rw [q1, q2, q3]
 refine (HK (c.1 + a, c.2.1 + b, c.2.2 + d) (by simp only; omega) w0.drew).mono ?_
 rintro e w10 ⟨rfl, x10⟩
 exact ⟨_, _, _, rfl, x10.k, fun w14 e14 => ⟨rfl, (xd.tr x10).af e14 (Nat.le_refl _)⟩⟩
abbrev di(c:Ce):List Value:=[.int .i64 c.1,.int .i64 c.2.1,.int .i64 c.2.2]
theorem xX (c : Ce) : One (di c) := by
 intro v hv; simp at hv; rcases hv with rfl | rfl | rfl <;> rfl
abbrev Du (c : Ce) : List Value := [.int .i64 (c.1 - 1), .int .i64 c.2.1, .int .i64 c.2.2, .int .i64 (c.1 + 1), .int .i64 c.2.1, .int .i64 c.2.2, .int .i64 c.1, .int .i64 (c.2.1 - 1), .int .i64 c.2.2, .int .i64 c.1, .int .i64 (c.2.1 + 1), .int .i64 c.2.2, .int .i64 c.1, .int .i64 c.2.1, .int .i64 (c.2.2 - 1), .int .i64 c.1, .int .i64 c.2.1, .int .i64 (c.2.2 + 1)]
theorem Dv (c : Ce) : One (Du c) := by
 intro v hv
 simp only [Du, List.mem_cons, List.not_mem_nil, or_false] at hv
 rcases hv with rfl | rfl | rfl | rfl | rfl | rfl | rfl | rfl | rfl | rfl | rfl | rfl | rfl | rfl | rfl | rfl | rfl | rfl <;> rfl
theorem HL (c : Ce) : Du c = ((eK c).map di).flatten := rfl
theorem mS {cs vs : List Value} (h : vs.length = cs.length) : az cs 0 vs = vs := by
 rw [bw _ _ _ (by omega)]
 simp [← h]
theorem nc{a b c a' b' c':Int}(h1:a=a')(h2:b=b')(h3:c=c'):((a,b,c):Ce)=(a',b',c'):=by rw [h1,h2,h3]
set_option maxRecDepth 100000 in
theorem jq (c : Ce) (hc : cY c) (w : World) : Calls Tryz.prog dR #[iR c] w fun e w' => e = .returned (.agg (Du c).toArray) ∧ Ext w w' := by
 apply tu.vc
 intro w0 e0 w1 e1
 have x1 : Ext w w1 := ((Ext.ao _).aa e0).aa e1
 have z0 := cL e0
 have r0 : Row w1 w.heap.size [c.1, c.2.1, c.2.2] jY := (by rw [e0]; exact Row.new w [_, _, _] _ : Row w0 w.heap.size _ _).ext ((Ext.ao _).aa e1)
 have rb : Row w1 w0.heap.size [(0:Int), (0:Int), (0:Int), (0:Int), (0:Int), (0:Int), (0:Int), (0:Int), (0:Int), (0:Int), (0:Int), (0:Int), (0:Int), (0:Int), (0:Int), (0:Int), (0:Int), (0:Int)] 161 := by rw [e1]; exact Row.new w0 [_, _, _, _, _, _, _, _, _, _, _, _, _, _, _, _, _, _] _
 clear e0 e1
 refine (gL (-1) 0 0 c (c.1 - 1, c.2.1, c.2.2) (nc (by omega) (by omega) (by omega)) hc (by decide) r0).mono ?_
 rintro e w2 ⟨rfl, x2⟩
 refine ⟨_, _, _, rfl, (gL 1 0 0 c (c.1 + 1, c.2.1, c.2.2) (nc (by omega) (by omega) (by omega)) hc (by decide) (r0.ext x2)).mono ?_⟩
 rintro e w6 ⟨rfl, x6⟩
 have y6 := x2.tr x6
 refine ⟨_, _, _, rfl, (gL 0 (-1) 0 c (c.1, c.2.1 - 1, c.2.2) (nc (by omega) (by omega) (by omega)) hc (by decide) (r0.ext y6)).mono ?_⟩
 rintro e w10 ⟨rfl, x10⟩
 have y10 := y6.tr x10
 refine ⟨_, _, _, rfl, (gL 0 1 0 c (c.1, c.2.1 + 1, c.2.2) (nc (by omega) (by omega) (by omega)) hc (by decide) (r0.ext y10)).mono ?_⟩
 rintro e w14 ⟨rfl, x14⟩
 have y14 := y10.tr x14
 refine ⟨_, _, _, rfl, (gL 0 0 (-1) c (c.1, c.2.1, c.2.2 - 1) (nc (by omega) (by omega) (by omega)) hc (by decide) (r0.ext y14)).mono ?_⟩
 rintro e w18 ⟨rfl, x18⟩
 have y18 := y14.tr x18
 refine ⟨_, _, _, rfl, (gL 0 0 1 c (c.1, c.2.1, c.2.2 + 1) (nc (by omega) (by omega) (by omega)) hc (by decide) (r0.ext y18)).mono ?_⟩
 rintro e w22 ⟨rfl, x22⟩
 have y22 := y18.tr x22
 have r22 := rb.ext y22
 refine ⟨_, _, _, rfl, ⟨rfl, r22.wr (by simp)⟩, fun w26 e26 => ?_⟩
 have e26 : w26 = aB w22 (some ⟨w0.heap.size, 0, none⟩) (Du c) := e26
 rw [r22.aB (vs := Du c) (by simp) (Dv c), mS (by simp)] at e26
 have hr' : Row w26 w0.heap.size (Du c) 161 := by rw [e26]; exact r22.set _
 exact ⟨_, _, _, _, _, _, _, _, _, _, _, _, _, _, _, _, _, _, hr'.aL (fun j hj => by rw [Nat.zero_add]), rfl, (x1.tr y22).af e26 (by omega)⟩
theorem qw (b : Int) (w : World) : Calls Tryz.prog pY #[b] w fun e w' => e = .returned (.bool (b == 3)) ∧ w' = w := by
 apply oI.vc
 exact ⟨rfl, rfl⟩
theorem lz (b : Int) (w : World) : Calls Tryz.prog ke #[b] w fun e w' => e = .returned (.bool (nr b)) ∧ w' = w := by
 apply tL.vc
 unfold nr
 refine Br.mk (fun h => ⟨?_, rfl⟩) (fun h => ⟨?_, rfl⟩)
 ·have h1 : (8 : Int) ≤ b := by simpa using h
  rw [decide_eq_true h1, Bool.true_and]
 ·have h1 : ¬ (8 : Int) ≤ b := by simpa using h
  rw [decide_eq_false h1, Bool.false_and]
theorem Ck (b : Int) (w : World) : Calls Tryz.prog oz #[b] w fun e w' => e = .returned (.bool (vG b)) ∧ w' = w := by
 apply mz.vc
 unfold vG
 refine Br.mk (fun h => ⟨?_, rfl⟩) (fun h => (lz b w).mono ?_)
 ·have h1 : b = 0 := by simpa using h
  rw [decide_eq_true h1, Bool.true_or]
 ·rintro e w' ⟨rfl, rfl⟩
  have h1 : ¬ b = 0 := by simpa using h
  rw [decide_eq_false h1, Bool.false_or]
  exact ⟨_, rfl, rfl, rfl⟩
theorem xg (b : Int) (w : World) : Calls Tryz.prog jd #[b] w fun e w' => e = .returned (.int .i64 (aQ b)) ∧ w' = w := by
 apply qE.vc
 refine (qw b w).mono ?_
 rintro e w0 ⟨rfl, rfl⟩
 unfold aQ
 refine ⟨_, rfl, Br.mk (fun h => ?_) (fun h => (lz b w0).mono ?_)⟩
 ·rw [if_pos (by simpa using h)]; exact ⟨rfl, rfl⟩
 ·rintro e w2 ⟨rfl, rfl⟩
  rw [if_neg (by simpa using h)]
  refine ⟨_, rfl, Br.mk (fun h => ?_) (fun h => ?_)⟩
  ·rw [if_pos h]; exact ⟨rfl, rfl⟩
  ·rw [if_neg (by rw [h]; decide)]; exact ⟨rfl, rfl⟩
end Go.Proofs.YtalpkjfpmdpbiaaGreatDoor
namespace Go.Proofs.YtalpkjfpmdpbiaaGreatDoor
open Go Go.Vc Go.RowKit Go.Proofs Go.bY Go.aD Go.Code Go.ij
def Tl (v : Value) (V : Ce → Int) (w : World) : Prop := ∃ D : Nat → Prop, (∀ i, D i → i < w.heap.size) ∧ ∀ w', (∀ i, D i → w'.heap[i]? = w.heap[i]?) → ∀ c, lx c → br Tryz.prog v [iR c] w' fun e w'' => e = .returned (.int .i64 (V c)) ∧ Ext w' w''
theorem Tl.ext {v : Value} {V : Ce → Int} {w w' : World} (h : Tl v V w) (x : Ext w w') : Tl v V w' := by
 obtain ⟨D, h1, h2⟩ := h
 exact ⟨D, fun i hi => Nat.lt_of_lt_of_le (h1 i hi) x.size, fun w'' hk => h2 w'' fun i hi => (hk i hi).trans (x.heap (h1 i hi))⟩
theorem Tl.at {v : Value} {V : Ce → Int} {w : World} (h : Tl v V w) {c : Ce} (hc : lx c) : br Tryz.prog v [iR c] w fun e w' => e = .returned (.int .i64 (V c)) ∧ Ext w w' := by
 obtain ⟨D, h1, h2⟩ := h
 exact h2 w (fun _ _ => rfl) c hc
theorem bg{v:Value}{l:List Value}{w:World}{R R':Ending->World->Prop}(h:br Tryz.prog v l w R)(k:∀e w',R e w'->R' e w'):br Tryz.prog v l w R':=rh h k
abbrev g8(x:Go.ij.Cg):List Value:=[.int .i64 x.1.1,.int .i64 x.1.2.1,.int .i64 x.1.2.2,.int .i64 x.2]
theorem HM {E k n : Nat} {w w' : World} {s s' : Sl} {news : List Value} (h : aq E k w s n news s' w') (hc : s.c < s.n + n) : Ext w w' := by
 cases h with
 | fits hf => omega
 | uI => exact (Ext.dr w).tr (Ext.al _ _)
set_option maxRecDepth 100000 in
theorem CZ {v : Value} {V : Ce → Int} {w : World} (hV : Tl v V w) (c : Ce) (hc : cY c) :
  Calls Tryz.prog mf #[v, iR c] w fun e w' => ∃ s : Sl, e = .returned s ∧ ag w.heap.size jY 3 w' s ((eY V c).map di) ∧ Ext w w' := by
 apply qG.vc
 intro w0 e0
 have x0 : Ext w w0 := (Ext.ao _).aa e0
 have z0 := cL e0
 clear e0
 refine (jq c hc w0).mono ?_
 rintro e w1 ⟨rfl, x1⟩
 have z1 := x1.size
 refine ⟨_, _, _, _, _, _, _, _, _, _, _, _, _, _, _, _, _, _, rfl, x1.k, fun w20 e20 => ?_⟩
 have x20 : Ext w1 w20 := (Ext.ao _).aa e20
 have z20 := cL e20
 have hr : Row w20 w1.heap.size [(0:Int), (0:Int), (0:Int), (0:Int), (0:Int), (0:Int), (0:Int), (0:Int), (0:Int), (0:Int), (0:Int), (0:Int), (0:Int), (0:Int), (0:Int), (0:Int), (0:Int), (0:Int)] 161 := by rw [e20]; exact Row.new w1 [_, _, _, _, _, _, _, _, _, _, _, _, _, _, _, _, _, _] _
 clear e20
 refine ⟨⟨rfl, hr.wr (by simp)⟩, fun e => by
  have : w1.heap.size = w.heap.size := by simpa [bK] using e
  omega, fun w21 e21 w22 e22 => ?_⟩
 have e21 : w21 = aB w20 (some ⟨w1.heap.size, 0, none⟩) (Du c) := e21
 rw [hr.aB (vs := Du c) (by simp) (Dv c), mS (by simp)] at e21
 have hr2 : Row w21 w1.heap.size (Du c) 161 := by rw [e21]; exact hr.set _
 have x21 : Ext w w21 := (x0.tr (x1.tr x20)).af e21 (by omega)
 have z21 := vj e21
 clear e21
 have xd := Ext.dr w21
 have zd : w21.drew.heap.size = w21.heap.size := rfl
 have x22 : Ext w21.drew w22 := (Ext.ao _).aa e22
 have z22 := cL e22
 have hc22 : Row w22 w21.drew.heap.size (di c) jY := by rw [e22]; exact Row.new w21.drew [_, _, _] _
 clear e22
 have x022 := x21.tr (xd.tr x22)
 have hr22 := hr2.ext (xd.tr x22)
 have ho : ag w.heap.size jY 3 w22 ⟨some ⟨w21.drew.heap.size, 0, none⟩, 1, 1⟩ [di c] := ag.fC (by omega) hc22 (by simp) (Nat.le_refl _) rfl (by simp)
 have ha := ho.np (bytes := 24) (more := (eK c).map di) (by omega) (fun r hr => by obtain ⟨y, -, rfl⟩ := List.mem_map.1 hr; rfl) (fun r hr => by obtain ⟨y, -, rfl⟩ := List.mem_map.1 hr; exact xX y) (by simp [eK]) (by simp [eK])
 obtain ⟨hp, hres⟩ := ha
 refine ⟨((eK c).map di).flatten, ?_, hp, fun s24 w25 hr25 => ?_⟩
 ·rw [cf]
  intro i u hu
  exact hr22.at i (by rw [HL]; exact hu)
 obtain ⟨ho25, hn25, -, -, -⟩ := hres s24 w25 hr25
 have x25 : Ext w22 w25 := HM hr25 (show (1 : Nat) < 1 + (6 - 0) by decide)
 have z25 := x25.size
 have x025 : Ext w w25 := x022.tr x25
 have ho25 : ag w.heap.size jY 3 w25 s24 ((c :: eK c).map di) := ho25
 have hrd := ho25.rd (show 0 < 3 by decide)
 have hn24 : s24.n = 7 := hrd.n
 refine ⟨x25.k, x25.k, fun n x s30 w31 => ∃ j : Nat, x = j ∧ j + n = 7 ∧ ag w25.heap.size jY 3 w31 s30 ((((c :: eK c).take j).filter fun n => decide (0 < aQ (V n))).map di) ∧ Ext w25 w31, ⟨7, rfl, rfl, 0, rfl, rfl, ag.nil, Ext.ao _⟩, ?_⟩
 rintro n us x s30 w31 ⟨j, rfl, hj, ho31, x31⟩
 have z31 := x31.size
 refine Br.mk (fun hb => ?_) (fun hb => ?_)
 ·replace hb := dj hb
  obtain ⟨y, hy⟩ := aI (l := c :: eK c) (i := j) (by have : (c :: eK c).length = 7 := rfl; omega)
  have hym : y ∈ c :: eK c := List.mem_of_getElem? hy
  have oky : lx y := by
   rcases List.mem_cons.1 hym with rfl | h
   ·exact hc.ok
   ·exact uQ hc h
  have hy' : ((c :: eK c).map di)[j]? = some (di y) := by rw [List.getElem?_map, hy]; rfl
  have htk : (c :: eK c).take (j + 1) = (c :: eK c).take j ++ [y] := by rw [List.take_add_one, hy]; rfl
  refine ⟨hrd.ee (i := (j : Int)) (by decide) (by omega) hb, _, _, _, (hrd.ext x31).aL hy', fun w36 e36 w37 e37 => ?_⟩
  have x37 : Ext w31 w37 := ((Ext.ao _).aa e36).af e37 (Nat.le_refl _)
  have z37 := rB e36 e37
  clear e36 e37
  refine bg ((hV.ext (x025.tr (x31.tr x37))).at oky) ?_
  rintro e w38 ⟨rfl, x38⟩
  have z38 := x38.size
  refine ⟨_, rfl, x38.k, x38.k, x38.k, (xg (V y) w38).mono ?_⟩
  rintro e w40 ⟨rfl, rfl⟩
  have wk : IntKind.wrap .i64 ((j : Int) + 1) = ((j + 1 : Nat) : Int) := by rw [wI]; omega
  refine ⟨_, rfl, rfl, rfl, rfl, ?_⟩
  have ho40 := ho31.ext (x37.tr x38)
  refine Br.mk (fun hd => ?_) (fun hd => ?_)
  ·intro w42 e42
   subst e42
   have hn30 : s30.n ≤ 7 := by
    have h1 := (ho31.rd (show 0 < 3 by decide)).n
    have h2 := List.length_filter_le (fun n => decide (0 < aQ (V n))) ((c :: eK c).take j)
    rw [List.length_map] at h1
    rw [List.length_take] at h2
    omega
   obtain ⟨hp8, hres8⟩ := ho40.ly (bytes := 24) (news := di y) (.cells #[y.1, y.2.1, y.2.2] jY) (by omega) rfl (xX y) (by omega) (by omega)
   refine ⟨hp8, fun s43 w44 hr44 => ?_⟩
   obtain ⟨f8, ho8, hn8, x8, hk8, -⟩ := hres8 s43 w44 hr44
   have xa := Ext.al w40 (.cells #[y.1, y.2.1, y.2.2] jY)
   have hb30 : ∀ b, s30.ay = some b → w25.heap.size ≤ b ∧ b < w31.heap.size := fun b hb => ho31.own.lt hb
   have kp : ∀ j, (j < w25.heap.size ∨ w31.heap.size ≤ j) → j < w40.heap.size → w44.heap[j]? = (w40.alloc (.cells #[y.1, y.2.1, y.2.2] jY)).heap[j]? := fun j hj hj2 => by
    rw [hk8 j (fun hb => by have := hb30 j hb; omega) hj2, xa.heap hj2]
   refine ⟨kp _ (.inl (by omega)) (by omega), kp _ (.inl (by omega)) (by omega), kp _ (.inr (by omega)) (by omega), f8, n - 1, by omega, rfl, rfl, j + 1, wk, by omega, ?_, (Below.trans (x31.tr (x37.tr x38)) x8 : Below w25.heap.size w25 w44)⟩
   rw [htk, List.filter_append, List.map_append, List.filter_cons_of_pos (by simpa using hd)]
   exact ho8
  ·refine ⟨n - 1, by omega, rfl, rfl, j + 1, wk, by omega, ?_, x31.tr (x37.tr x38)⟩
   rw [htk, List.filter_append, List.map_append, List.filter_cons_of_neg (by simpa using hd)]
   simpa using ho40
 ·replace hb := dH hb
  have hj7 : (c :: eK c).take j = c :: eK c := List.take_of_length_le (by have : (c :: eK c).length = 7 := rfl; omega)
  rw [hj7] at ho31
  exact ⟨s30, rfl, ho31.low (by omega), x025.tr x31⟩
theorem CK (c : Ce) : ((Du c).drop ((2 : Int).toNat * 3)).take 3 = di (a8 c) := rfl
set_option maxRecDepth 100000 in
theorem Ez {v : Value} {V : Ce → Int} {w : World} (hV : Tl v V w) (c : Ce) (hc : cY c) :
  Calls Tryz.prog nY #[v, iR c] w fun e w' => ∃ s : Sl, e = .returned s ∧ ag w.heap.size cV 4 w' s ((zx V c).map g8) ∧ Ext w w' := by
 apply tw.vc
 intro w0 e0
 have x0 : Ext w w0 := (Ext.ao _).aa e0
 have z0 := cL e0
 clear e0
 refine (jq c hc w0).mono ?_
 rintro e w1 ⟨rfl, x1⟩
 have z1 := x1.size
 have okl : lx (a8 c) := uQ hc (by simp [eK])
 refine ⟨_, _, _, _, _, _, _, _, _, _, _, _, _, _, _, _, _, _, rfl, x1.k, by decide, _, _, _, CK c, fun w23 e23 w24 e24 => ?_⟩
 have x24 : Ext w1 w24 := ((Ext.ao _).aa e23).af e24 (Nat.le_refl _)
 have z24 := rB e23 e24
 clear e23 e24
 have x024 := x0.tr (x1.tr x24)
 refine bg ((hV.ext x024).at okl) ?_
 rintro e w25 ⟨rfl, x25⟩
 have z25 := x25.size
 refine ⟨_, rfl, x25.k, x25.k, (Ck (V (a8 c)) w25).mono ?_⟩
 rintro e w27 ⟨rfl, rfl⟩
 unfold zx
 refine ⟨_, rfl, rfl, rfl, Br.mk (fun h => ?_) (fun h => fun w29 e29 => ?_)⟩
 ·rw [if_neg (by simpa using h)]
  exact ⟨⟨none, 0, 0⟩, rfl, ag.nil, x024.tr x25⟩
 ·rw [if_pos (by simpa using h)]
  have hr : Row w29 w27.heap.size (([(c, V (a8 c)), (a8 c, 3)] : List Go.ij.Cg).map g8).flatten cV := by rw [e29]; exact Row.new w27 [_, _, _, _, _, _, _, _] _
  exact ⟨⟨some ⟨w27.heap.size, 0, none⟩, 2, 2⟩, rfl, ag.fC (by omega) hr (Nat.le_refl _) (Nat.le_refl _) rfl (by intro r hr; simp at hr; rcases hr with rfl | rfl <;> rfl), (x024.tr x25).aa e29⟩
end Go.Proofs.YtalpkjfpmdpbiaaGreatDoor
