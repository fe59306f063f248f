import Derived.Test.YtalpkjfpmdpbiaaGreatDoorGF
import Derived.Test.YtalpkjfpmdpbiaaGreatDoorYA
import Derived.Test.YtalpkjfpmdpbiaaGreatDoorWA
set_option linter.all false
namespace Go.Proofs.YtalpkjfpmdpbiaaGreatDoor
open Go Go.Vc Go.RowKit Go.Proofs
set_option maxRecDepth 100000
set_option maxHeartbeats 8000000
variable {R:Ending->World->Prop}
set_option linter.unusedVariables false
abbrev oE:FuncId:=139
def mN.pre (a0 : Value) (a1_0 a1_1 a1_2 a2 : Int) (w : World) (R : Ending → World → Prop) : Prop :=
 ∀ w0 : World, w0 = w.alloc (.cells #[a1_0, a1_1, a1_2] 23) →
 Calls Tryz.prog 186 #[a0, .agg #[a1_0, a1_1, a1_2]] w0 (fun e w1 => ∃ (x2 : Int) (b3 : Bool), e = .returned (.tuple #[x2, .bool b3]) ∧ Kp w w0 w1 ∧
 ∃ J4 : World → Prop,
 (Br (decide (a2 > 0))
 (Br (!b3)
 (∀ w5 : World, w5 = w1.alloc (.cells #[a1_0, a1_1, a1_2, (0:Int)] 71) →
 R (.returned (.slice (some ⟨w1, 0, none⟩) 1 1)) w5)
 (Br (decide (a2 > 0))
 (Br (x2 != a2)
 (Calls Tryz.prog 187 #[x2] w1.drew (fun e w6 => ∃ (x7 : Int), e = .returned x7 ∧ Kp w w1.drew w6 ∧
 aj w6 (some ⟨w, 0, none⟩) 0 [a1_0, a1_1, a1_2] ∧ ∀ w8 : World, w8 = w6.alloc (.cells #[a1_0, a1_1, a1_2, x7] 71) →
 R (.returned (.slice (some ⟨w6, 0, none⟩) 1 1)) w8))
 (a6 [a1_0, a1_1, a1_2] ∧ J4  w1))
 (a6 [a1_0, a1_1, a1_2] ∧ J4  w1)))
 (Br (decide (a2 > 0))
 (Br (x2 != a2)
 (Calls Tryz.prog 187 #[x2] w1.drew (fun e w9 => ∃ (x10 : Int), e = .returned x10 ∧ Kp w w1.drew w9 ∧
 aj w9 (some ⟨w, 0, none⟩) 0 [a1_0, a1_1, a1_2] ∧ ∀ w11 : World, w11 = w9.alloc (.cells #[a1_0, a1_1, a1_2, x10] 71) →
 R (.returned (.slice (some ⟨w9, 0, none⟩) 1 1)) w11))
 (a6 [a1_0, a1_1, a1_2] ∧ J4  w1))
 (a6 [a1_0, a1_1, a1_2] ∧ J4  w1))) ∧
 ∀ us12 : Nat → Value, ∀ (w13 : World), J4 w13 →
 Calls Tryz.prog 93 #[.agg #[a1_0, a1_1, a1_2]] w13 (fun e w14 => ∃ (x15 x16 x17 x18 x19 x20 x21 x22 x23 x24 x25 x26 x27 x28 x29 x30 x31 x32 : Int), e = .returned (.agg #[x15, x16, x17, x18, x19, x20, x21, x22, x23, x24, x25, x26, x27, x28, x29, x30, x31, x32]) ∧ Kp w w13 w14 ∧
 ((0 : Int) ≤ 2 ∧ (2 : Int) < ((6 : Nat) : Int)) ∧ ∃ (x33 x34 x35 : Int), (([x15, x16, x17, x18, x19, x20, x21, x22, x23, x24, x25, x26, x27, x28, x29, x30, x31, x32] : List Value).drop ((2 : Int).toNat * 3)).take 3 = [.int .i64 x33, .int .i64 x34, .int .i64 x35] ∧
 ∀ w36 : World, w36 = w14.alloc (.cells #[(0:Int), (0:Int), (0:Int)] 23) →
 ∀ w37 : World, w37 = w36.setRow w14 #[x33, x34, x35] →
 ∃ J38 : World → Prop,
 (a8 Tryz.prog a0 [.agg #[x33, x34, x35]] w37 (fun e w39 => ∃ (x40 : Int), e = .returned x40 ∧ Kp w w37 w39 ∧ Kp w14 w37 w39 ∧
 Br (x40 == 0)
 (Calls Tryz.prog 187 #[(1:Int)] w39.drew (fun e w41 => ∃ (x42 : Int), e = .returned x42 ∧ Kp w w39.drew w41 ∧ Kp w14 w39.drew w41 ∧
 aj w41 (some ⟨w14, 0, none⟩) 0 [x33, x34, x35] ∧ ∀ w43 : World, w43 = w41.alloc (.cells #[x33, x34, x35, x42] 71) →
 R (.returned (.slice (some ⟨w41, 0, none⟩) 1 1)) w43))
 (Calls Tryz.prog 134 #[x40] w39 (fun e w44 => ∃ (b45 : Bool), e = .returned (.bool b45) ∧ Kp w w39 w44 ∧ Kp w14 w39 w44 ∧
 Br b45
 (R (.returned (.slice none 0 0)) w44)
 (Br (decide (a2 ≥ 7))
 (R (.returned (.slice none 0 0)) w44)
 (a6 [a1_0, a1_1, a1_2] ∧ a6 [x33, x34, x35] ∧ J38  w44)))))) ∧
 ∀ us46 : Nat → Value, ∀ (w47 : World), J38 w47 →
 Calls Tryz.prog 188 #[.agg #[a1_0, a1_1, a1_2]] w47 (fun e w48 => ∃ (s49 : Sl), e = .returned s49 ∧ Kp w w47 w48 ∧ Kp w14 w47 w48 ∧
 ∃ I50 : Nat → Int → Sl → World → Prop,
 (∃ n51, a6 [a1_0, a1_1, a1_2] ∧ a6 [x33, x34, x35] ∧ I50 n51 (0) ⟨none, 0, 0⟩ w48) ∧
 ∀ (n51 : Nat) (us52 : Nat → Value) (x53 : Int) (s54 : Sl) (w55 : World), I50 n51 x53 s54 w55 →
 Br (decide (x53 < ((s49.n : Nat) : Int)))
 (cn s49.a x53 s49.n ∧ ∃ (x57 x58 x59 : Int), aj w55 (ae s49.a ((x53 : Int).toNat * 3)) 0 [x57, x58, x59] ∧
 ∀ w60 : World, w60 = w55.alloc (.cells #[(0:Int), (0:Int), (0:Int)] 23) →
 ∀ w61 : World, w61 = w60.setRow w55 #[x57, x58, x59] →
 a8 Tryz.prog a0 [.agg #[x57, x58, x59]] w61 (fun e w62 => ∃ (x63 : Int), e = .returned x63 ∧ Kp w w61 w62 ∧ Kp w14 w61 w62 ∧ Kp w55 w61 w62 ∧
 Br (x63 == 0)
 (Calls Tryz.prog 187 #[(IntKind.wrap .i64 (a2 + 1))] w62.drew (fun e w64 => ∃ (x65 : Int), e = .returned x65 ∧ Kp w w62.drew w64 ∧ Kp w14 w62.drew w64 ∧ Kp w55 w62.drew w64 ∧
 aj w64 (some ⟨w55, 0, none⟩) 0 [x57, x58, x59] ∧ ∀ w66 : World, w66 = w64.alloc (.cells #[x57, x58, x59, x65] 71) →
 az 32 4 w66 s54 1 [x57, x58, x59, x65] ∧ ∀ (s67 : Sl) (w68 : World), av 71 4 w66 s54 1 [x57, x58, x59, x65] s67 w68 → Kp w w66 w68 ∧ Kp w14 w66 w68 ∧ Kp w55 w66 w68 ∧ Kp w64 w66 w68 ∧
 ∃ n56, n56 < n51 ∧ a6 [a1_0, a1_1, a1_2] ∧ a6 [x33, x34, x35] ∧ I50 n56 ((IntKind.wrap .i64 (x53 + 1))) s67 w68))
 (∃ n56, n56 < n51 ∧ a6 [a1_0, a1_1, a1_2] ∧ a6 [x33, x34, x35] ∧ I50 n56 ((IntKind.wrap .i64 (x53 + 1))) s54 w62)))
 (R (.returned s54) w55))))
theorem mN.vc {a0 a1_0 a1_1 a1_2 a2 w} (h : mN.pre a0 a1_0 a1_1 a1_2 a2 w R) : Calls Tryz.prog oE #[a0, .agg #[a1_0, a1_1, a1_2], a2] w R :=
 cq ⟨[(14, ⟨[(66, .int .i64), (11, .slice)], [], []⟩)], [(12, ⟨[], [], []⟩), (6, ⟨[], [], []⟩)], []⟩ Tryz.func139 h
end Go.Proofs.YtalpkjfpmdpbiaaGreatDoor
namespace Go.Proofs.YtalpkjfpmdpbiaaGreatDoor
open Go Go.Vc Go.RowKit Go.Proofs Go.bQ Go.aB Go.Code Go.mw
set_option maxRecDepth 100000
theorem G8 {E k m n c : Nat} {w w' : World} {a : Option Addr} {s' : Sl} {xs news : List Value} {rows : List (List Value)} (h : av E k w ⟨a, m, c⟩ n news s' w') (hc : c < m + n) (hx : xs.length = m * k) (hrd : Rd w a xs) (hrow : xs ++ news = rows.flatten) (hw : ∀ r ∈ rows, r.length = k) (hl : news.length = n * k) : af w.heap.size E k w' s' rows ∧ Ext w w' := by
 cases h with
 | fits hf => simp only at hf; omega
 | sD hg bZ rest cap e1 e2 e3 e4 =>
   have ho : bZ = xs := by
    apply List.ext_getElem?
    intro i
    rcases Nat.lt_or_ge i xs.length with hi | hi
    ·have h1 := hrd i xs[i] (List.getElem?_eq_getElem hi)
     have hi' : i < bZ.length := by simp only at e1; omega
     have h2 := e2 i bZ[i] (List.getElem?_eq_getElem hi')
     rw [h1] at h2
     rw [List.getElem?_eq_getElem hi, List.getElem?_eq_getElem hi']
     exact h2.symm
    ·rw [List.getElem?_eq_none hi, List.getElem?_eq_none (by simp only at e1; omega)]
   subst ho
   have hnew := Row.new w.drew (bZ ++ news ++ rest) E
   refine ⟨af.gP (Nat.le_refl _) hnew (Nat.le_of_eq e4.symm) e3 ?_ hw, (Ext.dr w).tr (Ext.al _ _)⟩
   rw [← hrow]
   have hlen : (bZ ++ news).length = (m + n) * k := by rw [List.length_append, hx, hl, Nat.add_mul]
   rw [List.take_append_of_le_length (by simp only; omega), List.take_of_length_le (by simp only; omega)]
theorem uj (b : Int) (w : World) : Calls Tryz.prog oH #[b] w fun e w' => e = .returned (.int .i64 (cu b)) ∧ w' = w := by
 apply nk.vc
 refine (kA b w).mono ?_
 rintro e w0 ⟨rfl, rfl⟩
 unfold cu
 refine ⟨_, rfl, Br.mk (fun h => ?_) (fun h => ?_)⟩
 ·have h : kZ b = false := by simpa using h
  rw [h, if_neg (by decide)]; exact ⟨rfl, rfl⟩
 ·have h : kZ b = true := by simpa using h
  rw [h, if_pos rfl]
  unfold kZ at h
  simp only [Bool.and_eq_true, decide_eq_true_eq] at h
  rw [wI]
  exact ⟨rfl, rfl⟩
theorem yS {c:Ce} (h:cW c) {n:Ce} (hn:n ∈ aW c):pW n/\n ∈ fL c:=by
 have:n ∈ fL c:=by
  unfold aW at hn
  unfold fL
  simp only [List.mem_cons,List.not_mem_nil,or_false]at hn ⊢
  rcases hn with h|h|h|h
  ·exact .inl h
  ·exact .inr (.inl h)
  ·exact .inr (.inr (.inr (.inr (.inl h))))
  ·exact .inr (.inr (.inr (.inr (.inr h))))
 exact ⟨ui h this,this⟩
theorem Cr {w : World} {g : Nat} {cs : List Value} {τ : TypeId} (hr : Row w g cs τ) (o : Nat) {xs : List Value} (h : ∀ i, i < xs.length → cs[o + i]? = xs[i]?) : Rd w (some ⟨g, o, none⟩) xs := fun i v hv => by
 rw [aP, hr.ld]
 have hi := (List.getElem?_eq_some_iff.1 hv).1
 rw [h i hi]; exact hv
theorem qg (c : Ce) (hc : cW c) (w : World) : Calls Tryz.prog j4 #[mq c] w fun e w' => ∃ s : Sl, e = .returned s ∧ af w.heap.size mK 3 w' s ((aW c).map dp) ∧ Ext w w' := by
 apply mT.vc
 intro w0 e0
 have x0 : Ext w w0 := (Ext.aq _).ab e0
 have z0 := dR e0
 clear e0
 refine (iJ c hc w0).mono ?_
 rintro e w1 ⟨rfl, x1⟩
 have z1 := x1.size
 refine ⟨_, _, _, _, _, _, _, _, _, _, _, _, _, _, _, _, _, _, rfl, x1.k, fun w20 e20 => ?_⟩
 have x20 : Ext w1 w20 := (Ext.aq _).ab e20
 have hr : Row w20 w1.heap.size [(0:Int), (0:Int), (0:Int), (0:Int), (0:Int), (0:Int), (0:Int), (0:Int), (0:Int), (0:Int), (0:Int), (0:Int), (0:Int), (0:Int), (0:Int), (0:Int), (0:Int), (0:Int)] 161 := by rw [e20]; exact Row.new w1 [_, _, _, _, _, _, _, _, _, _, _, _, _, _, _, _, _, _] _
 clear e20
 refine ⟨⟨rfl, hr.wr (by simp)⟩, fun e => by
  have : w1.heap.size = w.heap.size := by simpa [bD] using e
  omega, fun w21 e21 => ?_⟩
 have e21 : w21 = aA w20 (some ⟨w1.heap.size, 0, none⟩) (Bv c) := e21
 rw [hr.aA (vs := Bv c) (by simp) (Bw c), lW (by simp)] at e21
 have hr2 : Row w21 w1.heap.size (Bv c) 161 := by rw [e21]; exact hr.set _
 have x21 : Ext w w21 := (x0.tr (x1.tr x20)).ah e21 (by omega)
 clear e21
 have xd := Ext.dr w21
 have hr3 := hr2.ext xd
 have x21d := x21.tr xd
 have zz : w1.heap.size < w21.drew.heap.size := hr3.lt
 have hlen : (dp ((c.1, c.2.1, c.2.2 - 1) : Ce) ++ dp (c.1, c.2.1, c.2.2 + 1)).length = 6 := rfl
 have h1 : One (dp ((c.1, c.2.1, c.2.2 - 1) : Ce) ++ dp (c.1, c.2.1, c.2.2 + 1)) := by
  intro v hv
  rcases List.mem_append.1 hv with hv | hv
  ·exact vw _ v hv
  ·exact vw _ v hv
 have HJ : Rd w21.drew (some ⟨w1.heap.size, 0, none⟩) (dp ((c.1 - 1, c.2.1, c.2.2) : Ce) ++ dp (c.1 + 1, c.2.1, c.2.2)) := Cr hr3 0 (fun i hi => by
  have hi : i < 6 := hi
  have : i = 0 ∨ i = 1 ∨ i = 2 ∨ i = 3 ∨ i = 4 ∨ i = 5 := by omega
  rcases this with rfl | rfl | rfl | rfl | rfl | rfl <;> rfl)
 refine ⟨by decide, by decide, by decide, by decide, by decide, by decide, dp ((c.1, c.2.1, c.2.2 - 1) : Ce) ++ dp (c.1, c.2.1, c.2.2 + 1), Cr (o := 12) hr3 (fun i hi => by
  have hi : i < 6 := hi
  have : i = 0 ∨ i = 1 ∨ i = 2 ∨ i = 3 ∨ i = 4 ∨ i = 5 := by omega
  rcases this with rfl | rfl | rfl | rfl | rfl | rfl <;> rfl), ⟨fun hf => absurd hf (show ¬ (2 + 2 ≤ 2) by decide), fun _ => ⟨_, rfl, HJ⟩, fun hg => ⟨growslice_fits hg (show (2 + 2) * 24 ≤ 140737488355328 by decide), show ((2 + 2 : Nat) : Int) ≤ 9223372036854775807 by decide⟩, rfl, h1⟩, fun s23 w24 hres => ?_⟩
 obtain ⟨ho, x24⟩ := G8 (rows := (aW c).map dp) (xs := dp ((c.1 - 1, c.2.1, c.2.2) : Ce) ++ dp (c.1 + 1, c.2.1, c.2.2)) hres (show 2 < 2 + 2 by decide) rfl HJ rfl (by intro r hr; obtain ⟨y, -, rfl⟩ := List.mem_map.1 hr; rfl) rfl
 exact ⟨x24.k, s23, rfl, ho.low (by omega), x21d.tr x24⟩
theorem uh (V : Ce → Int) : ∀ (l : List Ce) (m : Int), 0 ≤ m ∧ m ≤ 7 → 0 ≤ l.foldl (fun m n => if 0 ≤ cu (V n) then min m (cu (V n)) else m) m ∧ l.foldl (fun m n => if 0 ≤ cu (V n) then min m (cu (V n)) else m) m ≤ 7
 | [], m, h => h
 | n :: l, m, h => by
   rw [List.foldl_cons]
   refine uh V l _ ?_
   split <;> omega
theorem DN (c:Ce):((Bv c).drop ((3:Int).toNat*3)).take 3=dp (ma c):=rfl
theorem AH {v : Value} {V : Ce → Int} {w : World} (hV : Tl v V w) (c : Ce) (hc : cW c) :
  Calls Tryz.prog qn #[v, mq c] w fun e w' => e = .returned (.tuple #[.int .i64 (cN V c).1, .bool (cN V c).2]) ∧ Ext w w' := by
 apply ph.vc
 intro w0 e0
 have x0 : Ext w w0 := (Ext.aq _).ab e0
 have z0 := dR e0
 clear e0
 refine (iJ c hc w0).mono ?_
 rintro e w1 ⟨rfl, x1⟩
 have z1 := x1.size
 have oko : pW (ma c) := ui hc (by simp [fL])
 refine ⟨_, _, _, _, _, _, _, _, _, _, _, _, _, _, _, _, _, _, rfl, x1.k, by decide, _, _, _, DN c, aQ ((hV.ext (x0.tr x1)).at oko) ?_⟩
 rintro e w23 ⟨rfl, x23⟩
 have z23 := x23.size
 have x023 := x0.tr (x1.tr x23)
 refine ⟨_, rfl, x23.k, (kA (V (ma c)) w23).mono ?_⟩
 rintro e w25 ⟨rfl, rfl⟩
 unfold cN
 refine ⟨_, rfl, rfl, Br.mk (fun h => ?_) (fun h => (qg c hc w25).mono ?_)⟩
 ·rw [if_pos h]; exact ⟨rfl, x023⟩
 rintro e w27 ⟨s28, rfl, ho, x27⟩
 have z27 := x27.size
 rw [if_neg (by rw [h]; decide)]
 have hrd := ho.rd (show 0 < 3 by decide)
 have hn : s28.n = 4 := hrd.n
 refine ⟨s28, rfl, x27.k, fun n x m wr => ∃ j : Nat, x = j ∧ j + n = 4 ∧ m = ((aW c).take j).foldl (fun m n => if 0 ≤ cu (V n) then min m (cu (V n)) else m) 7 ∧ Ext w27 wr, ⟨4, rfl, 0, rfl, rfl, rfl, Ext.aq _⟩, ?_⟩
 rintro n us x m wr ⟨j, rfl, hj, rfl, xr⟩
 have zr := xr.size
 have xr0 := x023.tr (x27.tr xr)
 refine Br.mk (fun hb => ?_) (fun hb => ?_)
 ·replace hb := eN hb
  obtain ⟨y, hy⟩ := aN (l := aW c) (i := j) (by have : (aW c).length = 4 := rfl; omega)
  have oky := (yS hc (List.mem_of_getElem? hy)).1
  have hy' : ((aW c).map dp)[j]? = some (dp y) := by rw [List.getElem?_map, hy]; rfl
  have htk : (aW c).take (j + 1) = (aW c).take j ++ [y] := by rw [List.take_add_one, hy]; rfl
  have wk : IntKind.wrap .i64 ((j : Int) + 1) = ((j + 1 : Nat) : Int) := by rw [wI]; omega
  refine ⟨hrd.eV (i := (j : Int)) (by decide) (by omega) hb, _, _, _, (hrd.ext xr).aX hy', fun w39 e39 w40 e40 => ?_⟩
  have x40 : Ext wr w40 := ((Ext.aq _).ab e39).ah e40 (Nat.le_refl _)
  have z40 := yA e39 e40
  clear e39 e40
  refine aQ ((hV.ext (xr0.tr x40)).at oky) ?_
  rintro e w41 ⟨rfl, x41⟩
  have z41 := x41.size
  refine ⟨_, rfl, x41.k, x41.k, (uj (V y) w41).mono ?_⟩
  rintro e w43 ⟨rfl, rfl⟩
  refine ⟨_, rfl, rfl, rfl, Br.mk (fun h2 => ?_) (fun h2 => ?_)⟩
  ·have h2 : 0 ≤ cu (V y) := by simpa using h2
   refine ⟨n - 1, by omega, rfl, j + 1, wk, by omega, ?_, xr.tr (x40.tr x41)⟩
   rw [htk, List.foldl_append, List.foldl_cons, List.foldl_nil, if_pos h2]
   split <;> omega
  ·have h2 : ¬ 0 ≤ cu (V y) := by simpa using h2
   refine ⟨n - 1, by omega, rfl, j + 1, wk, by omega, ?_, xr.tr (x40.tr x41)⟩
   rw [htk, List.foldl_append, List.foldl_cons, List.foldl_nil, if_neg h2]
 ·replace hb := eO hb
  have ht : (aW c).take j = aW c := List.take_of_length_le (by have : (aW c).length = 4 := rfl; omega)
  rw [ht]
  have hle : (aW c).foldl (fun m n => if 0 ≤ cu (V n) then min m (cu (V n)) else m) 7 = xK V (aW c) := rfl
  have hin := uh V (aW c) 7 (by decide)
  rw [hle] at hin ⊢
  refine Br.mk (fun h2 => ?_) (fun h2 => ?_)
  ·rw [if_pos (by simpa using h2)]; exact ⟨rfl, xr0⟩
  ·rw [if_neg (by simpa using h2), wI]; exact ⟨rfl, xr0⟩
end Go.Proofs.YtalpkjfpmdpbiaaGreatDoor
namespace Go.Proofs.YtalpkjfpmdpbiaaGreatDoor
open Go Go.Vc Go.RowKit Go.Proofs Go.bQ Go.aB Go.Code Go.mw
set_option maxRecDepth 100000
theorem Gd (x:Go.mw.Cg):One (gC x):=by
 intro v hv;simp at hv;rcases hv with rfl|rfl|rfl|rfl<;>rfl
theorem xJ {w : World} {g : Nat} {B : Nat} (x : Go.mw.Cg) (hr : Row w g (gC x) gz) (hB : B ≤ g) : af B gz 4 w ⟨some ⟨g, 0, none⟩, 1, 1⟩ ([x].map gC) := af.gP hB hr (by simp) (Nat.le_refl _) rfl (by simp)
theorem AG {v : Value} {V : Ce → Int} {w : World} (hV : Tl v V w) (c : Ce) (hc : cW c) (level : Int) (hl : 0 ≤ level ∧ level ≤ 7) :
  Calls Tryz.prog oE #[v, mq c, level] w fun e w' => ∃ s : Sl, e = .returned s ∧ af w.heap.size gz 4 w' s ((fJ V c level).map gC) ∧ Ext w w' := by
 apply mN.vc
 intro w0 e0
 have x0 : Ext w w0 := (Ext.aq _).ab e0
 have z0 := dR e0
 have r0 : Row w0 w.heap.size (dp c) mK := by rw [e0]; exact Row.new w [_, _, _] _
 clear e0
 refine (AH (hV.ext x0) c hc).mono ?_
 rintro e w1 ⟨rfl, x1⟩
 have z1 := x1.size
 have x01 := x0.tr x1
 have hfin : inI (cN V c).1 := by
  have := uh V (aW c) 7 (by decide)
  have hle : (aW c).foldl (fun m n => if 0 ≤ cu (V n) then min m (cu (V n)) else m) 7 = xK V (aW c) := rfl
  rw [hle] at this
  unfold cN inI
  split
  ·simp
  ·split
   ·simp
   ·simp only; omega
 have caseA : 0 < level → (cN V c).2 = false → fJ V c level = [(c, 0)] := fun h1 h2 => by unfold fJ; rw [if_pos ⟨h1, h2⟩]
 have caseB : 0 < level → ¬ (cN V c).2 = false → (cN V c).1 ≠ level → fJ V c level = [(c, eD (cN V c).1)] := fun h1 h2 h3 => by
  unfold fJ; rw [if_neg (fun q => h2 q.2), if_pos ⟨h1, h3⟩]
 have armB : 0 < level → ¬ (cN V c).2 = false → (cN V c).1 ≠ level → Calls Tryz.prog 187 #[.int .i64 (cN V c).1] w1.drew (fun e w6 => ∃ (x7 : Int), e = .returned x7 ∧ w6.heap[w.heap.size]? = w1.drew.heap[w.heap.size]? ∧
   aj w6 (some ⟨w.heap.size, 0, none⟩) 0 [c.1, c.2.1, c.2.2] ∧ ∀ w8 : World, w8 = w6.alloc (.cells #[c.1, c.2.1, c.2.2, x7] gz) →
   (fun e w' => ∃ s : Sl, e = Ending.returned s ∧ af w.heap.size gz 4 w' s ((fJ V c level).map gC) ∧ Ext w w') (.returned (.slice (some ⟨w6.heap.size, 0, none⟩) 1 1)) w8) := by
  intro h1 h2 h3
  refine (fK (cN V c).1 w1.drew hfin).mono ?_
  rintro e w6 ⟨rfl, rfl⟩
  refine ⟨_, rfl, rfl, Lo.wv (r0.ext (x1.tr (Ext.dr w1))), fun w8 e8 => ?_⟩
  have hr : Row w8 w1.drew.heap.size (gC (c, eD (cN V c).1)) gz := by rw [e8]; exact Row.new w1.drew [_, _, _, _] _
  have zd : w1.drew.heap.size = w1.heap.size := rfl
  refine ⟨⟨some ⟨w1.drew.heap.size, 0, none⟩, 1, 1⟩, rfl, ?_, (x01.tr (Ext.dr w1)).ab e8⟩
  rw [caseB h1 h2 h3]
  exact xJ _ hr (by omega)
 refine ⟨_, _, rfl, x1.k, fun wj => wj = w1 ∧ fJ V c level = (if V (aS c) = 0 then [(aS c, eD 1)] else if kZ (V (aS c)) = true ∨ 7 ≤ level then [] else ((aW c).filter fun n => decide (V n = 0)).map fun n => (n, eD (level + 1))), ?_, ?_⟩
 ·have fine : (¬ 0 < level ∨ (¬ (cN V c).2 = false ∧ (cN V c).1 = level)) → fJ V c level = (if V (aS c) = 0 then [(aS c, eD 1)] else if kZ (V (aS c)) = true ∨ 7 ≤ level then [] else ((aW c).filter fun n => decide (V n = 0)).map fun n => (n, eD (level + 1))) := fun h => by
   unfold fJ
   rw [if_neg (fun q => h.elim (fun h => h q.1) fun h => h.1 q.2), if_neg (fun q => h.elim (fun h => h q.1) fun h => q.2 h.2)]
  refine Br.mk (fun h1 => Br.mk (fun h2 => fun w5 e5 => ?_) (fun h2 => Br.mk (fun _ => Br.mk (fun h3 => ?_) (fun h3 => ⟨rfl, rfl, ?_⟩)) (fun h3 => ?_))) (fun h1 => Br.mk (fun h3 => ?_) (fun h3 => ⟨rfl, rfl, ?_⟩))
  ·have h1 : 0 < level := by simpa using h1
   have hr : Row w5 w1.heap.size (gC (c, 0)) gz := by rw [e5]; exact Row.new w1 [_, _, _, _] _
   refine ⟨⟨some ⟨w1.heap.size, 0, none⟩, 1, 1⟩, rfl, ?_, x01.ab e5⟩
   rw [caseA h1 (by simpa using h2)]
   exact xJ _ hr (by omega)
  ·exact armB (by simpa using h1) (by simpa using h2) (by simpa using h3)
  ·exact fine (.inr ⟨by simpa using h2, by simpa using h3⟩)
  ·rw [h1] at h3; cases h3
  ·rw [h1] at h3; cases h3
  ·exact fine (.inl (by simpa using h1))
 rintro us w13 ⟨rfl, hW⟩
 rw [hW]
 refine (iJ c hc w13).mono ?_
 rintro e w14 ⟨rfl, x14⟩
 have z14 := x14.size
 have okl : pW (aS c) := ui hc (by simp [fL])
 refine ⟨_, _, _, _, _, _, _, _, _, _, _, _, _, _, _, _, _, _, rfl, x14.k, by decide, _, _, _, AI c, fun w36 e36 w37 e37 => ?_⟩
 have x37 : Ext w14 w37 := ((Ext.aq _).ab e36).ah e37 (Nat.le_refl _)
 have z37 := yA e36 e37
 have rl : Row w37 w14.heap.size (dp (aS c)) mK := by rw [e37]; exact Row.set (by rw [e36]; exact Row.new w14 [_, _, _] _) _
 clear e36 e37
 have x037 := x01.tr (x14.tr x37)
 refine ⟨fun wj => Ext w37 wj ∧ ¬ V (aS c) = 0 ∧ ¬ (kZ (V (aS c)) = true ∨ 7 ≤ level), aQ ((hV.ext x037).at okl) ?_, ?_⟩
 ·rintro e w39 ⟨rfl, x39⟩
  have z39 := x39.size
  refine ⟨_, rfl, x39.k, x39.k, Br.mk (fun h => (fK 1 w39.drew (by unfold inI; omega)).mono ?_) (fun h => (kA (V (aS c)) w39).mono ?_)⟩
  ·rintro e w41 ⟨rfl, rfl⟩
   have h : V (aS c) = 0 := by simpa using h
   refine ⟨_, rfl, rfl, rfl, Lo.wv (rl.ext (x39.tr (Ext.dr w39))), fun w43 e43 => ?_⟩
   have hr : Row w43 w39.drew.heap.size (gC (aS c, eD 1)) gz := by rw [e43]; exact Row.new w39.drew [_, _, _, _] _
   have zd : w39.drew.heap.size = w39.heap.size := rfl
   refine ⟨⟨some ⟨w39.drew.heap.size, 0, none⟩, 1, 1⟩, rfl, ?_, (x037.tr (x39.tr (Ext.dr w39))).ab e43⟩
   rw [if_pos h]
   exact xJ _ hr (by omega)
  ·rintro e w44 ⟨rfl, rfl⟩
   have h : ¬ V (aS c) = 0 := by simpa using h
   rw [if_neg h]
   refine ⟨_, rfl, rfl, rfl, Br.mk (fun h2 => ?_) (fun h2 => Br.mk (fun h3 => ?_) (fun h3 => ⟨rfl, rfl, x39, h, ?_⟩))⟩
   ·rw [if_pos (.inl h2)]
    exact ⟨⟨none, 0, 0⟩, rfl, af.nil, x037.tr x39⟩
   ·rw [if_pos (.inr (by simpa using h3))]
    exact ⟨⟨none, 0, 0⟩, rfl, af.nil, x037.tr x39⟩
   ·rintro (q | q)
    ·rw [q] at h2; cases h2
    ·simp at h3; omega
 rintro us w47 ⟨x47, h1, h2⟩
 have z47 := x47.size
 rw [if_neg h1, if_neg h2]
 have x047 := x037.tr x47
 refine (qg c hc w47).mono ?_
 rintro e w48 ⟨s49, rfl, ho49, x48⟩
 have z48 := x48.size
 have x048 := x047.tr x48
 have hrd := ho49.rd (show 0 < 3 by decide)
 have hn49 : s49.n = 4 := hrd.n
 refine ⟨s49, rfl, x48.k, x48.k, fun n x s54 wr => ∃ j : Nat, x = j ∧ j + n = 4 ∧ af w48.heap.size gz 4 wr s54 (((((aW c).take j).filter fun n => decide (V n = 0)).map fun n => ((n, eD (level + 1)) : Go.mw.Cg)).map gC) ∧ Ext w48 wr, ⟨4, rfl, rfl, 0, rfl, rfl, af.nil, Ext.aq _⟩, ?_⟩
 rintro n us x s54 wr ⟨j, rfl, hj, ho, xr⟩
 have zr := xr.size
 have xr0 := x048.tr xr
 refine Br.mk (fun hb => ?_) (fun hb => ?_)
 ·replace hb := eN hb
  obtain ⟨y, hy⟩ := aN (l := aW c) (i := j) (by have : (aW c).length = 4 := rfl; omega)
  have oky := (yS hc (List.mem_of_getElem? hy)).1
  have hy' : ((aW c).map dp)[j]? = some (dp y) := by rw [List.getElem?_map, hy]; rfl
  have htk : (aW c).take (j + 1) = (aW c).take j ++ [y] := by rw [List.take_add_one, hy]; rfl
  have wk : IntKind.wrap .i64 ((j : Int) + 1) = ((j + 1 : Nat) : Int) := by rw [wI]; omega
  refine ⟨hrd.eV (i := (j : Int)) (by decide) (by omega) hb, _, _, _, (hrd.ext xr).aX hy', fun w60 e60 w61 e61 => ?_⟩
  have x61 : Ext wr w61 := ((Ext.aq _).ab e60).ah e61 (Nat.le_refl _)
  have z61 := yA e60 e61
  have ry : Row w61 wr.heap.size (dp y) mK := by rw [e61]; exact Row.set (by rw [e60]; exact Row.new wr [_, _, _] _) _
  clear e60 e61
  refine aQ ((hV.ext (xr0.tr x61)).at oky) ?_
  rintro e w62 ⟨rfl, x62⟩
  have z62 := x62.size
  refine ⟨_, rfl, x62.k, x62.k, x62.k, Br.mk (fun h3 => ?_) (fun h3 => ?_)⟩
  ·have wl : IntKind.wrap .i64 (level + 1) = level + 1 := wI
   rw [wl]
   refine (fK (level + 1) w62.drew (by unfold inI; omega)).mono ?_
   rintro e w64 ⟨rfl, rfl⟩
   have xd := x61.tr (x62.tr (Ext.dr w62))
   have zd : w62.drew.heap.size = w62.heap.size := rfl
   refine ⟨_, rfl, rfl, rfl, rfl, Lo.wv (ry.ext (x62.tr (Ext.dr w62))), fun w66 e66 => ?_⟩
   subst e66
   have ho' := ho.ext xd
   have hn54 : s54.n ≤ 4 := by
    have h1 := (ho.rd (show 0 < 4 by decide)).n
    have h2 := List.length_filter_le (fun n => decide (V n = 0)) ((aW c).take j)
    rw [List.length_map, List.length_map] at h1
    rw [List.length_take] at h2
    omega
   obtain ⟨hp8, hres8⟩ := ho'.mB (bytes := 32) (news := gC (y, eD (level + 1))) (.cells #[y.1, y.2.1, y.2.2, .int .i64 (eD (level + 1))] gz) (by omega) rfl (Gd _) (by omega) (by omega)
   refine ⟨hp8, fun s67 w68 hr68 => ?_⟩
   obtain ⟨f8, ho8, hn8, x8, hk8, -⟩ := hres8 s67 w68 hr68
   have xa := Ext.al w62.drew (.cells #[y.1, y.2.1, y.2.2, .int .i64 (eD (level + 1))] gz)
   have hb30 : ∀ b, s54.ax = some b → w48.heap.size ≤ b ∧ b < wr.heap.size := fun b hb => ho.own.lt hb
   have kp : ∀ j, (j < w48.heap.size ∨ wr.heap.size ≤ j) → j < w62.drew.heap.size → w68.heap[j]? = (w62.drew.alloc (.cells #[y.1, y.2.1, y.2.2, .int .i64 (eD (level + 1))] gz)).heap[j]? := fun j hj hj2 => by
    rw [hk8 j (fun hb => by have := hb30 j hb; omega) hj2, xa.heap hj2]
   refine ⟨kp _ (.inl (by omega)) (by omega), kp _ (.inl (by omega)) (by omega), kp _ (.inr (by omega)) (by omega), f8, n - 1, by omega, rfl, rfl, j + 1, wk, by omega, ?_, (Below.trans (xr.tr xd) x8 : Below w48.heap.size w48 w68)⟩
   rw [htk, List.filter_append, List.map_append, List.map_append, List.filter_cons_of_pos (by simpa using h3)]
   exact ho8
  ·refine ⟨n - 1, by omega, rfl, rfl, j + 1, wk, by omega, ?_, xr.tr (x61.tr x62)⟩
   rw [htk, List.filter_append, List.map_append, List.map_append, List.filter_cons_of_neg (by simpa using h3)]
   simpa using ho.ext (x61.tr x62)
 ·replace hb := eO hb
  have ht : (aW c).take j = aW c := List.take_of_length_le (by have : (aW c).length = 4 := rfl; omega)
  rw [ht] at ho
  exact ⟨s54, rfl, ho.low (by omega), xr0⟩
theorem Eh {b:Int} (h:kZ b=true):0<=cu b/\cu b<=7:=by
 unfold cu
 rw [h,if_pos rfl]
 unfold kZ at h
 simp only [Bool.and_eq_true,decide_eq_true_eq]at h
 omega
theorem AJ {v : Value} {V : Ce → Int} {w : World} (hV : Tl v V w) (c : Ce) (hc : cW c) :
  Calls Tryz.prog mO #[v, mq c] w fun e w' => ∃ s : Sl, e = .returned s ∧ af w.heap.size gz 4 w' s ((de V c).map gC) ∧ Ext w w' := by
 apply rf.vc
 intro w0 e0
 have x0 : Ext w w0 := (Ext.aq _).ab e0
 have z0 := dR e0
 have r0 : Row w0 w.heap.size (dp c) mK := by rw [e0]; exact Row.new w [_, _, _] _
 clear e0
 refine aQ ((hV.ext x0).at hc.ok) ?_
 rintro e w1 ⟨rfl, x1⟩
 have z1 := x1.size
 have x01 := x0.tr x1
 refine ⟨_, rfl, x1.k, (oZ (V c) w1).mono ?_⟩
 rintro e w3 ⟨rfl, rfl⟩
 unfold de
 refine ⟨_, rfl, rfl, Br.mk (fun h => ?_) (fun h => (kA (V c) w3).mono ?_)⟩
 ·rw [if_pos (by simpa using h)]
  refine (CA (hV.ext x01) c hc).mono ?_
  rintro e w5 ⟨s, rfl, ho, x5⟩
  exact ⟨s, rfl, x5.k, s, rfl, ho.low (by omega), x01.tr x5⟩
 ·rintro e w7 ⟨rfl, rfl⟩
  rw [if_neg (by simpa using h)]
  refine ⟨_, rfl, rfl, Br.mk (fun h2 => (uj (V c) w7.drew).mono ?_) (fun h2 => ?_)⟩
  ·rintro e w9 ⟨rfl, rfl⟩
   rw [h2, if_pos rfl]
   have xd := x01.tr (Ext.dr w7)
   have zd : w7.drew.heap.size = w7.heap.size := rfl
   refine ⟨_, rfl, rfl, Lo.wv (r0.ext (x1.tr (Ext.dr w7))), (AG (hV.ext xd) c hc (cu (V c)) (Eh h2)).mono ?_⟩
   rintro e w11 ⟨s, rfl, ho, x11⟩
   exact ⟨s, rfl, x11.k, s, rfl, ho.low (by omega), xd.tr x11⟩
  ·rw [h2, if_neg (by decide)]
   exact ⟨⟨none, 0, 0⟩, rfl, af.nil, x01⟩
end Go.Proofs.YtalpkjfpmdpbiaaGreatDoor
