import Derived.Test.YtalpkjfpmdpbiaaGreatDoorR
import Derived.Test.YtalpkjfpmdpbiaaGreatDoorP
import Derived.Test.YtalpkjfpmdpbiaaGreatDoorQ
set_option linter.all false
namespace Go.Proofs.YtalpkjfpmdpbiaaGreatDoor
open Go Go.Vc Go.RowKit Go.Proofs Go.bQ
abbrev pv (p:Po):Value:=.agg #[p.1,p.2]
abbrev mq (c:Ce):Value:=.agg #[c.1,c.2.1,c.2.2]
abbrev mK:TypeId:=23
abbrev DR:TypeId:=89
theorem nZ (a b : Int) (ha : inI a) (hb : 0 < b) (w : World) : Calls Tryz.prog fH #[a, b] w fun e w' => e = .returned (.int .i64 (a / b)) ∧ w' = w := by
 apply uf.vc
 obtain ⟨h1, h2, h3, h4⟩ := IH (a := a) hb
 have hq := BL ha hb
 have ht := BM ha hb
 refine Br.mk (fun h => ?_) (fun _ => aK.2 ⟨nV.2 (by omega), aK.2 ⟨nV.2 (by omega), Br.mk (fun h => ?_) (fun h => ?_)⟩⟩)
 ·simp only [decide_eq_true_eq] at h; omega
 ·replace h := eN h
  rw [ag ht, ← (h1 h).1, ag hq]; exact ⟨rfl, rfl⟩
 ·replace h := eO h
  rw [ag ht, ← (h2 (by omega)).1]; exact ⟨rfl, rfl⟩
theorem oa (a b : Int) (hb : 0 < b) (hb' : b ≤ 1000000) (w : World) : Calls Tryz.prog fI #[a, b] w fun e w' => e = .returned (.int .i64 (a % b)) ∧ w' = w := by
 apply ug.vc
 obtain ⟨h1, h2, h3, h4⟩ := IH (a := a) hb
 refine Br.mk (fun h => ?_) (fun _ => aK.2 ⟨nV.2 (by omega), Br.mk (fun h => ?_) (fun h => ?_)⟩)
 ·simp only [decide_eq_true_eq] at h; omega
 ·replace h := eN h
  rw [wI, ← (h1 h).2]; exact ⟨rfl, rfl⟩
 ·replace h := eO h
  rw [← (h2 (by omega)).2]; exact ⟨rfl, rfl⟩
theorem kz (a b : Int) (hb : 0 < b) (hb' : b ≤ 1000000) (w : World) : Calls Tryz.prog jC #[a, b] w fun e w' => e = .returned (.int .i64 (a % b)) ∧ w' = w := by
 apply q9.vc
 obtain ⟨h1, h2, h3, h4⟩ := IH (a := a) hb
 refine Br.mk (fun h => ?_) (fun _ => aK.2 ⟨nV.2 (by omega), Br.mk (fun h => ?_) (fun h => ?_)⟩)
 ·simp only [decide_eq_true_eq] at h; omega
 ·replace h := eN h
  rw [wI, ← (h1 h).2]; exact ⟨rfl, rfl⟩
 ·replace h := eO h
  rw [← (h2 (by omega)).2]; exact ⟨rfl, rfl⟩
theorem AD (a b : Int) (ha : inI a) (hb : 0 < b) (w : World) : Calls Tryz.prog mL #[a, b] w fun e w' => e = .returned (.int .i64 (a / b)) ∧ w' = w := by
 apply oc.vc
 obtain ⟨h1, h2, h3, h4⟩ := IH (a := a) hb
 have hq := BL ha hb
 have ht := BM ha hb
 have hm : b * a.tdiv b + a.tmod b = a := Int.mul_tdiv_add_tmod a b
 have hsg : (0 ≤ a → 0 ≤ a.tmod b) ∧ (a ≤ 0 → a.tmod b ≤ 0) := by
  refine ⟨fun h => Int.tmod_nonneg b h, fun h => ?_⟩
  have := Int.tmod_nonneg (a := -a) b (by omega)
  rw [Int.neg_tmod] at this; omega
 have hmul : a.tdiv b * b = a - a.tmod b := by rw [Int.mul_comm]; omega
 have hin : inI (a.tdiv b * b) := by
  rw [hmul]
  unfold inI at *
  rcases Int.lt_or_le a 0 with h | h
  ·have := hsg.2 (by omega)
   have := (IH (a := a) hb)
   have hle : a - a.tmod b ≤ 0 := by
    rcases Int.lt_or_le 0 (a - a.tmod b) with h5 | h5
    ·exfalso
     rw [← hmul] at h5
     have h6 : a.tdiv b ≤ 0 := by
      have := Int.tdiv_nonneg (a := -a) (b := b) (by omega) (by omega)
      rw [Int.neg_tdiv] at this; omega
     have := Int.mul_nonpos_of_nonpos_of_nonneg h6 (by omega : 0 ≤ b)
     omega
    ·exact h5
   omega
  ·have := hsg.1 h
   have h6 : 0 ≤ a.tdiv b := Int.tdiv_nonneg h (by omega)
   have := Int.mul_nonneg h6 (by omega : 0 ≤ b)
   omega
 rw [oc.pre, ag ht, ag hin]
 refine aK.2 ⟨nV.2 (by omega), Br.mk (fun h => ?_) (fun h => ?_)⟩
 ·simp only [decide_eq_true_eq, gt_iff_lt] at h
  rw [← (h1 (by omega)).1, ag hq]; exact ⟨rfl, rfl⟩
 ·simp only [decide_eq_false_iff_not, gt_iff_lt] at h
  rw [← (h2 (by omega)).1]; exact ⟨rfl, rfl⟩
theorem wA (a b : Int) (ha : inI a) (hb : 0 < b) (w : World) : Calls Tryz.prog bS #[a, b] w fun e w' => e = .returned (.int .i64 (a / b)) ∧ w' = w := by
 apply ra.vc
 refine Br.mk (fun h => ?_) (fun _ => (AD a b ha hb w).mono ?_)
 ·simp only [decide_eq_true_eq] at h; omega
 ·rintro e w0 ⟨rfl, rfl⟩
  exact ⟨_, rfl, rfl, rfl⟩
def pW (c:Ce):Prop:=inI c.1/\inI c.2.1/\inI c.2.2
theorem sM (c : Ce) (w : World) : Calls Tryz.prog iu #[mq c] w fun e w' => (∃ i b, e = .returned (.tuple #[.int .i64 i, .bool b]) ∧ ((b = true ∧ fx c ∧ i = idx c) ∨ (b = false ∧ ¬ fx c ∧ i = 0))) ∧ Ext w w' := by
 apply oW.vc
 intro w0 e0
 have x0 : Ext w w0 := (Ext.aq w).ab e0
 have hb : Row w0 w.heap.size [c.1, c.2.1, c.2.2] mK := by rw [e0]; exact Row.new w [_, _, _] _
 have hbd := hb.ext (Ext.dr w0)
 refine Br.mk (fun h => ?_) (fun h => Br.mk (fun h2 => ?_) (fun h2 => ?_)) <;> simp only [decide_eq_true_eq, decide_eq_false_iff_not] at *
 ·exact ⟨⟨_, _, rfl, .inr ⟨rfl, by unfold fx; omega, rfl⟩⟩, x0⟩
 ·exact ⟨⟨_, _, rfl, .inr ⟨rfl, by unfold fx; omega, rfl⟩⟩, x0⟩
 ·refine (oa c.2.2 16 (by decide) (by decide) w0.drew).mono ?_
  rintro e w1 ⟨rfl, rfl⟩
  refine ⟨_, rfl, rfl, hbd.aX (fun j hj => by simp at hj; subst hj; rfl), hbd.aX (fun j hj => by simp at hj; subst hj; rfl), (oa c.1 16 (by decide) (by decide) _).mono ?_⟩
  rintro e w1 ⟨rfl, rfl⟩
  have e1 : IntKind.wrap .i64 (c.2.1 * 16) = c.2.1 * 16 := wI
  have e2 : IntKind.wrap .i64 (c.2.1 * 16 + c.2.2 % 16) = c.2.1 * 16 + c.2.2 % 16 := wI
  have e3 : IntKind.wrap .i64 ((c.2.1 * 16 + c.2.2 % 16) * 16) = (c.2.1 * 16 + c.2.2 % 16) * 16 := wI
  have e4 : IntKind.wrap .i64 ((c.2.1 * 16 + c.2.2 % 16) * 16 + c.1 % 16) = idx c := wI
  refine ⟨_, rfl, rfl, hbd.aX (fun j hj => by simp at hj; subst hj; rfl), ?_, x0.drew⟩
  rw [e1, e2, e3, e4]
  exact ⟨_, _, rfl, .inl ⟨rfl, by unfold fx; omega, rfl⟩⟩
theorem jA (c : Ce) (hc : pW c) (w : World) : Calls Tryz.prog dK #[mq c] w fun e w' => e = .returned (pv (pos c)) ∧ Ext w w' := by
 apply oX.vc
 intro w0 e0 w1 e1
 have x1 : Ext w w1.drew := (((Ext.aq w).ab e0).ab e1).drew
 have z0 := dR e0
 have hb : Row w1.drew w.heap.size [c.1, c.2.1, c.2.2] mK := ((by rw [e0]; exact Row.new w [_, _, _] _ : Row w0 w.heap.size [c.1, c.2.1, c.2.2] mK).ext ((Ext.aq _).ab e1)).ext (Ext.dr _)
 refine (nZ c.1 16 hc.1 (by decide) w1.drew).mono ?_
 rintro e w2 ⟨rfl, rfl⟩
 refine ⟨_, rfl, rfl, rfl, hb.aX (fun j hj => by simp at hj; subst hj; rfl), (nZ c.2.2 16 hc.2.2 (by decide) _).mono ?_⟩
 rintro e w2 ⟨rfl, rfl⟩
 refine ⟨_, rfl, rfl, rfl, fun w6 e6 => ⟨rfl, x1.ah e6 (by omega)⟩⟩
def BH (p:Po):Prop:=(-1099511627776<=p.1/\p.1<=1099511627776)/\(-1099511627776<=p.2/\p.2<=1099511627776)
theorem AE (p : Po) (hp : BH p) (i : Int) (hi : 0 ≤ i ∧ i < 8192) (w : World) : Calls Tryz.prog mM #[pv p, i] w fun e w' => e = .returned (.tuple #[mq (cellAt p i), .bool true]) ∧ Ext w w' := by
 apply re.vc
 obtain ⟨⟨p1, p2⟩, p3, p4⟩ := hp
 intro w0 e0 w1 e1
 have z0 := dR e0
 have x1 : Ext w w1 := ((Ext.aq w).ab e0).ab e1
 have t1 : Int.tmod i 16 = i % 16 := Int.tmod_eq_emod_of_nonneg hi.1
 have t2 : Int.tdiv i 256 = i / 256 := Int.tdiv_eq_ediv_of_nonneg hi.1
 have t3 : Int.tdiv i 16 = i / 16 := Int.tdiv_eq_ediv_of_nonneg hi.1
 have t4 : Int.tmod (i / 16) 16 = i / 16 % 16 := Int.tmod_eq_emod_of_nonneg (by omega)
 have w1' : IntKind.wrap .i64 (i / 16) = i / 16 := wI
 have w2' : IntKind.wrap .i64 (i / 256) = i / 256 := wI
 have w3' : IntKind.wrap .i64 (p.1 * 16) = p.1 * 16 := wI
 have w4' : IntKind.wrap .i64 (p.2 * 16) = p.2 * 16 := wI
 have w5' : IntKind.wrap .i64 (p.1 * 16 + i % 16) = p.1 * 16 + i % 16 := wI
 have w6' : IntKind.wrap .i64 (p.2 * 16 + i / 16 % 16) = p.2 * 16 + i / 16 % 16 := wI
 rw [t1, t2, t3, w1', w2', w3', w4', t4, w5', w6']
 refine Br.mk (fun h => ?_) (fun _ => Br.mk (fun h => ?_) (fun _ w4 e4 => ⟨rfl, x1.ah e4 (by omega)⟩)) <;> simp only [decide_eq_true_eq] at h <;> omega
theorem AF (p : Po) (hp : BH p) (i : Int) (hi : 0 ≤ i ∧ i < 8192) (w : World) : Calls Tryz.prog kY #[pv p, i] w fun e w' => e = .returned (.tuple #[mq (cellAt p i), .bool true]) ∧ Ext w w' := by
 apply oY.vc
 obtain ⟨⟨p1, p2⟩, p3, p4⟩ := hp
 intro w0 e0 w1 e1
 have z0 := dR e0
 have x1 : Ext w w1 := ((Ext.aq w).ab e0).ab e1
 have t1 : Int.tmod i 16 = i % 16 := Int.tmod_eq_emod_of_nonneg hi.1
 have t2 : Int.tdiv i 256 = i / 256 := Int.tdiv_eq_ediv_of_nonneg hi.1
 have t3 : Int.tmod i 256 = i % 256 := Int.tmod_eq_emod_of_nonneg hi.1
 have t4 : Int.tdiv (i % 256) 16 = i / 16 % 16 := by rw [Int.tdiv_eq_ediv_of_nonneg (by omega)]; omega
 have w1' : IntKind.wrap .i64 (i / 16 % 16) = i / 16 % 16 := wI
 have w2' : IntKind.wrap .i64 (i / 256) = i / 256 := wI
 have w3' : IntKind.wrap .i64 (p.1 * 16) = p.1 * 16 := wI
 have w4' : IntKind.wrap .i64 (p.2 * 16) = p.2 * 16 := wI
 have w5' : IntKind.wrap .i64 (p.1 * 16 + i % 16) = p.1 * 16 + i % 16 := wI
 have w6' : IntKind.wrap .i64 (p.2 * 16 + i / 16 % 16) = p.2 * 16 + i / 16 % 16 := wI
 rw [t1, t2, t3, t4, w1', w2', w3', w4', w5', w6']
 refine Br.mk (fun h => ?_) (fun _ => Br.mk (fun h => ?_) (fun _ w4 e4 => ⟨rfl, x1.ah e4 (by omega)⟩)) <;> simp only [decide_eq_true_eq] at h <;> omega
end Go.Proofs.YtalpkjfpmdpbiaaGreatDoor
namespace Go.Proofs.YtalpkjfpmdpbiaaGreatDoor
open Go Go.Vc Go.RowKit Go.Proofs Go.bQ
theorem AM (s x z : Int) (w : World) : Calls Tryz.prog pc #[s, x, z] w fun e w' => e = .returned (.int .u64 (hash s x z)) ∧ w' = w := by
 apply ql.vc
 unfold ql.pre
 rw [Jj, Jk]
 exact ⟨rfl, rfl⟩
theorem AN (s x z : Int) (w : World) : Calls Tryz.prog dL #[s, x, z] w fun e w' => e = .returned (.int .u64 (hash s x z)) ∧ w' = w := by
 apply lf.vc
 unfold lf.pre
 rw [Jl, Jm]
 exact ⟨rfl, rfl⟩
theorem BQ (s x z : Int) : IntKind.wrap .i64 (Int.tmod (hash s x z) 9) = aI s x z := by
 rw [Int.tmod_eq_emod_of_nonneg (Gh s x z)]
 exact wI
theorem iw (s x z ur : Int) (hn : 0 ≤ ur ∧ ur ≤ 64) {b : Nat} {w : World} (hb : Row w b [s] xN) : Calls Tryz.prog cG #[x, z, ur, .pointer (some ⟨b, 0, none⟩)] w fun e w' => e = .returned (.int .i64 (aI s x z * ur)) ∧ w' = w := by
 apply lg.vc
 refine ⟨s, by rw [hb.ld]; rfl, (AM s x z w).mono ?_⟩
 rintro e w1 ⟨rfl, rfl⟩
 refine ⟨_, rfl, ?_⟩
 rw [BQ]
 have hc := bg s x z
 have h1 : 0 ≤ aI s x z * ur := Int.mul_nonneg hc.1 hn.1
 have h2 : aI s x z * ur ≤ 8 * 64 := Int.mul_le_mul hc.2 hn.2 hn.1 (by decide)
 rw [wI]
 exact ⟨rfl, rfl⟩
theorem xO (s x z : Int) (hx : inI x) (hz : inI z) (w : World) : Calls Tryz.prog lh #[s, x, z] w fun e w' => e = .returned (.int .i64 (ground s x z)) ∧ Ext w w' := by
 apply pd.vc
 intro w0 e0
 have x0 : Ext w w0 := (Ext.aq w).ab e0
 have hb : Row w0 w.heap.size [s] xN := by rw [e0]; exact Row.new w [_] _
 refine (nZ x 8 hx (by decide) w0).mono ?_
 rintro e w1 ⟨rfl, rfl⟩
 refine ⟨_, rfl, rfl, (nZ z 8 hz (by decide) w1).mono ?_⟩
 rintro e w1 ⟨rfl, rfl⟩
 refine ⟨_, rfl, rfl, (oa x 8 (by decide) (by decide) w1).mono ?_⟩
 rintro e w1 ⟨rfl, rfl⟩
 refine ⟨_, rfl, rfl, (oa z 8 (by decide) (by decide) w1).mono ?_⟩
 rintro e w1 ⟨rfl, rfl⟩
 refine ⟨_, rfl, rfl, ?_⟩
 have hdx : inI (x / 8 + 1) := by unfold inI at *; omega
 have hdz : inI (z / 8 + 1) := by unfold inI at *; omega
 have a := gR (bg s (x / 8) (z / 8)) (u := 8 - x % 8) (v := 8 - z % 8) (by omega) (by omega)
 have b := gR (bg s (x / 8 + 1) (z / 8)) (u := x % 8) (v := 8 - z % 8) (by omega) (by omega)
 have c := gR (bg s (x / 8) (z / 8 + 1)) (u := 8 - x % 8) (v := z % 8) (by omega) (by omega)
 have d := gR (bg s (x / 8 + 1) (z / 8 + 1)) (u := x % 8) (v := z % 8) (by omega) (by omega)
 have q1 : IntKind.wrap .i64 (8 - x % 8) = 8 - x % 8 := wI
 have q2 : IntKind.wrap .i64 (8 - z % 8) = 8 - z % 8 := wI
 rw [q1, q2, ag hdx, ag hdz, ag (n := (8 - x % 8) * (8 - z % 8)) (by unfold inI; omega), ag (n := x % 8 * (8 - z % 8)) (by unfold inI; omega), ag (n := (8 - x % 8) * (z % 8)) (by unfold inI; omega), ag (n := x % 8 * (z % 8)) (by unfold inI; omega)]
 refine (iw s _ _ _ ⟨a.1, a.2.1⟩ hb).mono ?_
 rintro e w1 ⟨rfl, rfl⟩
 refine ⟨_, rfl, (iw s _ _ _ ⟨b.1, b.2.1⟩ hb).mono ?_⟩
 rintro e w1 ⟨rfl, rfl⟩
 refine ⟨_, rfl, (iw s _ _ _ ⟨c.1, c.2.1⟩ hb).mono ?_⟩
 rintro e w1 ⟨rfl, rfl⟩
 refine ⟨_, rfl, (iw s _ _ _ ⟨d.1, d.2.1⟩ hb).mono ?_⟩
 rintro e w1 ⟨rfl, rfl⟩
 refine ⟨_, rfl, ?_, x0⟩
 have hg := iK s x z
 have e1 : ground s x z = 6 + (aI s (x / 8) (z / 8) * ((8 - x % 8) * (8 - z % 8)) + aI s (x / 8 + 1) (z / 8) * (x % 8 * (8 - z % 8)) + aI s (x / 8) (z / 8 + 1) * ((8 - x % 8) * (z % 8)) + aI s (x / 8 + 1) (z / 8 + 1) * (x % 8 * (z % 8))) / 64 := rfl
 generalize aI s (x / 8) (z / 8) * ((8 - x % 8) * (8 - z % 8)) = A at *
 generalize aI s (x / 8 + 1) (z / 8) * (x % 8 * (8 - z % 8)) = B at *
 generalize aI s (x / 8) (z / 8 + 1) * ((8 - x % 8) * (z % 8)) = C at *
 generalize aI s (x / 8 + 1) (z / 8 + 1) * (x % 8 * (z % 8)) = D at *
 rw [ag (n := A + B) (by unfold inI; omega), ag (n := A + B + C) (by unfold inI; omega), ag (n := A + B + C + D) (by unfold inI; omega), Int.tdiv_eq_ediv_of_nonneg (by omega), ag (n := (A + B + C + D) / 64) (by unfold inI; omega), ← e1, wI]
theorem Em (y g : Int) (hg : 6 ≤ g ∧ g ≤ 100) (w : World) : Calls Tryz.prog uu #[y, g] w fun e w' => e = .returned (.int .i64 (mu y g)) ∧ w' = w := by
 apply xP.vc
 have q1 : IntKind.wrap .i64 (g - 3) = g - 3 := wI
 have q2 : IntKind.wrap .i64 (g - 1) = g - 1 := wI
 unfold xP.pre
 rw [q1, q2]
 have fin : ∀ {v : Int}, mu y g = v → (Ending.returned v = .returned (.int .i64 (mu y g)) ∧ w = w) := fun h => ⟨by rw [h], rfl⟩
 refine Br.mk (fun h1 => fin ?_) (fun h1 => Br.mk (fun h2 => fin ?_) (fun h2 => Br.mk (fun h3 => fin ?_) (fun h3 => Br.mk (fun h4 => fin ?_) (fun h4 => Br.mk (fun h5 => fin ?_) (fun h5 => Br.mk (fun h6 => Br.mk (fun h7 => fin ?_) (fun h7 => Br.mk (fun h8 => fin ?_) (fun h8 => Br.mk (fun h9 => fin ?_) (fun h9 => fin ?_)))) (fun h6 => Br.mk (fun h8 => fin ?_) (fun h8 => Br.mk (fun h9 => fin ?_) (fun h9 => fin ?_))))))))
 all_goals simp only [decide_eq_true_eq, decide_eq_false_iff_not, beq_iff_eq, beq_eq_false_iff_ne, ne_eq] at *
 all_goals unfold mu
 all_goals (repeat' split) <;> omega
theorem xQ (s x z : Int) (hx : inI x) (hz : inI z) (w : World) : Calls Tryz.prog iT #[s, x, z] w fun e w' => e = .returned (.int .i64 (ground s x z)) ∧ Ext w w' := by
 apply lj.vc
 have hdx : inI (x / 8 + 1) ∧ inI (x / 8) := by unfold inI at *; omega
 have hdz : inI (z / 8 + 1) ∧ inI (z / 8) := by unfold inI at *; omega
 have a := gR (bg s (x / 8) (z / 8)) (u := 8 - x % 8) (v := 8 - z % 8) (by omega) (by omega)
 have b := gR (bg s (x / 8 + 1) (z / 8)) (u := x % 8) (v := 8 - z % 8) (by omega) (by omega)
 have c := gR (bg s (x / 8) (z / 8 + 1)) (u := 8 - x % 8) (v := z % 8) (by omega) (by omega)
 have d := gR (bg s (x / 8 + 1) (z / 8 + 1)) (u := x % 8) (v := z % 8) (by omega) (by omega)
 have q1 : IntKind.wrap .i64 (8 - x % 8) = 8 - x % 8 := wI
 have q2 : IntKind.wrap .i64 (8 - z % 8) = 8 - z % 8 := wI
 have hg := iK s x z
 have e1 : ground s x z = 6 + (aI s (x / 8) (z / 8) * ((8 - x % 8) * (8 - z % 8)) + aI s (x / 8 + 1) (z / 8) * (x % 8 * (8 - z % 8)) + aI s (x / 8) (z / 8 + 1) * ((8 - x % 8) * (z % 8)) + aI s (x / 8 + 1) (z / 8 + 1) * (x % 8 * (z % 8))) / 64 := rfl
 have m1 : IntKind.wrap .i64 ((8 - x % 8) * (8 - z % 8)) = (8 - x % 8) * (8 - z % 8) := wI
 have m2 : IntKind.wrap .i64 (x % 8 * (8 - z % 8)) = x % 8 * (8 - z % 8) := wI
 have m3 : IntKind.wrap .i64 ((8 - x % 8) * (z % 8)) = (8 - x % 8) * (z % 8) := wI
 have m4 : IntKind.wrap .i64 (x % 8 * (z % 8)) = x % 8 * (z % 8) := wI
 have k1 := Int.mul_comm (aI s (x / 8) (z / 8)) ((8 - x % 8) * (8 - z % 8))
 have k2 := Int.mul_comm (aI s (x / 8 + 1) (z / 8)) (x % 8 * (8 - z % 8))
 have k3 := Int.mul_comm (aI s (x / 8) (z / 8 + 1)) ((8 - x % 8) * (z % 8))
 have k4 := Int.mul_comm (aI s (x / 8 + 1) (z / 8 + 1)) (x % 8 * (z % 8))
 refine ⟨fun n i t wr => w = wr ∧ ((i = 0 ∧ t = 0 ∧ n = 2) ∨ (i = 1 ∧ t = aI s (x / 8) (z / 8) * ((8 - x % 8) * (8 - z % 8)) + aI s (x / 8) (z / 8 + 1) * ((8 - x % 8) * (z % 8)) ∧ n = 1) ∨ (i = 2 ∧ t = aI s (x / 8) (z / 8) * ((8 - x % 8) * (8 - z % 8)) + aI s (x / 8) (z / 8 + 1) * ((8 - x % 8) * (z % 8)) + aI s (x / 8 + 1) (z / 8) * (x % 8 * (8 - z % 8)) + aI s (x / 8 + 1) (z / 8 + 1) * (x % 8 * (z % 8)) ∧ n = 0)), ⟨2, rfl, .inl ⟨rfl, rfl, rfl⟩⟩, ?_⟩
 rintro n us i t wr ⟨rfl, hi⟩
 refine Br.mk (fun hc => ?_) (fun hc => ?_)
 ·replace hc := eN hc
  refine ⟨fun n' k t' wr => w = wr ∧ ((k = 0 ∧ t' = t ∧ n' = 2) ∨ (k = 1 ∧ n' = 1 ∧ t' = t + (if i = 0 then aI s (x / 8) (z / 8) * ((8 - x % 8) * (8 - z % 8)) else aI s (x / 8 + 1) (z / 8) * (x % 8 * (8 - z % 8)))) ∨ (k = 2 ∧ n' = 0 ∧ t' = t + (if i = 0 then aI s (x / 8) (z / 8) * ((8 - x % 8) * (8 - z % 8)) else aI s (x / 8 + 1) (z / 8) * (x % 8 * (8 - z % 8))) + (if i = 0 then aI s (x / 8) (z / 8 + 1) * ((8 - x % 8) * (z % 8)) else aI s (x / 8 + 1) (z / 8 + 1) * (x % 8 * (z % 8))))), ⟨2, rfl, .inl ⟨rfl, rfl, rfl⟩⟩, ?_⟩
  rintro n2 us k t' wr ⟨rfl, hk⟩
  have hi01 : i = 0 ∨ i = 1 := by omega
  refine Br.mk (fun hc2 => ?_) (fun hc2 => ?_)
  ·replace hc2 := eN hc2
   refine (kz x 8 (by decide) (by decide) w).mono ?_
   rintro e w1 ⟨rfl, rfl⟩
   refine ⟨_, rfl, (kz z 8 (by decide) (by decide) w1).mono ?_⟩
   rintro e w1 ⟨rfl, rfl⟩
   refine ⟨_, rfl, ?_⟩
   rw [q1, q2, m1, m2, m3, m4]
   have hk01 : k = 0 ∨ k = 1 := by omega
   refine Br.mk (fun hb1 => Br.mk (fun hb2 => ?_) (fun hb2 => ?_)) (fun hb1 => Br.mk (fun hb2 => ?_) (fun hb2 => ?_))
   all_goals
    simp only [beq_iff_eq, beq_eq_false_iff_ne, ne_eq] at hb1 hb2
    refine (wA x 8 hx (by decide) w1).mono ?_
    rintro e w1 ⟨rfl, rfl⟩
    refine ⟨_, rfl, (wA z 8 hz (by decide) w1).mono ?_⟩
    rintro e w1 ⟨rfl, rfl⟩
    refine ⟨_, rfl, (AN _ _ _ w1).mono ?_⟩
    rintro e w1 ⟨rfl, rfl⟩
    refine ⟨_, rfl, ?_⟩
    rw [BQ]
   ·have hi0 : i = 0 := hb1
    have hk0 : k = 0 := hb2
    subst hi0; subst hk0
    rw [Int.add_zero, Int.add_zero, ag hdx.2, ag hdz.2, ← k1, ag (n := aI s (x / 8) (z / 8) * ((8 - x % 8) * (8 - z % 8))) (by unfold inI; omega)]
    have ht : t' = 0 := by omega
    subst ht
    refine ⟨1, by omega, rfl, .inr (.inl ⟨by decide, rfl, ?_⟩)⟩
    rw [wI, if_pos rfl]; omega
   ·have hi0 : i = 0 := hb1
    have hk0 : k = 1 := by omega
    subst hi0; subst hk0
    rw [Int.add_zero, ag hdx.2, ag hdz.1, ← k3, ag (n := aI s (x / 8) (z / 8 + 1) * ((8 - x % 8) * (z % 8))) (by unfold inI; omega)]
    rcases hk with hk | hk | hk
    ·omega
    ·obtain ⟨-, hn2, ht⟩ := hk
     rw [if_pos rfl] at ht
     have ht0 : t = 0 := by omega
     subst ht0
     refine ⟨0, by omega, rfl, .inr (.inr ⟨by decide, rfl, ?_⟩)⟩
     rw [wI, if_pos rfl, if_pos rfl]; omega
    ·omega
   ·have hi0 : i = 1 := by omega
    have hk0 : k = 0 := hb2
    subst hi0; subst hk0
    rw [Int.add_zero, ag hdx.1, ag hdz.2, ← k2, ag (n := aI s (x / 8 + 1) (z / 8) * (x % 8 * (8 - z % 8))) (by unfold inI; omega)]
    rcases hk with hk | hk | hk
    ·obtain ⟨-, ht, hn2⟩ := hk
     refine ⟨1, by omega, rfl, .inr (.inl ⟨by decide, rfl, ?_⟩)⟩
     rw [wI, if_neg (by decide)]; omega
    ·omega
    ·omega
   ·have hi0 : i = 1 := by omega
    have hk0 : k = 1 := by omega
    subst hi0; subst hk0
    rw [ag hdx.1, ag hdz.1, ← k4, ag (n := aI s (x / 8 + 1) (z / 8 + 1) * (x % 8 * (z % 8))) (by unfold inI; omega)]
    rcases hk with hk | hk | hk
    ·omega
    ·obtain ⟨-, hn2, ht⟩ := hk
     rw [if_neg (by decide)] at ht
     refine ⟨0, by omega, rfl, .inr (.inr ⟨by decide, rfl, ?_⟩)⟩
     rw [wI, if_neg (by decide), if_neg (by decide)]; omega
    ·omega
  ·replace hc2 := eO hc2
   rcases hk with hk | hk | hk
   ·omega
   ·omega
   ·obtain ⟨-, hn2, ht⟩ := hk
    rcases hi01 with h | h
    ·subst h
     rw [if_pos rfl, if_pos rfl] at ht
     refine ⟨1, by omega, rfl, .inr (.inl ⟨by decide, by omega, rfl⟩)⟩
    ·subst h
     rw [if_neg (by decide), if_neg (by decide)] at ht
     refine ⟨0, by omega, rfl, .inr (.inr ⟨by decide, by omega, rfl⟩)⟩
 ·replace hc := eO hc
  rcases hi with hi | hi | hi
  ·omega
  ·omega
  ·obtain ⟨-, ht, -⟩ := hi
   refine ⟨?_, Ext.aq _⟩
   have : t = aI s (x / 8) (z / 8) * ((8 - x % 8) * (8 - z % 8)) + aI s (x / 8 + 1) (z / 8) * (x % 8 * (8 - z % 8)) + aI s (x / 8) (z / 8 + 1) * ((8 - x % 8) * (z % 8)) + aI s (x / 8 + 1) (z / 8 + 1) * (x % 8 * (z % 8)) := by omega
   rw [← this] at e1
   rw [Int.tdiv_eq_ediv_of_nonneg (by omega), ag (n := t / 64) (by unfold inI; omega), ← e1, wI]
theorem yU (s : Int) (c : Ce) (hc : pW c) (w : World) : Calls Tryz.prog j0 #[s, mq c] w fun e w' => e = .returned (.int .i64 (mu c.2.1 (ground s c.1 c.2.2))) ∧ Ext w w' := by
 apply mQ.vc
 intro w0 e0
 have x0 : Ext w w0 := (Ext.aq w).ab e0
 have z0 := dR e0
 refine (xQ s c.1 c.2.2 hc.1 hc.2.2 w0).mono ?_
 rintro e w1 ⟨rfl, x1⟩
 refine ⟨_, rfl, x1.k, ?_⟩
 have hg := iK s c.1 c.2.2
 generalize ground s c.1 c.2.2 = g at hg
 generalize c.2.1 = y
 have q1 : IntKind.wrap .i64 (g - 3) = g - 3 := wI
 have q2 : IntKind.wrap .i64 (g - 1) = g - 1 := wI
 rw [q1, q2]
 have fin : ∀ {v : Int}, mu y g = v → (Ending.returned v = .returned (.int .i64 (mu y g)) ∧ Ext w w1) := fun h => ⟨by rw [h], x0.tr x1⟩
 refine Br.mk (fun h1 => fin ?_) (fun h1 => Br.mk (fun h2 => fin ?_) (fun h2 => Br.mk (fun h3 => fin ?_) (fun h3 => Br.mk (fun h4 => fin ?_) (fun h4 => Br.mk (fun h5 => fin ?_) (fun h5 => Br.mk (fun h6 => Br.mk (fun h7 => fin ?_) (fun h7 => fin ?_)) (fun h6 => Br.mk (fun h9 => fin ?_) (fun h9 => fin ?_)))))))
 all_goals simp only [decide_eq_true_eq, decide_eq_false_iff_not, beq_iff_eq, beq_eq_false_iff_ne, ne_eq] at *
 all_goals unfold mu
 all_goals (repeat' split) <;> omega
end Go.Proofs.YtalpkjfpmdpbiaaGreatDoor
namespace Go.Proofs.YtalpkjfpmdpbiaaGreatDoor
open Go Go.Vc Go.RowKit Go.Proofs Go.bQ Go.aB
theorem uR (aa:Int) (p:Po) {k:Nat} (hk:k<8192):(made aa p)[k]? =some (mu (cellAt p k).2.1 (ground aa (cellAt p k).1 (cellAt p k).2.2)):=by
 unfold made
 rw [List.getElem?_map,List.getElem?_range hk];rfl
theorem E3 {p:Po} (hp:BH p) (i:Int) (hi:0<=i/\i<8192):pW (cellAt p i):=by
 obtain ⟨⟨p1,p2⟩,p3,p4⟩:=hp
 unfold pW cellAt inI
 simp only
 omega
attribute [local irreducible] made in
set_option maxRecDepth 100000 in
theorem vV (aa : Int) (p : Po) (hp : BH p) (w : World) : Calls Tryz.prog j6 #[aa, pv p] w fun e w' => ∃ s' : Sl, e = .returned s' ∧ jG w.heap.size w' s' (bN (made aa p)) ∧ Ext w w' := by
 apply nj.vc
 intro w0 e0
 have x0 : Ext w w0 := (Ext.aq w).ab e0
 have z0 := dR e0
 refine ⟨fun n x s wr => Ext w0 wr ∧ ∃ k : Nat, x = k ∧ k + n = 8192 ∧ Is w0.heap.size wr s ((made aa p).take k), ⟨8192, rfl, Ext.aq _, 0, rfl, by omega, by rw [List.take_zero]; exact af.nil⟩, ?_⟩
 rintro n us x s wr ⟨xr, k, rfl, hk, ho⟩
 have zr := xr.size
 refine Br.mk (fun hc => ?_) (fun hc => ?_)
 ·replace hc := eN hc
  have hi : 0 ≤ (k : Int) ∧ (k : Int) < 8192 := by omega
  refine (AF p hp k hi wr).mono ?_
  rintro e w8 ⟨rfl, x8⟩
  refine ⟨_, _, _, _, rfl, x8.k, ?_⟩
  have z8 := x8.size
  intro w13 e13 w14 e14
  have x14 : Ext w8 w14 := ((Ext.aq _).ab e13).ah e14 (Nat.le_refl _)
  have z14 : w14.heap.size = w8.heap.size + 1 := by rw [e14, setRow_size, e13]; simp
  refine (yU aa (cellAt p k) (E3 hp k hi) w14).mono ?_
  rintro e w15 ⟨rfl, x15⟩
  have z15 := x15.size
  refine ⟨_, rfl, x15.k, x15.k, ?_⟩
  intro w17 e17
  have x17 : Ext w15 w17 := (Ext.aq _).ab e17
  have z17 := dR e17
  have xall : Ext wr w17 := ((x8.tr x14).tr x15).tr x17
  have hlen : s.n = k := by rw [vE.len ho.II, List.length_take, dy]; omega
  obtain ⟨c1, c2⟩ := (af.ext ho xall).append (bytes := 8) (news := iv (mu (cellAt p k).2.1 (ground aa (cellAt p k).1 (cellAt p k).2.2))) (by omega) rfl (qe _ _) (by omega) (by omega)
  refine ⟨c1, fun s18 w19 hres => ?_⟩
  obtain ⟨d1, d2, d3, d4, d5⟩ := c2 s18 w19 hres
  have hsb : ∀ j, wr.heap.size ≤ j → s.ax ≠ some j := fun j hj e => by have := (ho.own.lt e).2; omega
  have hsw : s.ax ≠ some w.heap.size := fun e => by have := (ho.own.lt e).1; omega
  have hwk : IntKind.wrap .i64 ((k : Int) + 1) = ((k + 1 : Nat) : Int) := by rw [wI]; omega
  refine ⟨d4 _ hsw (by omega), d4 _ (hsb _ (by omega)) (by omega), d4 _ (hsb _ (by omega)) (by omega), n - 1, by omega, rfl, (xr.tr xall).trans d3, k + 1, hwk, by omega, ?_⟩
  rw [List.take_add_one, uR aa p (by omega)]
  show af _ _ _ _ _ _
  rw [List.map_append]; exact d1
 ·replace hc := eO hc
  have : k = 8192 := by omega
  subst this
  rw [List.take_of_length_le (by rw [dy]; exact Nat.le_refl _)] at ho
  refine (vN s (made aa p) wr ho.II (by rw [dy]; decide)).mono ?_
  rintro e w20 ⟨s', rfl, ho', x'⟩
  exact ⟨s', rfl, x'.k, s', rfl, af.low ho' (by omega), (x0.tr xr).tr x'⟩
end Go.Proofs.YtalpkjfpmdpbiaaGreatDoor
namespace Go.Proofs.YtalpkjfpmdpbiaaGreatDoor
open Go Go.Vc Go.RowKit Go.Proofs Go.bQ Go.aB
def Dx (aa:Int) (p:Po) (k:Nat):List Value:=(List.range 256).map fun i:Nat=> .int .i64 (if i<k then ground aa (cellAt p i).1 (cellAt p i).2.2 else 0)
theorem qQ (aa:Int) (p:Po) (k:Nat):(Dx aa p k).length=256:=by simp [Dx]
theorem tF (aa:Int) (p:Po) (k:Nat) {i:Nat} (hi:i<256):(Dx aa p k)[i]? =some (.int .i64 (if i<k then ground aa (cellAt p i).1 (cellAt p i).2.2 else 0)):=by
 unfold Dx
 rw [List.getElem?_map,List.getElem?_range hi];rfl
theorem GS (aa : Int) (p : Po) {k : Nat} (hk : k < 256) : (Dx aa p k).set k (.int .i64 (ground aa (cellAt p k).1 (cellAt p k).2.2)) = Dx aa p (k + 1) := by
 apply List.ext_getElem?
 intro i
 rw [List.getElem?_set]
 rcases Nat.lt_or_ge i 256 with h | h
 ·rw [tF _ _ (k + 1) h]
  split
  ·rename_i e
   subst e
   rw [if_pos (by rw [qQ]; exact h), if_pos (by omega)]
  ·rename_i e
   rw [tF _ _ k h]
   congr 3
   exact propext ⟨fun h => by omega, fun h => by omega⟩
 ·rw [List.getElem?_eq_none (by rw [qQ]; exact h), List.getElem?_eq_none (by rw [qQ]; exact h), if_neg (by omega)]
theorem FB (aa:Int) (p:Po):Dx aa p 0=List.replicate 256 (.int .i64 0):=by
 apply List.ext_getElem?
 intro i
 rcases Nat.lt_or_ge i 256 with h|h
 ·rw [tF _ _ 0 h,List.getElem?_replicate,if_pos h,if_neg (by omega)]
 ·rw [List.getElem?_eq_none (by rw [qQ];exact h),List.getElem?_eq_none (by rw [List.length_replicate];exact h)]
def um (aa:Int) (p:Po):List (List Value):=(made aa p).map fun b=> [.int .i64 b]
theorem wB (aa:Int) (p:Po):(um aa p).length=8192:=by unfold um;rw [List.length_map,dy]
theorem GU (aa:Int) (p:Po) {k:Nat} (hk:k<8192):(made aa p)[k]? =some (mu ((k:Int)/ 256) (ground aa (cellAt p ((k % 256:Nat):Int)).1 (cellAt p ((k % 256:Nat):Int)).2.2)):=by
 rw [uR aa p hk]
 have e1:(cellAt p ((k % 256:Nat):Int)).1=(cellAt p k).1:=by unfold cellAt;simp only;omega
 have e2:(cellAt p ((k % 256:Nat):Int)).2.2=(cellAt p k).2.2:=by unfold cellAt;simp only;omega
 rw [e1,e2];rfl
abbrev BP (bp bs:Nat):Nat->Prop:=fun i=>i=bp\/i=bs
abbrev Hp (bp bs:Nat):Value:=.func (.func 206) #[] #[.pointer (some ⟨bp,0,none⟩),.pointer (some ⟨bs,0,none⟩)]
attribute [local irreducible] made Dx in
set_option maxRecDepth 100000 in
theorem uo (aa : Int) (p : Po) (hp : BH p) (bp bs : Nat) (W0 : World) (hbp : Row W0 bp [p.1, p.2] DR) (hbs : Row W0 bs [aa] xN) :
  Iter Tryz.prog (Hp bp bs) W0 (BP bp bs) (um aa p) := by
 refine ⟨⟨_, _, _, rfl, by kernel_rfl⟩, ?_⟩
 intro y B J Jx F0 W hB hsJ hsX hbd hRd hround h0
 refine fc (by kernel_rfl) (by rfl) ?_
 apply np.vc
 have same : ∀ {w : World} {F : Nat → Prop}, (∀ i, BP bp bs i → ¬ F i ∧ i < w.heap.size ∧ w.heap[i]? = W0.heap[i]?) → Row w bp [p.1, p.2] DR ∧ Row w bs [aa] xN := fun {w F} h =>
  ⟨hbp.same (h bp (.inl rfl)).2.2, hbs.same (h bs (.inr rfl)).2.2⟩
 intro w0 e0
 have x0 : Ext W w0 := (Ext.aq W).ab e0
 have z0 := dR e0
 have hg0 : Row w0 W.heap.size (Dx aa p 0) 267 := by rw [e0, FB]; exact Row.new W (List.replicate 256 (0:Int)) _
 clear e0
 have hF0 := hbd _ _ _ h0
 have bel : ∀ {w : World}, Ext W w → J 0 F0 w ∧ ∀ i, BP bp bs i → ¬ F0 i ∧ i < w.heap.size ∧ w.heap[i]? = W0.heap[i]? := fun {w} x =>
  ⟨hsJ _ _ _ _ h0 (Below.mono x hB) fun i hi => x.heap (hF0 i hi), fun i hi => by
   obtain ⟨h1, h2, h3⟩ := hRd i hi
   exact ⟨h1, by have := x.size; omega, (x.heap h2).trans h3⟩⟩
 refine ⟨fun n x wr => Ext W wr ∧ W.heap.size < wr.heap.size ∧ ∃ k : Nat, x = k ∧ k + n = 256 ∧ Row wr W.heap.size (Dx aa p k) 267, ⟨256, x0, by omega, 0, rfl, by omega, hg0⟩, ?_⟩
 rintro n us x wr ⟨xr, zr, k, rfl, hk, hg⟩
 refine Br.mk (fun hc => ?_) (fun hc => ?_)
 ·replace hc := eN hc
  obtain ⟨hb1, hb2⟩ := same (bel xr).2
  refine ⟨p.1, p.2, hb1.aX (fun j hj => by rw [Nat.zero_add]), (AE p hp k (by omega) wr).mono ?_⟩
  rintro e w9 ⟨rfl, x9⟩
  refine ⟨_, _, _, _, rfl, ?_⟩
  intro w14 e14 w15 e15
  have x15 : Ext w9 w15 := ((Ext.aq _).ab e14).ah e15 (Nat.le_refl _)
  have z15 : w15.heap.size = w9.heap.size + 1 := by rw [e15, setRow_size, e14]; simp
  have z9 := x9.size
  have hb15 := hb2.ext (x9.tr x15)
  refine ⟨aa, by rw [hb15.ld]; rfl, ?_⟩
  have hok := E3 hp k ⟨by omega, by omega⟩
  refine (xO aa _ _ hok.1 hok.2.2 w15).mono ?_
  rintro e w17 ⟨rfl, x17⟩
  have z17 := x17.size
  have hg17 := hg.ext ((x9.tr x15).tr x17)
  have hk1 : ((k : Int).toNat * 1) = k := by omega
  rw [hk1]
  obtain ⟨p1, p2⟩ := hg17.iR (j := k) (v := .int .i64 (ground aa (cellAt p k).1 (cellAt p k).2.2)) (by rw [qQ]; omega) rfl
  refine ⟨_, rfl, x17.k, by omega, by omega, ⟨rfl, p1⟩, ?_, fun w19 e19 => ?_⟩
  ·rw [br]
   intro e
   have : W.heap.size = w9.heap.size := by simpa [bD] using e
   omega
  ·obtain ⟨q1, q2⟩ := p2 w19 e19
   have hwk : IntKind.wrap .i64 ((k : Int) + 1) = ((k + 1 : Nat) : Int) := by rw [wI]; omega
   have hput : aw (Dx aa p k) k [.int .i64 (ground aa (cellAt p k).1 (cellAt p k).2.2)] = Dx aa p (k + 1) := by rw [← GS aa p (by omega)]; rfl
   rw [hput] at q1
   exact ⟨n - 1, by omega, q2.ext (xr.tr ((x9.tr x15).tr x17)) (fun i hi => by omega), by have := q2.size; omega, k + 1, hwk, by omega, q1⟩
 ·replace hc := eO hc
  have hk256 : k = 256 := by omega
  subst hk256
  obtain ⟨hJr, hKr⟩ := bel xr
  refine ⟨fun n x wr => ∃ (k : Nat) (F : Nat → Prop), x = k ∧ k + n = 8192 ∧ B ≤ wr.heap.size ∧ W.heap.size < wr.heap.size ∧ ¬ F W.heap.size ∧ J k F wr ∧ Row wr W.heap.size (Dx aa p 256) 267,
   ⟨8192, 0, F0, rfl, by omega, by omega, zr, fun hf => by have := hF0 _ hf; omega, hJr, hg⟩, ?_⟩
  rintro n us x wq ⟨k, F, rfl, hk, hBq, hzq, hnF, hJq, hgq⟩
  refine Br.mk (fun hc => ?_) (fun hc => ?_)
  ·replace hc := eN hc
   have t1 : Int.tmod (k : Int) 256 = ((k % 256 : Nat) : Int) := by rw [Int.tmod_eq_emod_of_nonneg (by omega)]; omega
   have t2 : IntKind.wrap .i64 (Int.tdiv (k : Int) 256) = (k : Int) / 256 := by rw [Int.tdiv_eq_ediv_of_nonneg (by omega), wI]
   rw [t1, t2]
   have hk1 : (((k % 256 : Nat) : Int).toNat * 1) = k % 256 := by omega
   rw [hk1]
   have hget := tF aa p 256 (i := k % 256) (by omega)
   rw [if_pos (by omega)] at hget
   refine ⟨by omega, by omega, _, hgq.at _ hget, (Em _ _ (iK _ _ _) wq).mono ?_⟩
   rintro e w27 ⟨rfl, rfl⟩
   refine ⟨_, rfl, ?_⟩
   have hx : (um aa p)[k]? = some [.int .i64 (mu ((k : Int) / 256) (ground aa (cellAt p ((k % 256 : Nat) : Int)).1 (cellAt p ((k % 256 : Nat) : Int)).2.2))] := by
    unfold um; rw [List.getElem?_map, GU aa p (by omega)]; rfl
   refine pP (hround _ _ _ _ hx hJq) ?_
   have hwk : IntKind.wrap .i64 ((k : Int) + 1) = ((k + 1 : Nat) : Int) := by rw [wI]; omega
   rintro e w29 (⟨rfl, F2, hJ2, hst⟩ | ⟨rfl, F2, hJ2, hst⟩)
   ·refine ⟨true, rfl, Br.mk (fun h => by cases h) (fun _ => ⟨n - 1, by omega, k + 1, F2, hwk, by omega, by have := hst.size; omega, by have := hst.size; omega, fun hf => ?_, hJ2, hgq.same (hst.same _ hzq hnF)⟩)⟩
    rcases hst.sub _ hf with hf | hf
    ·exact hnF hf
    ·omega
   ·exact ⟨false, rfl, Br.mk (fun _ => ⟨⟨_, rfl⟩, .inr ⟨F2, hJ2⟩⟩) (fun h => by cases h)⟩
  ·replace hc := eO hc
   have hk8 : k = 8192 := by omega
   subst hk8
   exact ⟨⟨_, rfl⟩, .inl ⟨F, by rw [wB]; exact hJq⟩⟩
theorem uk (aa : Int) (p : Po) (w : World) : Calls Tryz.prog na #[aa, pv p] w fun e w' => e = .returned (Hp (w.heap.size + 1) w.heap.size) ∧ Row w' (w.heap.size + 1) [p.1, p.2] DR ∧ Row w' w.heap.size [aa] xN ∧ Ext w w' := by
 apply rE.vc
 intro w0 e0 w1 e1
 have z0 := dR e0
 have x1 : Ext w0 w1 := (Ext.aq _).ab e1
 have hb : Row w0 w.heap.size [aa] xN := by rw [e0]; exact Row.new w [_] _
 refine ⟨by rw [z0], ?_, hb.ext x1, ((Ext.aq w).ab e0).tr x1⟩
 rw [← z0, e1]; exact Row.new w0 [_, _] _
end Go.Proofs.YtalpkjfpmdpbiaaGreatDoor
namespace Go.Proofs.YtalpkjfpmdpbiaaGreatDoor
open Go Go.Vc Go.RowKit Go.Proofs Go.bQ Go.aB
theorem CC (s : Sl) (c : List Int) (w : World) (hs : Is 0 w s c) : Calls Tryz.prog fe #[s] w fun e w' => (∃ s' : Sl, e = .returned s' ∧ vE w s' c) ∧ w' = w := by
 apply gQ.vc
 have hn := vE.len hs.II
 have hcap : s.n ≤ s.c := by
  rcases af.form hs (by decide) with ⟨h, -⟩ | ⟨g0, cs, ha, hg0, hr, hc, hnc, -⟩
  ·rw [h]; exact Nat.le_refl _
  ·exact hnc
 have := ba.cut hs.II (m := s.n) (c' := s.n) (c'' := s.n) (by rw [List.length_map]; omega)
 rw [List.take_of_length_le (by rw [List.length_map]; omega)] at this
 exact ⟨by omega, by omega, by omega, by omega, ⟨⟨ai s.a 0 s.n 1, s.n, s.n⟩, rfl, this⟩, rfl⟩
attribute [local irreducible] made in
set_option maxRecDepth 100000 in
theorem sN (aa : Int) (p : Po) (hp : BH p) (w : World) : Calls Tryz.prog jF #[aa, pv p] w fun e w' => ∃ s' : Sl, e = .returned s' ∧ jG w.heap.size w' s' (bN (made aa p)) ∧ Ext w w' := by
 apply ri.vc
 intro w0 e0 w1 e1
 have z0 := dR e0
 have z1 : w1.heap.size = w.heap.size + 2 := by rw [e1]; simp [z0]
 have x01 : Ext w w1 := ((Ext.aq w).ab e0).ab e1
 refine (uk aa p w1).mono ?_
 rintro e w2 ⟨rfl, hbp, hbs, x2⟩
 have hlt := hbp.lt
 have xx := x01.tr x2
 have zz := xx.size
 refine ⟨_, rfl, x2.k, x2.k, ?_⟩
 refine ⟨um aa p, BP (w1.heap.size + 1) w1.heap.size, fun _ => False, fun n F s w' => (∀ i, F i ↔ s.ax = some i) ∧ Is (w2.heap.size + 2) w' s ((made aa p).take n) ∧ Ext w w' ∧ w2.heap.size + 2 ≤ w'.heap.size, fun _ _ _ _ => False,
  ?_, ?_, fun _ _ _ _ _ h => h.elim, ?_, fun _ _ _ _ h => h.elim, fun i hi => ⟨by rcases hi with h | h <;> omega, id, by rcases hi with h | h <;> omega, by rcases hi with h | h <;> omega, trivial⟩, ?_, ?_, ?_, trivial⟩
 ·intro x hx
  obtain ⟨b, _, rfl⟩ := List.mem_map.1 hx
  exact ⟨b, rfl⟩
 ·rintro n F s w3 w4 ⟨hF, ho, hbl, hz⟩ hbl2 hsame
  exact ⟨hF, af.bC ho fun i hi => hsame i ((hF i).2 hi), hbl.trans (Below.mono hbl2 zz), by have := hbl2.size; omega⟩
 ·rintro n F s w3 ⟨hF, ho, hbl, hz⟩ i hi
  have := ho.own.lt ((hF i).1 hi)
  omega
 ·intro w3 hbeg
  have hbel : Below w2.heap.size w2 w3 := hbeg.ext
  refine ⟨uo aa p hp _ _ w3 (hbp.ext hbel) (hbs.ext hbel), rfl, ?_, ?_, xx.trans (Below.mono hbel zz), by have := hbeg.size; omega⟩
  ·intro i; simp [Sl.ax]
  ·rw [List.take_zero]; exact af.nil
 ·rintro n F us o y w3 hx hI
  have hy : (made aa p)[n]? = some y := by
   unfold um at hx
   rw [List.getElem?_map, Option.map_eq_some_iff] at hx
   obtain ⟨b, hb, e⟩ := hx
   have : b = y := by simpa using e
   rw [← this]; exact hb
  refine ⟨Below.refl _ _, fun w4 hrec hI3 => ?_⟩
  obtain ⟨hF, ho, hbl, hz⟩ := hI3
  intro w5 e5
  have x5 : Ext w4 w5 := (Ext.aq _).ab e5
  have z5 := dR e5
  have hnl : n < 8192 := by have := (List.getElem?_eq_some_iff.1 hy).1; rw [dy] at this; exact this
  have hon := vE.len ho.II
  rw [List.length_take, dy] at hon
  obtain ⟨hp1, hres⟩ := (af.ext ho x5).append (bytes := 8) (news := iv y) (by omega) rfl (qe _ _) (by omega) (by omega)
  refine ⟨hp1, fun s5 w6 hr => ?_⟩
  obtain ⟨ho5, hn5, xb, hkp, hblk⟩ := hres s5 w6 hr
  have hob : ∀ i, o.ax = some i → w2.heap.size + 2 ≤ i ∧ i < w4.heap.size := fun i hi => ho.own.lt hi
  have hz6 := xb.size
  refine ⟨hkp _ (fun hb => by have := hob _ hb; omega) (by omega), hkp _ (fun hb => by have := hob _ hb; omega) (by omega), hkp _ (fun hb => by have := hob _ hb; omega) (by omega), ?_⟩
  intro w7 hw7
  have e7 : ∀ i, i ≠ w0.heap.size → w7.heap[i]? = w6.heap[i]? := fun i hi => by rw [hw7]; exact setRow_other _ _ _ _ hi
  have z7 : w7.heap.size = w6.heap.size := by rw [hw7, setRow_size]
  have hb5 : ∀ i, s5.ax = some i → w2.heap.size + 2 ≤ i := fun i hi => by
   rcases hblk with h | h
   ·exact (hob i (by rw [← h]; exact hi)).1
   ·rw [h] at hi; simp at hi; omega
  refine ⟨fun i => s5.ax = some i, ⟨rfl, fun i => Iff.rfl, ?_, ?_, by omega⟩, ⟨?_, by omega, ?_⟩⟩
  ·have e : (made aa p).take (n + 1) = (made aa p).take n ++ [y] := by rw [List.take_add_one, hy]; rfl
   rw [e]
   have h5 : Is (w2.heap.size + 2) w6 s5 ((made aa p).take n ++ [y]) := by
    show af _ _ 1 _ _ (((made aa p).take n ++ [y]).map iv)
    rw [List.map_append]; exact ho5
   exact af.bC h5 fun i hi => e7 i (by have := hb5 i hi; omega)
  ·have h5 : Ext w w6 := (hbl.tr x5).trans (Below.mono xb (by omega))
   rw [hw7]; exact h5.setRow (by omega) _
  ·rintro i (hi | hi)
   ·rcases hblk with h | h
    ·exact .inl (.inl ((hF i).2 (by rw [← h]; exact hi)))
    ·rw [h] at hi; simp at hi; exact .inr (by omega)
   ·exact .inl (.inr hi)
  ·intro i hi hni
   have h1 : i ≠ w0.heap.size := fun e => hni (.inr (by simp [e]))
   rw [e7 i h1, hkp i (fun hb => hni (.inl ((hF i).2 hb))) (by omega)]
   exact x5.heap hi
 ·rintro F us o w3 ⟨hF, ho, hbl, hz⟩ hD
  rw [wB, List.take_of_length_le (by rw [dy]; exact Nat.le_refl _)] at ho
  refine (CC o (made aa p) w3 (af.low ho (Nat.zero_le _))).mono ?_
  rintro e w4 ⟨⟨s4, rfl, hs4⟩, rfl⟩
  refine ⟨s4, rfl, rfl, rfl, (xM s4 (made aa p) w4 hs4 (by rw [dy]; decide)).mono ?_⟩
  rintro e w5 ⟨s5, rfl, ho5, x5⟩
  refine ⟨s5, rfl, x5.k, x5.k, (x5.k).trans hD, fun w6 hrec => ?_⟩
  have hz5 := x5.size
  have ho6 : jG w.heap.size w6 s5 (bN (made aa p)) := af.low (af.bC ho5 fun i hi => hrec.same i (by have := (ho5.own.lt hi).1; omega)) (by omega)
  exact ⟨s5, rfl, ho6, (hbl.tr x5).trans (Below.mono (hrec.below (Nat.le_refl _)) (by omega))⟩
end Go.Proofs.YtalpkjfpmdpbiaaGreatDoor
namespace Go.Proofs.YtalpkjfpmdpbiaaGreatDoor
open Go Go.Vc Go.RowKit Go.Proofs Go.bQ Go.aB
abbrev pN:TypeId:=183
structure vQ (w : World) (g : Nat) (s : Sl) (p : Po) (C : List Int) : Prop where
 row : Row w g [p.1, p.2, s] pN
 own : jG 0 w s (bN C)
 len : C.length = 8192
 may : ∀ b ∈ C, aC b = true
theorem vQ.bC {w w' : World} {g : Nat} {s : Sl} {p : Po} {C : List Int} (h : vQ w g s p C) {F : Nat → Prop} (hm : Mod F w w') (hg : ¬ F g) (hs : ∀ b, s.ax = some b → ¬ F b) : vQ w' g s p C :=
 ⟨hm.row h.row hg, hm.cr h.own hs, h.len, h.may⟩
theorem vQ.ext {w w' : World} {g : Nat} {s : Sl} {p : Po} {C : List Int} (h : vQ w g s p C) (x : Ext w w') : vQ w' g s p C := ⟨h.row.ext x, af.ext h.own x, h.len, h.may⟩
theorem vQ.bd {w : World} {g : Nat} {s : Sl} {p : Po} {C : List Int} (h : vQ w g s p C) : Bd C.length := by rw [h.len]; decide
def vG (p:Po) (c:Ce):Bool:=decide (0<=c.2.1)&& decide (c.2.1<32)&&(pos c==p)
theorem fp (p:Po) (c:Ce):vG p c=true ↔ fx c/\pos c=p:=by
 unfold vG fx
 simp only [Bool.and_eq_true,decide_eq_true_eq,beq_iff_eq]
def vF (p:Po) (C:List Int) (c:Ce):Int:=if vG p c then FT C (idx c)else 0
def fW (p:Po) (C:List Int) (c:Ce) (b:Int):List Int × Int:=if vG p c=false then (C,5)else if aC b=false then (C,1)else (C.set (idx c).toNat b,0)
theorem vA (p : Po) (c : Ce) (hc : pW c) (w : World) : Calls Tryz.prog cA #[pv p, mq c] w fun e w' => (∃ i, e = .returned (.tuple #[.int .i64 i, .bool (vG p c)]) ∧ (vG p c = true → i = idx c)) ∧ Ext w w' := by
 apply fj.vc
 intro w0 e0 w1 e1
 have z0 := dR e0
 have z1 : w1.heap.size = w.heap.size + 2 := by rw [e1]; simp [z0]
 have x1 : Ext w w1 := ((Ext.aq w).ab e0).ab e1
 have hb : Row w1 w.heap.size [p.1, p.2] 181 := (by rw [e0]; exact Row.new w [_, _] _ : Row w0 w.heap.size [p.1, p.2] 181).ext ((Ext.aq _).ab e1)
 refine (sM c w1).mono ?_
 rintro e w2 ⟨⟨i, b, rfl, hi⟩, x2⟩
 have z2 := x2.size
 refine ⟨i, b, rfl, x2.k, x2.k, Br.mk (fun hbb => ?_) (fun hbb => ?_)⟩
 ·rcases hi with ⟨-, hy, rfl⟩ | ⟨h, -⟩
  ·refine (jA c hc w2.drew).mono ?_
   rintro e w5 ⟨rfl, x5⟩
   refine ⟨_, _, rfl, x5.heap (show w.heap.size < w2.heap.size by omega), x5.heap (show w0.heap.size < w2.heap.size by omega), ((hb.ext x2).ext (Ext.dr _) |>.ext x5).aX (fun j hj => by rw [Nat.zero_add]), ?_, (x1.tr x2).tr ((Ext.dr _).tr x5)⟩
   refine ⟨_, ?_, fun _ => rfl⟩
   have : vG p c = (((pos c).1 == p.1) && ((pos c).2 == p.2)) := by
    unfold vG
    unfold fx at hy
    rw [decide_eq_true hy.1, decide_eq_true hy.2]
    rfl
   rw [this]
  ·rw [h] at hbb; cases hbb
 ·rcases hi with ⟨h, -⟩ | ⟨-, hy, rfl⟩
  ·rw [h] at hbb; cases hbb
  ·have : vG p c = false := by
    cases hk : vG p c with
    | false => rfl
    | true => exact absurd ((fp p c).1 hk).1 hy
   rw [this]
   exact ⟨⟨_, rfl, fun h => by cases h⟩, (x1.tr x2).drew⟩
theorem GZ (y g:Int):aC (mu y g)=true:=by
 rcases C5 y g with h|h|h|h|h<;>rw [h]<;>decide+kernel
theorem zj (aa:Int) (p:Po):∀b ∈ made aa p,aC b=true:=by
 intro b hb
 unfold made at hb
 obtain ⟨i,_,rfl⟩:=List.mem_map.1 hb
 exact GZ _ _
theorem AW (aa : Int) (p : Po) (hp : BH p) (w : World) : Calls Tryz.prog lB #[aa, pv p] w fun e w' => ∃ g s, e = .returned (.pointer (some ⟨g, 0, none⟩)) ∧ vQ w' g s p (made aa p) ∧ Ext w w' ∧ w.heap.size ≤ g ∧ ∀ b, s.ax = some b → w.heap.size ≤ b := by
 apply pA.vc
 intro w0 e0
 have x0 : Ext w w0 := (Ext.aq w).ab e0
 have z0 := dR e0
 have hb : Row w0 w.heap.size [p.1, p.2] DR := by rw [e0]; exact Row.new w [_, _] _
 have fin : ∀ {w1 w3 : World} {s : Sl}, Ext w0.drew w1 → jG w0.drew.heap.size w1 s (bN (made aa p)) → w3 = w1.alloc (.cells #[p.1, p.2, .slice s.a s.n s.c] pN) → vQ w3 w1.heap.size s p (made aa p) ∧ Ext w w3 ∧ w.heap.size ≤ w1.heap.size ∧ ∀ b, s.ax = some b → w.heap.size ≤ b := fun {w1 w3 s} x1 ho e3 => by
  have x3 : Ext w1 w3 := (Ext.aq _).ab e3
  refine ⟨⟨by rw [e3]; exact Row.new w1 [_, _, _] _, (af.low ho (Nat.zero_le _)).ext x3, dy _ _, zj _ _⟩, ((x0.drew).tr x1).tr x3, (x0.drew.tr x1).size, fun b hb => Nat.le_trans x0.drew.size (ho.own.lt hb).1⟩
 refine ⟨(sN aa p hp w0.drew).mono ?_, (sN aa p hp w0.drew).mono ?_⟩
 ·rintro e w1 ⟨s, rfl, ho, x1⟩
  refine ⟨s, rfl, x1.heap (show w.heap.size < w0.heap.size by omega), fun w3 e3 => ⟨_, s, rfl, fin x1 ho e3⟩⟩
 ·rintro e w1 ⟨s, rfl, ho, x1⟩
  refine ⟨s, rfl, x1.heap (show w.heap.size < w0.heap.size by omega), ((hb.ext (Ext.dr _)).ext x1).aX (fun j hj => by rw [Nat.zero_add]), fun w3 e3 => ⟨_, s, rfl, fin x1 ho e3⟩⟩
end Go.Proofs.YtalpkjfpmdpbiaaGreatDoor
namespace Go.Proofs.YtalpkjfpmdpbiaaGreatDoor
open Go Go.Vc Go.RowKit Go.Proofs Go.bQ Go.aB
theorem vQ.pos {w : World} {g : Nat} {s : Sl} {p : Po} {C : List Int} (h : vQ w g s p C) : aj w (ae (some ⟨g, 0, none⟩) 0) 0 [p.1, p.2] := by
 rw [aP]
 exact h.row.aX (fun j hj => by
  simp at hj
  rcases j with _ | _ | j
  ·rfl
  ·rfl
  ·omega)
theorem DP {C:List Int} (h:C.length=8192):(∀r ∈ bN C,0<=r.1)/\aF (bN C)<=1099511627776/\Bd (bN C).length:=by
 refine ⟨fun r hr=>by have:=(gm hr).1;omega,by rw [gF,h];decide,?_⟩
 have:=jE C
 show (bN C).length<=1099511627776
 omega
theorem tE {w : World} {g : Nat} {s : Sl} {p : Po} {C : List Int} (h : vQ w g s p C) (c : Ce) (hc : pW c) : Calls Tryz.prog dO #[.pointer (some ⟨g, 0, none⟩), mq c] w fun e w' => e = .returned (.tuple #[.int .i64 (vF p C c), .bool (vG p c)]) ∧ Ext w w' := by
 apply jd.vc
 intro w0 e0
 have x0 : Ext w w0.drew := (Ext.aq w |>.ab e0).drew
 have z0 := dR e0
 have h0 := h.ext x0
 refine ⟨p.1, p.2, h0.pos, (vA p c hc w0.drew).mono ?_⟩
 rintro e w3 ⟨⟨i, rfl, hi⟩, x3⟩
 have h3 := h0.ext x3
 have z3 := x3.size
 refine ⟨i, _, rfl, x3.heap (show w.heap.size < w0.heap.size by omega), Br.mk (fun hb => ?_) (fun hb => ?_)⟩
 ·have hf : vG p c = false := by simpa using hb
  refine ⟨?_, x0.tr x3⟩
  unfold vF
  rw [hf]; rfl
 ·have hk : vG p c = true := by simpa using hb
  have hie := hi hk
  subst hie
  have hidx := pM ((fp p c).1 hk).1
  obtain ⟨q1, q2, q3⟩ := DP h.len
  refine ⟨s, h3.row.at 2 rfl, (yw s (bN C) (idx c) w3 (jG.pa h3.own) q3 q1 q2 (by unfold inI; omega)).mono ?_⟩
  rintro e w7 ⟨rfl, x7⟩
  refine ⟨_, rfl, x7.heap (Nat.lt_of_lt_of_le (show w.heap.size < w0.heap.size by omega) z3), ?_, (x0.tr x3).tr x7⟩
  rw [iL]
  unfold vF
  rw [hk]; rfl
theorem BS {p:Po} {C:List Int} (hl:C.length=8192) (hm:∀b ∈ C,aC b=true) (c:Ce) (b:Int):(fW p C c b).1.length=8192/\∀x ∈(fW p C c b).1,aC x=true:=by
 unfold fW
 split
 ·exact ⟨hl,hm⟩
 ·split
  ·exact ⟨hl,hm⟩
  ·rename_i h
   refine ⟨by rw [List.length_set];exact hl,fun x hx=> ?_⟩
   rcases List.mem_or_eq_of_mem_set hx with h1|h1
   ·exact hm x h1
   ·subst h1;simpa using h
theorem EO {w : World} {g : Nat} {s : Sl} {p : Po} {C : List Int} (h : vQ w g s p C) (c : Ce) (hc : pW c) (b : Int) :
  Calls Tryz.prog dj #[.pointer (some ⟨g, 0, none⟩), mq c, b] w fun e w' => e = .returned (.int .i64 (fW p C c b).2) ∧ ∃ s', vQ w' g s' p (fW p C c b).1 ∧ Mod (fun i => i = g) w w' ∧ (∀ i, s'.ax = some i → s.ax = some i ∨ w.heap.size ≤ i) := by
 apply gV.vc
 intro w0 e0
 have x0 : Ext w w0.drew := (Ext.aq w |>.ab e0).drew
 have z0 := dR e0
 have hgl := h.row.lt
 have h0 := h.ext x0
 refine ⟨p.1, p.2, h0.pos, (vA p c hc w0.drew).mono ?_⟩
 rintro e w3 ⟨⟨i, rfl, hi⟩, x3⟩
 have h3 := h0.ext x3
 have z3 := x3.size
 have z3' : w.heap.size < w3.heap.size := Nat.lt_of_lt_of_le (show w.heap.size < w0.heap.size by omega) z3
 refine ⟨i, _, rfl, x3.heap (show w.heap.size < w0.heap.size by omega), Br.mk (fun hb => ?_) (fun hb => ?_)⟩
 ·have hf : vG p c = false := by simpa using hb
  have e : fW p C c b = (C, 5) := by unfold fW; rw [if_pos hf]
  rw [e]
  exact ⟨rfl, s, h3, Mod.ar (x0.tr x3), fun i hi => .inl hi⟩
 ·have hk : vG p c = true := by simpa using hb
  have hie := hi hk
  subst hie
  have hidx := pM ((fp p c).1 hk).1
  refine (dG b w3).mono ?_
  rintro e w6 ⟨rfl, x6⟩
  have h6 := h3.ext x6
  have z6 := x6.size
  refine ⟨_, rfl, x6.heap z3', Br.mk (fun hb2 => ?_) (fun hb2 => ?_)⟩
  ·have hf : aC b = false := by simpa using hb2
   have e : fW p C c b = (C, 1) := by unfold fW; rw [if_neg (by simp [hk]), if_pos hf]
   rw [e]
   exact ⟨rfl, s, h6, Mod.ar ((x0.tr x3).tr x6), fun i hi => .inl hi⟩
  ·have hm : aC b = true := by simpa using hb2
   have e : fW p C c b = (C.set (idx c).toNat b, 0) := by unfold fW; rw [if_neg (by simp [hk]), if_neg (by simp [hm])]
   refine ⟨s, h6.row.at 2 rfl, (vZ s C (idx c) b w6 (jG.pa h6.own) h.bd (by unfold inI; omega)).mono ?_⟩
   rintro e9 w9 ⟨s10, rfl, ho, x9⟩
   have hs : DB C (idx c) b = C.set (idx c).toNat b := by unfold DB; rw [if_pos ⟨hm, hidx.1, by rw [h.len]; omega⟩]
   rw [hs] at ho
   obtain ⟨p1, p2⟩ := (h6.row.ext x9).iR (j := 2) (v := .slice s10.a s10.n s10.c) (by simp) rfl
   refine ⟨s10, rfl, x9.k, ⟨rfl, p1⟩, ?_, fun w11 e11 => ?_⟩
   ·rw [br]
    intro e
    have : g = w.heap.size := by simpa [bD] using e
    omega
   ·obtain ⟨q1, q2⟩ := p2 w11 e11
    have hok := BS (p := p) h.len h.may c b
    rw [e] at hok ⊢
    refine ⟨rfl, s10, ⟨q1, q2.cr (af.low ho (Nat.zero_le _)) fun i hi hf => ?_, hok.1, hok.2⟩, (Mod.ar (((x0.tr x3).tr x6).tr x9)).trans q2, fun i hi => .inr ?_⟩
    ·obtain ⟨cs, hr⟩ := au ho (by decide) hi
     exact hr.ne (h6.row.ext x9) (by decide) hf
    ·have := (ho.own.lt hi).1
     have := (x0.tr x3).size
     omega
theorem o4 (p : Po) (w : World) : Calls Tryz.prog bM #[pv p] w fun e w' => e = .returned (pv p) ∧ Ext w w' := by
 apply fi.vc
 intro w0 e0 w1 e1 w2 e2
 have z0 := dR e0
 exact ⟨rfl, (((Ext.aq w).ab e0).ab e1).ah e2 (by omega)⟩
end Go.Proofs.YtalpkjfpmdpbiaaGreatDoor
namespace Go.Proofs.YtalpkjfpmdpbiaaGreatDoor
open Go Go.Vc Go.RowKit Go.Proofs Go.bQ Go.aB
end Go.Proofs.YtalpkjfpmdpbiaaGreatDoor
namespace Go.Proofs.YtalpkjfpmdpbiaaGreatDoor
open Go Go.Vc Go.RowKit Go.Proofs Go.bQ Go.aB
end Go.Proofs.YtalpkjfpmdpbiaaGreatDoor
namespace Go.Proofs.YtalpkjfpmdpbiaaGreatDoor
open Go Go.Vc Go.RowKit Go.Proofs Go.bQ Go.aB
abbrev kv (p:Po) (s:Sl):Value:=.agg #[p.1,p.2,s]
end Go.Proofs.YtalpkjfpmdpbiaaGreatDoor
namespace Go.Proofs.YtalpkjfpmdpbiaaGreatDoor
open Go Go.Vc Go.RowKit Go.Proofs Go.bQ Go.aB
end Go.Proofs.YtalpkjfpmdpbiaaGreatDoor
namespace Go.Proofs.YtalpkjfpmdpbiaaGreatDoor
open Go Go.Vc Go.RowKit Go.Proofs Go.bQ Go.aB
theorem A6 (aa : Int) (p : Po) (hp : BH p) (w : World) : Calls Tryz.prog qt #[aa, pv p] w fun e w' => ∃ s, e = .returned (kv p s) ∧ jG w.heap.size w' s (bN (made aa p)) ∧ Ext w w' := by
 apply pC.vc
 intro w0 e0 w1 e1
 have z0 := dR e0
 have z1 : w1.heap.size = w.heap.size + 2 := by rw [e1]; simp [z0]
 have x1 : Ext w w1.drew := (((Ext.aq w).ab e0).ab e1).drew
 have hb : Row w1.drew w.heap.size [p.1, p.2] DR := ((by rw [e0]; exact Row.new w [_, _] _ : Row w0 w.heap.size [p.1, p.2] DR).ext ((Ext.aq _).ab e1)).ext (Ext.dr _)
 refine (vV aa p hp w1.drew).mono ?_
 rintro e w2 ⟨s, rfl, ho, x2⟩
 have zd : w1.drew.heap.size = w1.heap.size := rfl
 refine ⟨s, rfl, x2.k, x2.k, (hb.ext x2).aX (fun j hj => by rw [Nat.zero_add]), fun w4 e4 => ?_⟩
 refine ⟨s, rfl, ?_, (x1.tr x2).ah e4 (by omega)⟩
 have := af.bC ho (w' := w4) fun b hb => by rw [e4]; exact setRow_other _ _ _ _ (by have := (ho.own.lt hb).1; omega)
 exact af.low this (by omega)
end Go.Proofs.YtalpkjfpmdpbiaaGreatDoor
namespace Go.Proofs.YtalpkjfpmdpbiaaGreatDoor
open Go Go.Vc Go.RowKit Go.Proofs Go.bQ Go.aB
end Go.Proofs.YtalpkjfpmdpbiaaGreatDoor
namespace Go.Proofs.YtalpkjfpmdpbiaaGreatDoor
open Go Go.Vc Go.RowKit Go.Proofs Go.bQ Go.aB Go.Code
def FP (w:World) (p:Po) (l:List Rn) (e:Ending) (w':World):Prop:=
 (j3 aC l 8192=true/\∃g sg,e=.returned (.tuple #[.pointer (some ⟨g,0,none⟩),(0:Int)])/\vQ w' g sg p (aH l)/\w.heap.size<=g/\∀b,sg.ax=some b->w.heap.size<=b)\/
 (j3 aC l 8192=false/\e=.returned (.tuple #[.pointer none,(1:Int)]))
theorem uO (p : Po) (s : Sl) (l : List Rn) (w : World) (hs : dT w s l) (hn : Bd l.length) : Calls Tryz.prog m7 #[pv p, s] w fun e w' => FP w p l e w' ∧ Ext w w' := by
 apply rC.vc
 intro w0 e0
 have z0 := dR e0
 have x0 : Ext w w0 := (Ext.aq w).ab e0
 have hb0 : Row w0 w.heap.size [p.1, p.2] DR := by rw [e0]; exact Row.new w [_, _] _
 clear e0
 refine (oS s l 8192 w0 (ba.ext hs x0) hn (by unfold inI; omega)).mono ?_
 rintro e w1 ⟨rfl, x1⟩
 have z1 := x1.size
 have zd : w1.drew.heap.size = w1.heap.size := rfl
 refine ⟨_, rfl, x1.k, Br.mk (fun hb => ?_) (fun hb => ?_)⟩
 ·have hf : j3 aC l 8192 = false := by simpa using hb
  exact ⟨.inr ⟨hf, rfl⟩, x0.tr x1⟩
 ·have ht : j3 aC l 8192 = true := by simpa using hb
  obtain ⟨i1, i2, i3⟩ := uQ ht
  have xd := (x0.tr x1).drew
  have fin : ∀ {w3 w5 : World} {s4 : Sl}, Ext w1.drew w3 → jG w1.drew.heap.size w3 s4 l → w5 = w3.alloc (.cells #[p.1, p.2, s4] pN) → FP w p l (.returned (.tuple #[.pointer (some ⟨w3.heap.size, 0, none⟩), (0:Int)])) w5 ∧ Ext w w5 := fun {w3 w5 s4} x3 ho e5 => by
   have x5 : Ext w3 w5 := (Ext.aq _).ab e5
   have z3 := x3.size
   refine ⟨.inl ⟨ht, _, s4, rfl, ⟨by rw [e5]; exact Row.new w3 [_, _, _] _, ?_, by omega, i2⟩, by omega, fun b hb => by have := (ho.own.lt hb).1; omega⟩, xd.tr (x3.tr x5)⟩
   rw [i1]
   exact (af.low ho (Nat.zero_le _)).ext x5
  refine ⟨(ga s l w1.drew (ba.ext hs xd) hn).mono ?_, (ga s l w1.drew (ba.ext hs xd) hn).mono ?_⟩
  ·rintro e w3 ⟨s4, rfl, ho, x3⟩
   exact ⟨s4, rfl, x3.k, fun w5 e5 => fin x3 ho e5⟩
  ·rintro e w3 ⟨s4, rfl, ho, x3⟩
   exact ⟨s4, rfl, x3.k, ((hb0.ext x1.drew).ext x3).aX (fun j hj => by rw [Nat.zero_add]), fun w5 e5 => fin x3 ho e5⟩
def G9 (w:World) (p:Po) (b:List Int) (e:Ending) (w':World):Prop:=
 ((bh aC b 8192).2=0/\∃g sg,e=.returned (.tuple #[.pointer (some ⟨g,0,none⟩),(0:Int)])/\vQ w' g sg p (aH (bh aC b 8192).1)/\w.heap.size<=g/\bN (aH (bh aC b 8192).1)=(bh aC b 8192).1/\∀b,sg.ax=some b->w.heap.size<=b)\/
 ((bh aC b 8192).2≠0/\e=.returned (.tuple #[.pointer none,.int .i64 (bh aC b 8192).2]))
theorem CM (p : Po) (s : Sl) (b : List Int) (w : World) (hs : cJ w s b) (hb : FR b) (hc : s.n ≤ s.c) (hl : b.length ≤ 1099511627776) : Calls Tryz.prog lA #[pv p, s] w fun e w' => G9 w p b e w' ∧ Ext w w' := by
 apply pz.vc
 intro w0 e0
 have z0 := dR e0
 have x0 : Ext w w0 := (Ext.aq w).ab e0
 clear e0
 refine (vz s b 8192 w0 (ba.ext hs x0) hb hc hl (by decide) (by unfold inI; omega)).mono ?_
 rintro e w1 ⟨⟨s2, rfl, ho⟩, x1⟩
 have z1 := x1.size
 have hlen := Dz (may := aC) b 8192
 have hag := sV (b := b) (n := 8192) hb (by decide)
 refine ⟨s2, _, rfl, x1.k, Br.mk (fun hne => ?_) (fun hne => ?_)⟩
 ·exact ⟨.inr ⟨by simpa using hne, rfl⟩, x0.tr x1⟩
 ·have h0 : (bh aC b 8192).2 = 0 := by simpa using hne
  obtain ⟨f1, f2, f3⟩ := hag h0
  have hm : j3 aC (bh aC b 8192).1 8192 = true := by
   have := f2.j3 (by omega)
   rw [f3] at this; exact this
  refine (uO p s2 _ w1 (jG.pa ho) (by show _ ≤ _; omega)).mono ?_
  rintro e w4 ⟨hr, x4⟩
  rcases hr with ⟨-, g, sg, rfl, hk, hg, hgb⟩ | ⟨hf, -⟩
  ·exact ⟨_, _, rfl, x4.k, .inl ⟨h0, g, sg, rfl, hk, by omega, (uQ hm).1, fun b hb => by have := hgb b hb; omega⟩, x0.tr (x1.tr x4)⟩
  ·rw [hm] at hf; cases hf
end Go.Proofs.YtalpkjfpmdpbiaaGreatDoor
namespace Go.Proofs.YtalpkjfpmdpbiaaGreatDoor
open Go Go.Vc Go.RowKit Go.Proofs Go.bQ Go.aB Go.Code
theorem wL {C : List Int} (hl : C.length = 8192) (hm : ∀ b ∈ C, aC b = true) : okW aC (bN C) = true ∧ bN C ≠ [] ∧ dE aC (-1) (bN C) ∧ aF (bN C) = 8192 := by
 have hs : aF (bN C) = 8192 := by rw [gF, hl]; rfl
 have hne : bN C ≠ [] := by
  intro e
  rw [e] at hs
  cases hs
 have hc : ∀ r ∈ bN C, aC r.2 = true := fun r hr => by
  refine hm _ ?_
  have := CQ hr (gm hr).1
  rwa [iL] at this
 refine ⟨HM (uL C) hc (by omega) hne, hne, ?_, hs⟩
 refine dE.of (fun r hr => ?_) (uL C).next (fun r hr => ?_)
 ·have h1 := gm hr
  have h2 := hc r hr
  have h3 := h2
  unfold aC at h3
  simp only [Bool.and_eq_true, decide_eq_true_eq] at h3
  exact ⟨h1.1, by omega, by omega, by omega, h2⟩
 ·have h2 := hc r (List.mem_of_mem_head? hr)
  unfold aC at h2
  simp only [Bool.and_eq_true, decide_eq_true_eq] at h2
  omega
theorem CR {C:List Int} (hl:C.length=8192) (hm:∀b ∈ C,aC b=true):∀r ∈ bN C,inI r.1/\inI r.2:=CS (wL hl hm).2.2.1
theorem AL {w : World} {g : Nat} {s : Sl} {p : Po} {C : List Int} (h : vQ w g s p C) : Calls Tryz.prog dZ #[.pointer (some ⟨g, 0, none⟩)] w fun e w' => ∃ s' : Sl, e = .returned s' ∧ jX w.heap.size w' s' (k7 (bN C)) ∧ Ext w w' := by
 apply fk.vc
 have hlen := jE C
 have hl := h.len
 refine ⟨s, h.row.at 2 rfl, (tn s (bN C) w (jG.pa h.own) (by omega) (CR h.len h.may)).mono ?_⟩
 rintro e w1 ⟨⟨s2, rfl, ho⟩, x1⟩
 rw [if_pos (wL h.len h.may).1] at ho
 exact ⟨s2, _, rfl, s2, rfl, ho, x1⟩
end Go.Proofs.YtalpkjfpmdpbiaaGreatDoor
