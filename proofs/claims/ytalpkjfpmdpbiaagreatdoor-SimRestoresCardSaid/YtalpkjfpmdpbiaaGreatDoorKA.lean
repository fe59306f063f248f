import Derived.Test.YtalpkjfpmdpbiaaGreatDoorR
import Derived.Test.YtalpkjfpmdpbiaaGreatDoorP
import Derived.Test.YtalpkjfpmdpbiaaGreatDoorQ
set_option linter.all false
namespace Go.Proofs.YtalpkjfpmdpbiaaGreatDoor
open Go Go.Vc Go.RowKit Go.Proofs Go.bY
abbrev pv(p:Po):Value:=.agg #[p.1,p.2]
abbrev iR(c:Ce):Value:=.agg #[c.1,c.2.1,c.2.2]
abbrev jY:TypeId:=23
abbrev FR:TypeId:=89
theorem pq (a b : Int) (ha : inI a) (hb : 0 < b) (w : World) : Calls Tryz.prog gl #[a, b] w fun e w' => e = .returned (.int .i64 (a / b)) ∧ w' = w := by
 apply v9.vc
 obtain ⟨h1, h2, h3, h4⟩ := KM (a := a) hb
 have hq := DL ha hb
 have ht := DM ha hb
 refine Br.mk (fun h => ?_) (fun _ => aG.2 ⟨lP.2 (by omega), aG.2 ⟨lP.2 (by omega), Br.mk (fun h => ?_) (fun h => ?_)⟩⟩)
 ·simp only [decide_eq_true_eq] at h; omega
 ·replace h := dj h
  rw [aj ht, ← (h1 h).1, aj hq]; exact ⟨rfl, rfl⟩
 ·replace h := dH h
  rw [aj ht, ← (h2 (by omega)).1]; exact ⟨rfl, rfl⟩
theorem pw (a b : Int) (hb : 0 < b) (hb' : b ≤ 1000000) (w : World) : Calls Tryz.prog gm #[a, b] w fun e w' => e = .returned (.int .i64 (a % b)) ∧ w' = w := by
 apply wc.vc
 obtain ⟨h1, h2, h3, h4⟩ := KM (a := a) hb
 refine Br.mk (fun h => ?_) (fun _ => aG.2 ⟨lP.2 (by omega), Br.mk (fun h => ?_) (fun h => ?_)⟩)
 ·simp only [decide_eq_true_eq] at h; omega
 ·replace h := dj h
  rw [wI, ← (h1 h).2]; exact ⟨rfl, rfl⟩
 ·replace h := dH h
  rw [← (h2 (by omega)).2]; exact ⟨rfl, rfl⟩
theorem fk (a b : Int) (hb : 0 < b) (hb' : b ≤ 1000000) (w : World) : Calls Tryz.prog fm #[a, b] w fun e w' => e = .returned (.int .i64 (a % b)) ∧ w' = w := by
 apply tf.vc
 obtain ⟨h1, h2, h3, h4⟩ := KM (a := a) hb
 refine Br.mk (fun h => ?_) (fun _ => aG.2 ⟨lP.2 (by omega), Br.mk (fun h => ?_) (fun h => ?_)⟩)
 ·simp only [decide_eq_true_eq] at h; omega
 ·replace h := dj h
  rw [wI, ← (h1 h).2]; exact ⟨rfl, rfl⟩
 ·replace h := dH h
  rw [← (h2 (by omega)).2]; exact ⟨rfl, rfl⟩
theorem CF (a b : Int) (ha : inI a) (hb : 0 < b) (w : World) : Calls Tryz.prog nN #[a, b] w fun e w' => e = .returned (.int .i64 (a / b)) ∧ w' = w := by
 apply px.vc
 obtain ⟨h1, h2, h3, h4⟩ := KM (a := a) hb
 have hq := DL ha hb
 have ht := DM ha hb
 have hm : b * a.tdiv b + a.tmod b = a := Int.mul_tdiv_add_tmod a b
 have hsg : (0 ≤ a → 0 ≤ a.tmod b) ∧ (a ≤ 0 → a.tmod b ≤ 0) := by
  refine ⟨fun h => Int.tmod_nonneg b h, fun h => ?_⟩
  have := Int.tmod_nonneg (a := -a) b (by omega)
  rw [Int.neg_tmod] at this; omega
 have hmul : a.tdiv b * b = a - a.tmod b := by rw [Int.mul_comm]; omega
 have hin : inI (a.tdiv b * b) := by
  rw [hmul]
  unfold inI at *
  rcases Int.lt_or_le a 0 with h | h
  ·have := hsg.2 (by omega)
   have := (KM (a := a) hb)
   have hle : a - a.tmod b ≤ 0 := by
    rcases Int.lt_or_le 0 (a - a.tmod b) with h5 | h5
    ·exfalso
     rw [← hmul] at h5
     have h6 : a.tdiv b ≤ 0 := by
      have := Int.tdiv_nonneg (a := -a) (b := b) (by omega) (by omega)
      rw [Int.neg_tdiv] at this; omega
     have := Int.mul_nonpos_of_nonpos_of_nonneg h6 (by omega : 0 ≤ b)
     omega
    ·exact h5
   omega
  ·have := hsg.1 h
   have h6 : 0 ≤ a.tdiv b := Int.tdiv_nonneg h (by omega)
   have := Int.mul_nonneg h6 (by omega : 0 ≤ b)
   omega
 rw [px.pre, aj ht, aj hin]
 refine aG.2 ⟨lP.2 (by omega), Br.mk (fun h => ?_) (fun h => ?_)⟩
 ·simp only [decide_eq_true_eq, gt_iff_lt] at h
  rw [← (h1 (by omega)).1, aj hq]; exact ⟨rfl, rfl⟩
 ·simp only [decide_eq_false_iff_not, gt_iff_lt] at h
  rw [← (h2 (by omega)).1]; exact ⟨rfl, rfl⟩
theorem py (a b : Int) (ha : inI a) (hb : 0 < b) (w : World) : Calls Tryz.prog bz #[a, b] w fun e w' => e = .returned (.int .i64 (a / b)) ∧ w' = w := by
 apply tg.vc
 refine Br.mk (fun h => ?_) (fun _ => (CF a b ha hb w).mono ?_)
 ·simp only [decide_eq_true_eq] at h; omega
 ·rintro e w0 ⟨rfl, rfl⟩
  exact ⟨_, rfl, rfl, rfl⟩
def lx(c:Ce):Prop:=inI c.1/\inI c.2.1/\inI c.2.2
theorem uP (c : Ce) (w : World) : Calls Tryz.prog ja #[iR c] w fun e w' => (∃ i b, e = .returned (.tuple #[.int .i64 i, .bool b]) ∧ ((b = true ∧ ig c ∧ i = idx c) ∨ (b = false ∧ ¬ ig c ∧ i = 0))) ∧ Ext w w' := by
 apply qt.vc
 intro w0 e0
 have x0 : Ext w w0 := (Ext.ao w).aa e0
 have hb : Row w0 w.heap.size [c.1, c.2.1, c.2.2] jY := by rw [e0]; exact Row.new w [_, _, _] _
 have hbd := hb.ext (Ext.dr w0)
 refine Br.mk (fun h => ?_) (fun h => Br.mk (fun h2 => ?_) (fun h2 => ?_)) <;> simp only [decide_eq_true_eq, decide_eq_false_iff_not] at *
 ·exact ⟨⟨_, _, rfl, .inr ⟨rfl, by unfold ig; omega, rfl⟩⟩, x0⟩
 ·exact ⟨⟨_, _, rfl, .inr ⟨rfl, by unfold ig; omega, rfl⟩⟩, x0⟩
 ·refine (pw c.2.2 16 (by decide) (by decide) w0.drew).mono ?_
  rintro e w1 ⟨rfl, rfl⟩
  refine ⟨_, rfl, rfl, hbd.aL (fun j hj => by simp at hj; subst hj; rfl), hbd.aL (fun j hj => by simp at hj; subst hj; rfl), (pw c.1 16 (by decide) (by decide) _).mono ?_⟩
  rintro e w1 ⟨rfl, rfl⟩
  have e1 : IntKind.wrap .i64 (c.2.1 * 16) = c.2.1 * 16 := wI
  have e2 : IntKind.wrap .i64 (c.2.1 * 16 + c.2.2 % 16) = c.2.1 * 16 + c.2.2 % 16 := wI
  have e3 : IntKind.wrap .i64 ((c.2.1 * 16 + c.2.2 % 16) * 16) = (c.2.1 * 16 + c.2.2 % 16) * 16 := wI
  have e4 : IntKind.wrap .i64 ((c.2.1 * 16 + c.2.2 % 16) * 16 + c.1 % 16) = idx c := wI
  refine ⟨_, rfl, rfl, hbd.aL (fun j hj => by simp at hj; subst hj; rfl), ?_, x0.drew⟩
  rw [e1, e2, e3, e4]
  exact ⟨_, _, rfl, .inl ⟨rfl, by unfold ig; omega, rfl⟩⟩
theorem zY (c : Ce) (w : World) : Calls Tryz.prog kJ #[iR c] w fun e w' => (∃ i b, e = .returned (.tuple #[.int .i64 i, .bool b]) ∧ ((b = true ∧ ig c ∧ i = idx c) ∨ (b = false ∧ ¬ ig c ∧ i = 0))) ∧ Ext w w' := by
 apply nO.vc
 intro w0 e0
 have x0 : Ext w w0 := (Ext.ao w).aa e0
 have hb : Row w0 w.heap.size [c.1, c.2.1, c.2.2] jY := by rw [e0]; exact Row.new w [_, _, _] _
 have hbd := hb.ext (Ext.dr w0)
 refine Br.mk (fun h => ?_) (fun h => Br.mk (fun h2 => ?_) (fun h2 => ?_)) <;> simp only [decide_eq_true_eq, decide_eq_false_iff_not] at *
 ·exact ⟨⟨_, _, rfl, .inr ⟨rfl, by unfold ig; omega, rfl⟩⟩, x0⟩
 ·exact ⟨⟨_, _, rfl, .inr ⟨rfl, by unfold ig; omega, rfl⟩⟩, x0⟩
 ·refine (fk c.2.2 16 (by decide) (by decide) w0.drew).mono ?_
  rintro e w1 ⟨rfl, rfl⟩
  refine ⟨_, rfl, rfl, hbd.aL (fun j hj => by simp at hj; subst hj; rfl), hbd.aL (fun j hj => by simp at hj; subst hj; rfl), (fk c.1 16 (by decide) (by decide) _).mono ?_⟩
  rintro e w1 ⟨rfl, rfl⟩
  have e1 : IntKind.wrap .i64 (c.2.1 * 256) = c.2.1 * 256 := wI
  have e2 : IntKind.wrap .i64 (c.2.2 % 16 * 16) = c.2.2 % 16 * 16 := wI
  have e3 : IntKind.wrap .i64 (c.2.1 * 256 + c.2.2 % 16 * 16) = c.2.1 * 256 + c.2.2 % 16 * 16 := wI
  have e4 : IntKind.wrap .i64 (c.2.1 * 256 + c.2.2 % 16 * 16 + c.1 % 16) = idx c := by rw [wI]; unfold idx; omega
  refine ⟨_, rfl, rfl, hbd.aL (fun j hj => by simp at hj; subst hj; rfl), ?_, x0.drew⟩
  rw [e1, e2, e3, e4]
  exact ⟨_, _, rfl, .inl ⟨rfl, by unfold ig; omega, rfl⟩⟩
theorem j7 (c : Ce) (hc : lx c) (w : World) : Calls Tryz.prog eg #[iR c] w fun e w' => e = .returned (pv (pos c)) ∧ Ext w w' := by
 apply qu.vc
 intro w0 e0 w1 e1
 have x1 : Ext w w1.drew := (((Ext.ao w).aa e0).aa e1).drew
 have z0 := cL e0
 have hb : Row w1.drew w.heap.size [c.1, c.2.1, c.2.2] jY := ((by rw [e0]; exact Row.new w [_, _, _] _ : Row w0 w.heap.size [c.1, c.2.1, c.2.2] jY).ext ((Ext.ao _).aa e1)).ext (Ext.dr _)
 refine (pq c.1 16 hc.1 (by decide) w1.drew).mono ?_
 rintro e w2 ⟨rfl, rfl⟩
 refine ⟨_, rfl, rfl, rfl, hb.aL (fun j hj => by simp at hj; subst hj; rfl), (pq c.2.2 16 hc.2.2 (by decide) _).mono ?_⟩
 rintro e w2 ⟨rfl, rfl⟩
 refine ⟨_, rfl, rfl, rfl, fun w6 e6 => ⟨rfl, x1.af e6 (by omega)⟩⟩
theorem lW (c : Ce) (hc : lx c) (w : World) : Calls Tryz.prog kK #[iR c] w fun e w' => e = .returned (pv (pos c)) ∧ Ext w w' := by
 apply nP.vc
 intro w0 e0 w1 e1
 have x1 : Ext w w1.drew := (((Ext.ao w).aa e0).aa e1).drew
 have z0 := cL e0
 have hb : Row w1.drew w.heap.size [c.1, c.2.1, c.2.2] jY := ((by rw [e0]; exact Row.new w [_, _, _] _ : Row w0 w.heap.size [c.1, c.2.1, c.2.2] jY).ext ((Ext.ao _).aa e1)).ext (Ext.dr _)
 refine (py c.1 16 hc.1 (by decide) w1.drew).mono ?_
 rintro e w2 ⟨rfl, rfl⟩
 refine ⟨_, rfl, rfl, rfl, hb.aL (fun j hj => by simp at hj; subst hj; rfl), (py c.2.2 16 hc.2.2 (by decide) _).mono ?_⟩
 rintro e w2 ⟨rfl, rfl⟩
 refine ⟨_, rfl, rfl, rfl, fun w6 e6 => ⟨rfl, x1.af e6 (by omega)⟩⟩
def DH(p:Po):Prop:=(-1099511627776<=p.1/\p.1<=1099511627776)/\(-1099511627776<=p.2/\p.2<=1099511627776)
theorem CG (p : Po) (hp : DH p) (i : Int) (hi : 0 ≤ i ∧ i < 8192) (w : World) : Calls Tryz.prog nQ #[pv p, i] w fun e w' => e = .returned (.tuple #[iR (cellAt p i), .bool true]) ∧ Ext w w' := by
 apply th.vc
 obtain ⟨⟨p1, p2⟩, p3, p4⟩ := hp
 intro w0 e0 w1 e1
 have z0 := cL e0
 have x1 : Ext w w1 := ((Ext.ao w).aa e0).aa e1
 have t1 : Int.tmod i 16 = i % 16 := Int.tmod_eq_emod_of_nonneg hi.1
 have t2 : Int.tdiv i 256 = i / 256 := Int.tdiv_eq_ediv_of_nonneg hi.1
 have t3 : Int.tdiv i 16 = i / 16 := Int.tdiv_eq_ediv_of_nonneg hi.1
 have t4 : Int.tmod (i / 16) 16 = i / 16 % 16 := Int.tmod_eq_emod_of_nonneg (by omega)
 have w1' : IntKind.wrap .i64 (i / 16) = i / 16 := wI
 have w2' : IntKind.wrap .i64 (i / 256) = i / 256 := wI
 have w3' : IntKind.wrap .i64 (p.1 * 16) = p.1 * 16 := wI
 have w4' : IntKind.wrap .i64 (p.2 * 16) = p.2 * 16 := wI
 have w5' : IntKind.wrap .i64 (p.1 * 16 + i % 16) = p.1 * 16 + i % 16 := wI
 have w6' : IntKind.wrap .i64 (p.2 * 16 + i / 16 % 16) = p.2 * 16 + i / 16 % 16 := wI
 rw [t1, t2, t3, w1', w2', w3', w4', t4, w5', w6']
 refine Br.mk (fun h => ?_) (fun _ => Br.mk (fun h => ?_) (fun _ w4 e4 => ⟨rfl, x1.af e4 (by omega)⟩)) <;> simp only [decide_eq_true_eq] at h <;> omega
theorem CH (p : Po) (hp : DH p) (i : Int) (hi : 0 ≤ i ∧ i < 8192) (w : World) : Calls Tryz.prog lX #[pv p, i] w fun e w' => e = .returned (.tuple #[iR (cellAt p i), .bool true]) ∧ Ext w w' := by
 apply qv.vc
 obtain ⟨⟨p1, p2⟩, p3, p4⟩ := hp
 intro w0 e0 w1 e1
 have z0 := cL e0
 have x1 : Ext w w1 := ((Ext.ao w).aa e0).aa e1
 have t1 : Int.tmod i 16 = i % 16 := Int.tmod_eq_emod_of_nonneg hi.1
 have t2 : Int.tdiv i 256 = i / 256 := Int.tdiv_eq_ediv_of_nonneg hi.1
 have t3 : Int.tmod i 256 = i % 256 := Int.tmod_eq_emod_of_nonneg hi.1
 have t4 : Int.tdiv (i % 256) 16 = i / 16 % 16 := by rw [Int.tdiv_eq_ediv_of_nonneg (by omega)]; omega
 have w1' : IntKind.wrap .i64 (i / 16 % 16) = i / 16 % 16 := wI
 have w2' : IntKind.wrap .i64 (i / 256) = i / 256 := wI
 have w3' : IntKind.wrap .i64 (p.1 * 16) = p.1 * 16 := wI
 have w4' : IntKind.wrap .i64 (p.2 * 16) = p.2 * 16 := wI
 have w5' : IntKind.wrap .i64 (p.1 * 16 + i % 16) = p.1 * 16 + i % 16 := wI
 have w6' : IntKind.wrap .i64 (p.2 * 16 + i / 16 % 16) = p.2 * 16 + i / 16 % 16 := wI
 rw [t1, t2, t3, t4, w1', w2', w3', w4', w5', w6']
 refine Br.mk (fun h => ?_) (fun _ => Br.mk (fun h => ?_) (fun _ w4 e4 => ⟨rfl, x1.af e4 (by omega)⟩)) <;> simp only [decide_eq_true_eq] at h <;> omega
end Go.Proofs.YtalpkjfpmdpbiaaGreatDoor
namespace Go.Proofs.YtalpkjfpmdpbiaaGreatDoor
open Go Go.Vc Go.RowKit Go.Proofs Go.bY
theorem CO (s x z : Int) (w : World) : Calls Tryz.prog qB #[s, x, z] w fun e w' => e = .returned (.int .u64 (hash s x z)) ∧ w' = w := by
 apply rM.vc
 unfold rM.pre
 rw [Lc, Ld]
 exact ⟨rfl, rfl⟩
theorem CP (s x z : Int) (w : World) : Calls Tryz.prog eh #[s, x, z] w fun e w' => e = .returned (.int .u64 (hash s x z)) ∧ w' = w := by
 apply ma.vc
 unfold ma.pre
 rw [Le, Lf]
 exact ⟨rfl, rfl⟩
theorem DR (s x z : Int) : IntKind.wrap .i64 (Int.tmod (hash s x z) 9) = aM s x z := by
 rw [Int.tmod_eq_emod_of_nonneg (Io s x z)]
 exact wI
theorem jc (s x z wA : Int) (hn : 0 ≤ wA ∧ wA ≤ 64) {b : Nat} {w : World} (hb : Row w b [s] yq) : Calls Tryz.prog cR #[x, z, wA, .pointer (some ⟨b, 0, none⟩)] w fun e w' => e = .returned (.int .i64 (aM s x z * wA)) ∧ w' = w := by
 apply mb.vc
 refine ⟨s, by rw [hb.ld]; rfl, (CO s x z w).mono ?_⟩
 rintro e w1 ⟨rfl, rfl⟩
 refine ⟨_, rfl, ?_⟩
 rw [DR]
 have hc := bh s x z
 have h1 : 0 ≤ aM s x z * wA := Int.mul_nonneg hc.1 hn.1
 have h2 : aM s x z * wA ≤ 8 * 64 := Int.mul_le_mul hc.2 hn.2 hn.1 (by decide)
 rw [wI]
 exact ⟨rfl, rfl⟩
theorem Ad (s x z : Int) (hx : inI x) (hz : inI z) (w : World) : Calls Tryz.prog mc #[s, x, z] w fun e w' => e = .returned (.int .i64 (ground s x z)) ∧ Ext w w' := by
 apply qC.vc
 intro w0 e0
 have x0 : Ext w w0 := (Ext.ao w).aa e0
 have hb : Row w0 w.heap.size [s] yq := by rw [e0]; exact Row.new w [_] _
 refine (pq x 8 hx (by decide) w0).mono ?_
 rintro e w1 ⟨rfl, rfl⟩
 refine ⟨_, rfl, rfl, (pq z 8 hz (by decide) w1).mono ?_⟩
 rintro e w1 ⟨rfl, rfl⟩
 refine ⟨_, rfl, rfl, (pw x 8 (by decide) (by decide) w1).mono ?_⟩
 rintro e w1 ⟨rfl, rfl⟩
 refine ⟨_, rfl, rfl, (pw z 8 (by decide) (by decide) w1).mono ?_⟩
 rintro e w1 ⟨rfl, rfl⟩
 refine ⟨_, rfl, rfl, ?_⟩
 have hdx : inI (x / 8 + 1) := by unfold inI at *; omega
 have hdz : inI (z / 8 + 1) := by unfold inI at *; omega
 have a := iq (bh s (x / 8) (z / 8)) (u := 8 - x % 8) (v := 8 - z % 8) (by omega) (by omega)
 have b := iq (bh s (x / 8 + 1) (z / 8)) (u := x % 8) (v := 8 - z % 8) (by omega) (by omega)
 have c := iq (bh s (x / 8) (z / 8 + 1)) (u := 8 - x % 8) (v := z % 8) (by omega) (by omega)
 have d := iq (bh s (x / 8 + 1) (z / 8 + 1)) (u := x % 8) (v := z % 8) (by omega) (by omega)
 have q1 : IntKind.wrap .i64 (8 - x % 8) = 8 - x % 8 := wI
 have q2 : IntKind.wrap .i64 (8 - z % 8) = 8 - z % 8 := wI
 rw [q1, q2, aj hdx, aj hdz, aj (n := (8 - x % 8) * (8 - z % 8)) (by unfold inI; omega), aj (n := x % 8 * (8 - z % 8)) (by unfold inI; omega), aj (n := (8 - x % 8) * (z % 8)) (by unfold inI; omega), aj (n := x % 8 * (z % 8)) (by unfold inI; omega)]
 refine (jc s _ _ _ ⟨a.1, a.2.1⟩ hb).mono ?_
 rintro e w1 ⟨rfl, rfl⟩
 refine ⟨_, rfl, (jc s _ _ _ ⟨b.1, b.2.1⟩ hb).mono ?_⟩
 rintro e w1 ⟨rfl, rfl⟩
 refine ⟨_, rfl, (jc s _ _ _ ⟨c.1, c.2.1⟩ hb).mono ?_⟩
 rintro e w1 ⟨rfl, rfl⟩
 refine ⟨_, rfl, (jc s _ _ _ ⟨d.1, d.2.1⟩ hb).mono ?_⟩
 rintro e w1 ⟨rfl, rfl⟩
 refine ⟨_, rfl, ?_, x0⟩
 have hg := lA s x z
 have e1 : ground s x z = 6 + (aM s (x / 8) (z / 8) * ((8 - x % 8) * (8 - z % 8)) + aM s (x / 8 + 1) (z / 8) * (x % 8 * (8 - z % 8)) + aM s (x / 8) (z / 8 + 1) * ((8 - x % 8) * (z % 8)) + aM s (x / 8 + 1) (z / 8 + 1) * (x % 8 * (z % 8))) / 64 := rfl
 generalize aM s (x / 8) (z / 8) * ((8 - x % 8) * (8 - z % 8)) = A at *
 generalize aM s (x / 8 + 1) (z / 8) * (x % 8 * (8 - z % 8)) = B at *
 generalize aM s (x / 8) (z / 8 + 1) * ((8 - x % 8) * (z % 8)) = C at *
 generalize aM s (x / 8 + 1) (z / 8 + 1) * (x % 8 * (z % 8)) = D at *
 rw [aj (n := A + B) (by unfold inI; omega), aj (n := A + B + C) (by unfold inI; omega), aj (n := A + B + C + D) (by unfold inI; omega), Int.tdiv_eq_ediv_of_nonneg (by omega), aj (n := (A + B + C + D) / 64) (by unfold inI; omega), ← e1, wI]
theorem Gs (y g : Int) (hg : 6 ≤ g ∧ g ≤ 100) (w : World) : Calls Tryz.prog wB #[y, g] w fun e w' => e = .returned (.int .i64 (yi y g)) ∧ w' = w := by
 apply Ae.vc
 have q1 : IntKind.wrap .i64 (g - 3) = g - 3 := wI
 have q2 : IntKind.wrap .i64 (g - 1) = g - 1 := wI
 unfold Ae.pre
 rw [q1, q2]
 have fin : ∀ {v : Int}, yi y g = v → (Ending.returned v = .returned (.int .i64 (yi y g)) ∧ w = w) := fun h => ⟨by rw [h], rfl⟩
 refine Br.mk (fun h1 => fin ?_) (fun h1 => Br.mk (fun h2 => fin ?_) (fun h2 => Br.mk (fun h3 => fin ?_) (fun h3 => Br.mk (fun h4 => fin ?_) (fun h4 => Br.mk (fun h5 => fin ?_) (fun h5 => Br.mk (fun h6 => Br.mk (fun h7 => fin ?_) (fun h7 => Br.mk (fun h8 => fin ?_) (fun h8 => Br.mk (fun h9 => fin ?_) (fun h9 => fin ?_)))) (fun h6 => Br.mk (fun h8 => fin ?_) (fun h8 => Br.mk (fun h9 => fin ?_) (fun h9 => fin ?_))))))))
 all_goals simp only [decide_eq_true_eq, decide_eq_false_iff_not, beq_iff_eq, beq_eq_false_iff_ne, ne_eq] at *
 all_goals unfold yi
 all_goals (repeat' split) <;> omega
theorem Af (s x z : Int) (hx : inI x) (hz : inI z) (w : World) : Calls Tryz.prog jB #[s, x, z] w fun e w' => e = .returned (.int .i64 (ground s x z)) ∧ Ext w w' := by
 apply me.vc
 have hdx : inI (x / 8 + 1) ∧ inI (x / 8) := by unfold inI at *; omega
 have hdz : inI (z / 8 + 1) ∧ inI (z / 8) := by unfold inI at *; omega
 have a := iq (bh s (x / 8) (z / 8)) (u := 8 - x % 8) (v := 8 - z % 8) (by omega) (by omega)
 have b := iq (bh s (x / 8 + 1) (z / 8)) (u := x % 8) (v := 8 - z % 8) (by omega) (by omega)
 have c := iq (bh s (x / 8) (z / 8 + 1)) (u := 8 - x % 8) (v := z % 8) (by omega) (by omega)
 have d := iq (bh s (x / 8 + 1) (z / 8 + 1)) (u := x % 8) (v := z % 8) (by omega) (by omega)
 have q1 : IntKind.wrap .i64 (8 - x % 8) = 8 - x % 8 := wI
 have q2 : IntKind.wrap .i64 (8 - z % 8) = 8 - z % 8 := wI
 have hg := lA s x z
 have e1 : ground s x z = 6 + (aM s (x / 8) (z / 8) * ((8 - x % 8) * (8 - z % 8)) + aM s (x / 8 + 1) (z / 8) * (x % 8 * (8 - z % 8)) + aM s (x / 8) (z / 8 + 1) * ((8 - x % 8) * (z % 8)) + aM s (x / 8 + 1) (z / 8 + 1) * (x % 8 * (z % 8))) / 64 := rfl
 have m1 : IntKind.wrap .i64 ((8 - x % 8) * (8 - z % 8)) = (8 - x % 8) * (8 - z % 8) := wI
 have m2 : IntKind.wrap .i64 (x % 8 * (8 - z % 8)) = x % 8 * (8 - z % 8) := wI
 have m3 : IntKind.wrap .i64 ((8 - x % 8) * (z % 8)) = (8 - x % 8) * (z % 8) := wI
 have m4 : IntKind.wrap .i64 (x % 8 * (z % 8)) = x % 8 * (z % 8) := wI
 have k1 := Int.mul_comm (aM s (x / 8) (z / 8)) ((8 - x % 8) * (8 - z % 8))
 have k2 := Int.mul_comm (aM s (x / 8 + 1) (z / 8)) (x % 8 * (8 - z % 8))
 have k3 := Int.mul_comm (aM s (x / 8) (z / 8 + 1)) ((8 - x % 8) * (z % 8))
 have k4 := Int.mul_comm (aM s (x / 8 + 1) (z / 8 + 1)) (x % 8 * (z % 8))
 refine ⟨fun n i t wr => w = wr ∧ ((i = 0 ∧ t = 0 ∧ n = 2) ∨ (i = 1 ∧ t = aM s (x / 8) (z / 8) * ((8 - x % 8) * (8 - z % 8)) + aM s (x / 8) (z / 8 + 1) * ((8 - x % 8) * (z % 8)) ∧ n = 1) ∨ (i = 2 ∧ t = aM s (x / 8) (z / 8) * ((8 - x % 8) * (8 - z % 8)) + aM s (x / 8) (z / 8 + 1) * ((8 - x % 8) * (z % 8)) + aM s (x / 8 + 1) (z / 8) * (x % 8 * (8 - z % 8)) + aM s (x / 8 + 1) (z / 8 + 1) * (x % 8 * (z % 8)) ∧ n = 0)), ⟨2, rfl, .inl ⟨rfl, rfl, rfl⟩⟩, ?_⟩
 rintro n us i t wr ⟨rfl, hi⟩
 refine Br.mk (fun hc => ?_) (fun hc => ?_)
 ·replace hc := dj hc
  refine ⟨fun n' k t' wr => w = wr ∧ ((k = 0 ∧ t' = t ∧ n' = 2) ∨ (k = 1 ∧ n' = 1 ∧ t' = t + (if i = 0 then aM s (x / 8) (z / 8) * ((8 - x % 8) * (8 - z % 8)) else aM s (x / 8 + 1) (z / 8) * (x % 8 * (8 - z % 8)))) ∨ (k = 2 ∧ n' = 0 ∧ t' = t + (if i = 0 then aM s (x / 8) (z / 8) * ((8 - x % 8) * (8 - z % 8)) else aM s (x / 8 + 1) (z / 8) * (x % 8 * (8 - z % 8))) + (if i = 0 then aM s (x / 8) (z / 8 + 1) * ((8 - x % 8) * (z % 8)) else aM s (x / 8 + 1) (z / 8 + 1) * (x % 8 * (z % 8))))), ⟨2, rfl, .inl ⟨rfl, rfl, rfl⟩⟩, ?_⟩
  rintro n2 us k t' wr ⟨rfl, hk⟩
  have hi01 : i = 0 ∨ i = 1 := by omega
  refine Br.mk (fun hc2 => ?_) (fun hc2 => ?_)
  ·replace hc2 := dj hc2
   refine (fk x 8 (by decide) (by decide) w).mono ?_
   rintro e w1 ⟨rfl, rfl⟩
   refine ⟨_, rfl, (fk z 8 (by decide) (by decide) w1).mono ?_⟩
   rintro e w1 ⟨rfl, rfl⟩
   refine ⟨_, rfl, ?_⟩
   rw [q1, q2, m1, m2, m3, m4]
   have hk01 : k = 0 ∨ k = 1 := by omega
   refine Br.mk (fun hb1 => Br.mk (fun hb2 => ?_) (fun hb2 => ?_)) (fun hb1 => Br.mk (fun hb2 => ?_) (fun hb2 => ?_))
   all_goals
    simp only [beq_iff_eq, beq_eq_false_iff_ne, ne_eq] at hb1 hb2
    refine (py x 8 hx (by decide) w1).mono ?_
    rintro e w1 ⟨rfl, rfl⟩
    refine ⟨_, rfl, (py z 8 hz (by decide) w1).mono ?_⟩
    rintro e w1 ⟨rfl, rfl⟩
    refine ⟨_, rfl, (CP _ _ _ w1).mono ?_⟩
    rintro e w1 ⟨rfl, rfl⟩
    refine ⟨_, rfl, ?_⟩
    rw [DR]
   ·have hi0 : i = 0 := hb1
    have hk0 : k = 0 := hb2
    subst hi0; subst hk0
    rw [Int.add_zero, Int.add_zero, aj hdx.2, aj hdz.2, ← k1, aj (n := aM s (x / 8) (z / 8) * ((8 - x % 8) * (8 - z % 8))) (by unfold inI; omega)]
    have ht : t' = 0 := by omega
    subst ht
    refine ⟨1, by omega, rfl, .inr (.inl ⟨by decide, rfl, ?_⟩)⟩
    rw [wI, if_pos rfl]; omega
   ·have hi0 : i = 0 := hb1
    have hk0 : k = 1 := by omega
    subst hi0; subst hk0
    rw [Int.add_zero, aj hdx.2, aj hdz.1, ← k3, aj (n := aM s (x / 8) (z / 8 + 1) * ((8 - x % 8) * (z % 8))) (by unfold inI; omega)]
    rcases hk with hk | hk | hk
    ·omega
    ·obtain ⟨-, hn2, ht⟩ := hk
     rw [if_pos rfl] at ht
     have ht0 : t = 0 := by omega
     subst ht0
     refine ⟨0, by omega, rfl, .inr (.inr ⟨by decide, rfl, ?_⟩)⟩
     rw [wI, if_pos rfl, if_pos rfl]; omega
    ·omega
   ·have hi0 : i = 1 := by omega
    have hk0 : k = 0 := hb2
    subst hi0; subst hk0
    rw [Int.add_zero, aj hdx.1, aj hdz.2, ← k2, aj (n := aM s (x / 8 + 1) (z / 8) * (x % 8 * (8 - z % 8))) (by unfold inI; omega)]
    rcases hk with hk | hk | hk
    ·obtain ⟨-, ht, hn2⟩ := hk
     refine ⟨1, by omega, rfl, .inr (.inl ⟨by decide, rfl, ?_⟩)⟩
     rw [wI, if_neg (by decide)]; omega
    ·omega
    ·omega
   ·have hi0 : i = 1 := by omega
    have hk0 : k = 1 := by omega
    subst hi0; subst hk0
    rw [aj hdx.1, aj hdz.1, ← k4, aj (n := aM s (x / 8 + 1) (z / 8 + 1) * (x % 8 * (z % 8))) (by unfold inI; omega)]
    rcases hk with hk | hk | hk
    ·omega
    ·obtain ⟨-, hn2, ht⟩ := hk
     rw [if_neg (by decide)] at ht
     refine ⟨0, by omega, rfl, .inr (.inr ⟨by decide, rfl, ?_⟩)⟩
     rw [wI, if_neg (by decide), if_neg (by decide)]; omega
    ·omega
  ·replace hc2 := dH hc2
   rcases hk with hk | hk | hk
   ·omega
   ·omega
   ·obtain ⟨-, hn2, ht⟩ := hk
    rcases hi01 with h | h
    ·subst h
     rw [if_pos rfl, if_pos rfl] at ht
     refine ⟨1, by omega, rfl, .inr (.inl ⟨by decide, by omega, rfl⟩)⟩
    ·subst h
     rw [if_neg (by decide), if_neg (by decide)] at ht
     refine ⟨0, by omega, rfl, .inr (.inr ⟨by decide, by omega, rfl⟩)⟩
 ·replace hc := dH hc
  rcases hi with hi | hi | hi
  ·omega
  ·omega
  ·obtain ⟨-, ht, -⟩ := hi
   refine ⟨?_, Ext.ao _⟩
   have : t = aM s (x / 8) (z / 8) * ((8 - x % 8) * (8 - z % 8)) + aM s (x / 8 + 1) (z / 8) * (x % 8 * (8 - z % 8)) + aM s (x / 8) (z / 8 + 1) * ((8 - x % 8) * (z % 8)) + aM s (x / 8 + 1) (z / 8 + 1) * (x % 8 * (z % 8)) := by omega
   rw [← this] at e1
   rw [Int.tdiv_eq_ediv_of_nonneg (by omega), aj (n := t / 64) (by unfold inI; omega), ← e1, wI]
theorem A9 (s : Int) (c : Ce) (hc : lx c) (w : World) : Calls Tryz.prog kN #[s, iR c] w fun e w' => e = .returned (.int .i64 (yi c.2.1 (ground s c.1 c.2.2))) ∧ Ext w w' := by
 apply nX.vc
 intro w0 e0
 have x0 : Ext w w0 := (Ext.ao w).aa e0
 have z0 := cL e0
 refine (Af s c.1 c.2.2 hc.1 hc.2.2 w0).mono ?_
 rintro e w1 ⟨rfl, x1⟩
 refine ⟨_, rfl, x1.k, ?_⟩
 have hg := lA s c.1 c.2.2
 generalize ground s c.1 c.2.2 = g at hg
 generalize c.2.1 = y
 have q1 : IntKind.wrap .i64 (g - 3) = g - 3 := wI
 have q2 : IntKind.wrap .i64 (g - 1) = g - 1 := wI
 rw [q1, q2]
 have fin : ∀ {v : Int}, yi y g = v → (Ending.returned v = .returned (.int .i64 (yi y g)) ∧ Ext w w1) := fun h => ⟨by rw [h], x0.tr x1⟩
 refine Br.mk (fun h1 => fin ?_) (fun h1 => Br.mk (fun h2 => fin ?_) (fun h2 => Br.mk (fun h3 => fin ?_) (fun h3 => Br.mk (fun h4 => fin ?_) (fun h4 => Br.mk (fun h5 => fin ?_) (fun h5 => Br.mk (fun h6 => Br.mk (fun h7 => fin ?_) (fun h7 => fin ?_)) (fun h6 => Br.mk (fun h9 => fin ?_) (fun h9 => fin ?_)))))))
 all_goals simp only [decide_eq_true_eq, decide_eq_false_iff_not, beq_iff_eq, beq_eq_false_iff_ne, ne_eq] at *
 all_goals unfold yi
 all_goals (repeat' split) <;> omega
end Go.Proofs.YtalpkjfpmdpbiaaGreatDoor
namespace Go.Proofs.YtalpkjfpmdpbiaaGreatDoor
open Go Go.Vc Go.RowKit Go.Proofs Go.bY Go.aD
theorem xl (ae : Int) (p : Po) {k : Nat} (hk : k < 8192) : (made ae p)[k]? = some (yi (cellAt p k).2.1 (ground ae (cellAt p k).1 (cellAt p k).2.2)) := by
 unfold made
 rw [List.getElem?_map, List.getElem?_range hk]; rfl
theorem Hg {p : Po} (hp : DH p) (i : Int) (hi : 0 ≤ i ∧ i < 8192) : lx (cellAt p i) := by
 obtain ⟨⟨p1, p2⟩, p3, p4⟩ := hp
 unfold lx cellAt inI
 simp only
 omega
attribute [local irreducible] made in
set_option maxRecDepth 100000 in
theorem yE (ae : Int) (p : Po) (hp : DH p) (w : World) : Calls Tryz.prog kT #[ae, pv p] w fun e w' => ∃ s' : Sl, e = .returned s' ∧ jX w.heap.size w' s' (bk (made ae p)) ∧ Ext w w' := by
 apply oD.vc
 intro w0 e0
 have x0 : Ext w w0 := (Ext.ao w).aa e0
 have z0 := cL e0
 refine ⟨fun n x s wr => Ext w0 wr ∧ ∃ k : Nat, x = k ∧ k + n = 8192 ∧ HZ w0.heap.size wr s ((made ae p).take k), ⟨8192, rfl, Ext.ao _, 0, rfl, by omega, by rw [List.take_zero]; exact ag.nil⟩, ?_⟩
 rintro n us x s wr ⟨xr, k, rfl, hk, ho⟩
 have zr := xr.size
 refine Br.mk (fun hc => ?_) (fun hc => ?_)
 ·replace hc := dj hc
  have hi : 0 ≤ (k : Int) ∧ (k : Int) < 8192 := by omega
  refine (CH p hp k hi wr).mono ?_
  rintro e w8 ⟨rfl, x8⟩
  refine ⟨_, _, _, _, rfl, x8.k, ?_⟩
  have z8 := x8.size
  intro w13 e13 w14 e14
  have x14 : Ext w8 w14 := ((Ext.ao _).aa e13).af e14 (Nat.le_refl _)
  have z14 : w14.heap.size = w8.heap.size + 1 := by rw [e14, setRow_size, e13]; simp
  refine (A9 ae (cellAt p k) (Hg hp k hi) w14).mono ?_
  rintro e w15 ⟨rfl, x15⟩
  have z15 := x15.size
  refine ⟨_, rfl, x15.k, x15.k, ?_⟩
  intro w17 e17
  have x17 : Ext w15 w17 := (Ext.ao _).aa e17
  have z17 := cL e17
  have xall : Ext wr w17 := ((x8.tr x14).tr x15).tr x17
  have hlen : s.n = k := by rw [vp.len ho.H0, List.length_take, dO]; omega
  obtain ⟨c1, c2⟩ := (ag.ext ho xall).append (bytes := 8) (news := iv (yi (cellAt p k).2.1 (ground ae (cellAt p k).1 (cellAt p k).2.2))) (by omega) rfl (pQ _ _) (by omega) (by omega)
  refine ⟨c1, fun s18 w19 hres => ?_⟩
  obtain ⟨d1, d2, d3, d4, d5⟩ := c2 s18 w19 hres
  have hsb : ∀ j, wr.heap.size ≤ j → s.ay ≠ some j := fun j hj e => by have := (ho.own.lt e).2; omega
  have hsw : s.ay ≠ some w.heap.size := fun e => by have := (ho.own.lt e).1; omega
  have hwk : IntKind.wrap .i64 ((k : Int) + 1) = ((k + 1 : Nat) : Int) := by rw [wI]; omega
  refine ⟨d4 _ hsw (by omega), d4 _ (hsb _ (by omega)) (by omega), d4 _ (hsb _ (by omega)) (by omega), n - 1, by omega, rfl, (xr.tr xall).trans d3, k + 1, hwk, by omega, ?_⟩
  rw [List.take_add_one, xl ae p (by omega)]
  show ag _ _ _ _ _ _
  rw [List.map_append]; exact d1
 ·replace hc := dH hc
  have : k = 8192 := by omega
  subst this
  rw [List.take_of_length_le (by rw [dO]; exact Nat.le_refl _)] at ho
  refine (kM s (made ae p) wr ho.H0 (by rw [dO]; decide)).mono ?_
  rintro e w20 ⟨s', rfl, ho', x'⟩
  exact ⟨s', rfl, x'.k, s', rfl, ag.low ho' (by omega), (x0.tr xr).tr x'⟩
end Go.Proofs.YtalpkjfpmdpbiaaGreatDoor
namespace Go.Proofs.YtalpkjfpmdpbiaaGreatDoor
open Go Go.Vc Go.RowKit Go.Proofs Go.bY Go.aD
def Fy (ae : Int) (p : Po) (k : Nat) : List Value := (List.range 256).map fun i : Nat => .int .i64 (if i < k then ground ae (cellAt p i).1 (cellAt p i).2.2 else 0)
theorem sO(ae:Int)(p:Po)(k:Nat):(Fy ae p k).length=256:=by simp [Fy]
theorem vF (ae : Int) (p : Po) (k : Nat) {i : Nat} (hi : i < 256) : (Fy ae p k)[i]? = some (.int .i64 (if i < k then ground ae (cellAt p i).1 (cellAt p i).2.2 else 0)) := by
 unfold Fy
 rw [List.getElem?_map, List.getElem?_range hi]; rfl
theorem IU (ae : Int) (p : Po) {k : Nat} (hk : k < 256) : (Fy ae p k).set k (.int .i64 (ground ae (cellAt p k).1 (cellAt p k).2.2)) = Fy ae p (k + 1) := by
 apply List.ext_getElem?
 intro i
 rw [List.getElem?_set]
 rcases Nat.lt_or_ge i 256 with h | h
 ·rw [vF _ _ (k + 1) h]
  split
  ·rename_i e
   subst e
   rw [if_pos (by rw [sO]; exact h), if_pos (by omega)]
  ·rename_i e
   rw [vF _ _ k h]
   congr 3
   exact propext ⟨fun h => by omega, fun h => by omega⟩
 ·rw [List.getElem?_eq_none (by rw [sO]; exact h), List.getElem?_eq_none (by rw [sO]; exact h), if_neg (by omega)]
theorem HJ (ae : Int) (p : Po) : Fy ae p 0 = List.replicate 256 (.int .i64 0) := by
 apply List.ext_getElem?
 intro i
 rcases Nat.lt_or_ge i 256 with h | h
 ·rw [vF _ _ 0 h, List.getElem?_replicate, if_pos h, if_neg (by omega)]
 ·rw [List.getElem?_eq_none (by rw [sO]; exact h), List.getElem?_eq_none (by rw [List.length_replicate]; exact h)]
def wo (ae : Int) (p : Po) : List (List Value) := (made ae p).map fun b => [.int .i64 b]
theorem yW (ae : Int) (p : Po) : (wo ae p).length = 8192 := by unfold wo; rw [List.length_map, dO]
theorem IV (ae : Int) (p : Po) {k : Nat} (hk : k < 8192) : (made ae p)[k]? = some (yi ((k : Int) / 256) (ground ae (cellAt p ((k % 256 : Nat) : Int)).1 (cellAt p ((k % 256 : Nat) : Int)).2.2)) := by
 rw [xl ae p hk]
 have e1 : (cellAt p ((k % 256 : Nat) : Int)).1 = (cellAt p k).1 := by unfold cellAt; simp only; omega
 have e2 : (cellAt p ((k % 256 : Nat) : Int)).2.2 = (cellAt p k).2.2 := by unfold cellAt; simp only; omega
 rw [e1, e2]; rfl
abbrev DQ(bp bs:Nat):Nat->Prop:=fun i=>i=bp\/i=bs
abbrev Ju (bp bs : Nat) : Value := .func (.func 206) #[] #[.pointer (some ⟨bp, 0, none⟩), .pointer (some ⟨bs, 0, none⟩)]
attribute [local irreducible] made Fy in
set_option maxRecDepth 100000 in
theorem wu (ae : Int) (p : Po) (hp : DH p) (bp bs : Nat) (W0 : World) (hbp : Row W0 bp [p.1, p.2] FR) (hbs : Row W0 bs [ae] yq) :
  Iter Tryz.prog (Ju bp bs) W0 (DQ bp bs) (wo ae p) := by
 refine ⟨⟨_, _, _, rfl, by kernel_rfl⟩, ?_⟩
 intro y B J Jx F0 W hB hsJ hsX hbd hRd hround h0
 refine fD (by kernel_rfl) (by rfl) ?_
 apply oG.vc
 have same : ∀ {w : World} {F : Nat → Prop}, (∀ i, DQ bp bs i → ¬ F i ∧ i < w.heap.size ∧ w.heap[i]? = W0.heap[i]?) → Row w bp [p.1, p.2] FR ∧ Row w bs [ae] yq := fun {w F} h =>
  ⟨hbp.same (h bp (.inl rfl)).2.2, hbs.same (h bs (.inr rfl)).2.2⟩
 intro w0 e0
 have x0 : Ext W w0 := (Ext.ao W).aa e0
 have z0 := cL e0
 have hg0 : Row w0 W.heap.size (Fy ae p 0) 267 := by rw [e0, HJ]; exact Row.new W (List.replicate 256 (0:Int)) _
 clear e0
 have hF0 := hbd _ _ _ h0
 have bel : ∀ {w : World}, Ext W w → J 0 F0 w ∧ ∀ i, DQ bp bs i → ¬ F0 i ∧ i < w.heap.size ∧ w.heap[i]? = W0.heap[i]? := fun {w} x =>
  ⟨hsJ _ _ _ _ h0 (Below.mono x hB) fun i hi => x.heap (hF0 i hi), fun i hi => by
   obtain ⟨h1, h2, h3⟩ := hRd i hi
   exact ⟨h1, by have := x.size; omega, (x.heap h2).trans h3⟩⟩
 refine ⟨fun n x wr => Ext W wr ∧ W.heap.size < wr.heap.size ∧ ∃ k : Nat, x = k ∧ k + n = 256 ∧ Row wr W.heap.size (Fy ae p k) 267, ⟨256, x0, by omega, 0, rfl, by omega, hg0⟩, ?_⟩
 rintro n us x wr ⟨xr, zr, k, rfl, hk, hg⟩
 refine Br.mk (fun hc => ?_) (fun hc => ?_)
 ·replace hc := dj hc
  obtain ⟨hb1, hb2⟩ := same (bel xr).2
  refine ⟨p.1, p.2, hb1.aL (fun j hj => by rw [Nat.zero_add]), (CG p hp k (by omega) wr).mono ?_⟩
  rintro e w9 ⟨rfl, x9⟩
  refine ⟨_, _, _, _, rfl, ?_⟩
  intro w14 e14 w15 e15
  have x15 : Ext w9 w15 := ((Ext.ao _).aa e14).af e15 (Nat.le_refl _)
  have z15 : w15.heap.size = w9.heap.size + 1 := by rw [e15, setRow_size, e14]; simp
  have z9 := x9.size
  have hb15 := hb2.ext (x9.tr x15)
  refine ⟨ae, by rw [hb15.ld]; rfl, ?_⟩
  have hok := Hg hp k ⟨by omega, by omega⟩
  refine (Ad ae _ _ hok.1 hok.2.2 w15).mono ?_
  rintro e w17 ⟨rfl, x17⟩
  have z17 := x17.size
  have hg17 := hg.ext ((x9.tr x15).tr x17)
  have hk1 : ((k : Int).toNat * 1) = k := by omega
  rw [hk1]
  obtain ⟨p1, p2⟩ := hg17.gg (j := k) (v := .int .i64 (ground ae (cellAt p k).1 (cellAt p k).2.2)) (by rw [sO]; omega) rfl
  refine ⟨_, rfl, x17.k, by omega, by omega, ⟨rfl, p1⟩, ?_, fun w19 e19 => ?_⟩
  ·rw [bC]
   intro e
   have : W.heap.size = w9.heap.size := by simpa [bK] using e
   omega
  ·obtain ⟨q1, q2⟩ := p2 w19 e19
   have hwk : IntKind.wrap .i64 ((k : Int) + 1) = ((k + 1 : Nat) : Int) := by rw [wI]; omega
   have hput : az (Fy ae p k) k [.int .i64 (ground ae (cellAt p k).1 (cellAt p k).2.2)] = Fy ae p (k + 1) := by rw [← IU ae p (by omega)]; rfl
   rw [hput] at q1
   exact ⟨n - 1, by omega, q2.ext (xr.tr ((x9.tr x15).tr x17)) (fun i hi => by omega), by have := q2.size; omega, k + 1, hwk, by omega, q1⟩
 ·replace hc := dH hc
  have hk256 : k = 256 := by omega
  subst hk256
  obtain ⟨hJr, hKr⟩ := bel xr
  refine ⟨fun n x wr => ∃ (k : Nat) (F : Nat → Prop), x = k ∧ k + n = 8192 ∧ B ≤ wr.heap.size ∧ W.heap.size < wr.heap.size ∧ ¬ F W.heap.size ∧ J k F wr ∧ Row wr W.heap.size (Fy ae p 256) 267,
   ⟨8192, 0, F0, rfl, by omega, by omega, zr, fun hf => by have := hF0 _ hf; omega, hJr, hg⟩, ?_⟩
  rintro n us x wq ⟨k, F, rfl, hk, hBq, hzq, hnF, hJq, hgq⟩
  refine Br.mk (fun hc => ?_) (fun hc => ?_)
  ·replace hc := dj hc
   have t1 : Int.tmod (k : Int) 256 = ((k % 256 : Nat) : Int) := by rw [Int.tmod_eq_emod_of_nonneg (by omega)]; omega
   have t2 : IntKind.wrap .i64 (Int.tdiv (k : Int) 256) = (k : Int) / 256 := by rw [Int.tdiv_eq_ediv_of_nonneg (by omega), wI]
   rw [t1, t2]
   have hk1 : (((k % 256 : Nat) : Int).toNat * 1) = k % 256 := by omega
   rw [hk1]
   have hget := vF ae p 256 (i := k % 256) (by omega)
   rw [if_pos (by omega)] at hget
   refine ⟨by omega, by omega, _, hgq.at _ hget, (Gs _ _ (lA _ _ _) wq).mono ?_⟩
   rintro e w27 ⟨rfl, rfl⟩
   refine ⟨_, rfl, ?_⟩
   have hx : (wo ae p)[k]? = some [.int .i64 (yi ((k : Int) / 256) (ground ae (cellAt p ((k % 256 : Nat) : Int)).1 (cellAt p ((k % 256 : Nat) : Int)).2.2))] := by
    unfold wo; rw [List.getElem?_map, IV ae p (by omega)]; rfl
   refine rh (hround _ _ _ _ hx hJq) ?_
   have hwk : IntKind.wrap .i64 ((k : Int) + 1) = ((k + 1 : Nat) : Int) := by rw [wI]; omega
   rintro e w29 (⟨rfl, F2, hJ2, hst⟩ | ⟨rfl, F2, hJ2, hst⟩)
   ·refine ⟨true, rfl, Br.mk (fun h => by cases h) (fun _ => ⟨n - 1, by omega, k + 1, F2, hwk, by omega, by have := hst.size; omega, by have := hst.size; omega, fun hf => ?_, hJ2, hgq.same (hst.same _ hzq hnF)⟩)⟩
    rcases hst.sub _ hf with hf | hf
    ·exact hnF hf
    ·omega
   ·exact ⟨false, rfl, Br.mk (fun _ => ⟨⟨_, rfl⟩, .inr ⟨F2, hJ2⟩⟩) (fun h => by cases h)⟩
  ·replace hc := dH hc
   have hk8 : k = 8192 := by omega
   subst hk8
   exact ⟨⟨_, rfl⟩, .inl ⟨F, by rw [yW]; exact hJq⟩⟩
theorem wh (ae : Int) (p : Po) (w : World) : Calls Tryz.prog oy #[ae, pv p] w fun e w' => e = .returned (Ju (w.heap.size + 1) w.heap.size) ∧ Row w' (w.heap.size + 1) [p.1, p.2] FR ∧ Row w' w.heap.size [ae] yq ∧ Ext w w' := by
 apply tN.vc
 intro w0 e0 w1 e1
 have z0 := cL e0
 have x1 : Ext w0 w1 := (Ext.ao _).aa e1
 have hb : Row w0 w.heap.size [ae] yq := by rw [e0]; exact Row.new w [_] _
 refine ⟨by rw [z0], ?_, hb.ext x1, ((Ext.ao w).aa e0).tr x1⟩
 rw [← z0, e1]; exact Row.new w0 [_, _] _
end Go.Proofs.YtalpkjfpmdpbiaaGreatDoor
namespace Go.Proofs.YtalpkjfpmdpbiaaGreatDoor
open Go Go.Vc Go.RowKit Go.Proofs Go.bY Go.aD
theorem EB (s : Sl) (c : List Int) (w : World) (hs : HZ 0 w s c) : Calls Tryz.prog fE #[s] w fun e w' => (∃ s' : Sl, e = .returned s' ∧ vp w s' c) ∧ w' = w := by
 apply im.vc
 have hn := vp.len hs.H0
 have hcap : s.n ≤ s.c := by
  rcases ag.form hs (by decide) with ⟨h, -⟩ | ⟨g0, cs, ha, hg0, hr, hc, hnc, -⟩
  ·rw [h]; exact Nat.le_refl _
  ·exact hnc
 have := RdK.cut hs.H0 (m := s.n) (c' := s.n) (c'' := s.n) (by rw [List.length_map]; omega)
 rw [List.take_of_length_le (by rw [List.length_map]; omega)] at this
 exact ⟨by omega, by omega, by omega, by omega, ⟨⟨ai s.a 0 s.n 1, s.n, s.n⟩, rfl, this⟩, rfl⟩
attribute [local irreducible] made in
set_option maxRecDepth 100000 in
theorem uR (ae : Int) (p : Po) (hp : DH p) (w : World) : Calls Tryz.prog kc #[ae, pv p] w fun e w' => ∃ s' : Sl, e = .returned s' ∧ jX w.heap.size w' s' (bk (made ae p)) ∧ Ext w w' := by
 apply tk.vc
 intro w0 e0 w1 e1
 have z0 := cL e0
 have z1 : w1.heap.size = w.heap.size + 2 := by rw [e1]; simp [z0]
 have x01 : Ext w w1 := ((Ext.ao w).aa e0).aa e1
 refine (wh ae p w1).mono ?_
 rintro e w2 ⟨rfl, hbp, hbs, x2⟩
 have hlt := hbp.lt
 have xx := x01.tr x2
 have zz := xx.size
 refine ⟨_, rfl, x2.k, x2.k, ?_⟩
 refine ⟨wo ae p, DQ (w1.heap.size + 1) w1.heap.size, fun _ => False, fun n F s w' => (∀ i, F i ↔ s.ay = some i) ∧ HZ (w2.heap.size + 2) w' s ((made ae p).take n) ∧ Ext w w' ∧ w2.heap.size + 2 ≤ w'.heap.size, fun _ _ _ _ => False,
  ?_, ?_, fun _ _ _ _ _ h => h.elim, ?_, fun _ _ _ _ h => h.elim, fun i hi => ⟨by rcases hi with h | h <;> omega, id, by rcases hi with h | h <;> omega, by rcases hi with h | h <;> omega, trivial⟩, ?_, ?_, ?_, trivial⟩
 ·intro x hx
  obtain ⟨b, _, rfl⟩ := List.mem_map.1 hx
  exact ⟨b, rfl⟩
 ·rintro n F s w3 w4 ⟨hF, ho, hbl, hz⟩ hbl2 hsame
  exact ⟨hF, ag.aW ho fun i hi => hsame i ((hF i).2 hi), hbl.trans (Below.mono hbl2 zz), by have := hbl2.size; omega⟩
 ·rintro n F s w3 ⟨hF, ho, hbl, hz⟩ i hi
  have := ho.own.lt ((hF i).1 hi)
  omega
 ·intro w3 hbeg
  have hbel : Below w2.heap.size w2 w3 := hbeg.ext
  refine ⟨wu ae p hp _ _ w3 (hbp.ext hbel) (hbs.ext hbel), rfl, ?_, ?_, xx.trans (Below.mono hbel zz), by have := hbeg.size; omega⟩
  ·intro i; simp [Sl.ay]
  ·rw [List.take_zero]; exact ag.nil
 ·rintro n F us o y w3 hx hI
  have hy : (made ae p)[n]? = some y := by
   unfold wo at hx
   rw [List.getElem?_map, Option.map_eq_some_iff] at hx
   obtain ⟨b, hb, e⟩ := hx
   have : b = y := by simpa using e
   rw [← this]; exact hb
  refine ⟨Below.refl _ _, fun w4 hrec hI3 => ?_⟩
  obtain ⟨hF, ho, hbl, hz⟩ := hI3
  intro w5 e5
  have x5 : Ext w4 w5 := (Ext.ao _).aa e5
  have z5 := cL e5
  have hnl : n < 8192 := by have := (List.getElem?_eq_some_iff.1 hy).1; rw [dO] at this; exact this
  have hon := vp.len ho.H0
  rw [List.length_take, dO] at hon
  obtain ⟨hp1, hres⟩ := (ag.ext ho x5).append (bytes := 8) (news := iv y) (by omega) rfl (pQ _ _) (by omega) (by omega)
  refine ⟨hp1, fun s5 w6 hr => ?_⟩
  obtain ⟨ho5, hn5, xb, hkp, hblk⟩ := hres s5 w6 hr
  have hob : ∀ i, o.ay = some i → w2.heap.size + 2 ≤ i ∧ i < w4.heap.size := fun i hi => ho.own.lt hi
  have hz6 := xb.size
  refine ⟨hkp _ (fun hb => by have := hob _ hb; omega) (by omega), hkp _ (fun hb => by have := hob _ hb; omega) (by omega), hkp _ (fun hb => by have := hob _ hb; omega) (by omega), ?_⟩
  intro w7 hw7
  have e7 : ∀ i, i ≠ w0.heap.size → w7.heap[i]? = w6.heap[i]? := fun i hi => by rw [hw7]; exact setRow_other _ _ _ _ hi
  have z7 : w7.heap.size = w6.heap.size := by rw [hw7, setRow_size]
  have hb5 : ∀ i, s5.ay = some i → w2.heap.size + 2 ≤ i := fun i hi => by
   rcases hblk with h | h
   ·exact (hob i (by rw [← h]; exact hi)).1
   ·rw [h] at hi; simp at hi; omega
  refine ⟨fun i => s5.ay = some i, ⟨rfl, fun i => Iff.rfl, ?_, ?_, by omega⟩, ⟨?_, by omega, ?_⟩⟩
  ·have e : (made ae p).take (n + 1) = (made ae p).take n ++ [y] := by rw [List.take_add_one, hy]; rfl
   rw [e]
   have h5 : HZ (w2.heap.size + 2) w6 s5 ((made ae p).take n ++ [y]) := by
    show ag _ _ 1 _ _ (((made ae p).take n ++ [y]).map iv)
    rw [List.map_append]; exact ho5
   exact ag.aW h5 fun i hi => e7 i (by have := hb5 i hi; omega)
  ·have h5 : Ext w w6 := (hbl.tr x5).trans (Below.mono xb (by omega))
   rw [hw7]; exact h5.setRow (by omega) _
  ·rintro i (hi | hi)
   ·rcases hblk with h | h
    ·exact .inl (.inl ((hF i).2 (by rw [← h]; exact hi)))
    ·rw [h] at hi; simp at hi; exact .inr (by omega)
   ·exact .inl (.inr hi)
  ·intro i hi hni
   have h1 : i ≠ w0.heap.size := fun e => hni (.inr (by simp [e]))
   rw [e7 i h1, hkp i (fun hb => hni (.inl ((hF i).2 hb))) (by omega)]
   exact x5.heap hi
 ·rintro F us o w3 ⟨hF, ho, hbl, hz⟩ hD
  rw [yW, List.take_of_length_le (by rw [dO]; exact Nat.le_refl _)] at ho
  refine (EB o (made ae p) w3 (ag.low ho (Nat.zero_le _))).mono ?_
  rintro e w4 ⟨⟨s4, rfl, hs4⟩, rfl⟩
  refine ⟨s4, rfl, rfl, rfl, (Ac s4 (made ae p) w4 hs4 (by rw [dO]; decide)).mono ?_⟩
  rintro e w5 ⟨s5, rfl, ho5, x5⟩
  refine ⟨s5, rfl, x5.k, x5.k, (x5.k).trans hD, fun w6 hrec => ?_⟩
  have hz5 := x5.size
  have ho6 : jX w.heap.size w6 s5 (bk (made ae p)) := ag.low (ag.aW ho5 fun i hi => hrec.same i (by have := (ho5.own.lt hi).1; omega)) (by omega)
  exact ⟨s5, rfl, ho6, (hbl.tr x5).trans (Below.mono (hrec.below (Nat.le_refl _)) (by omega))⟩
end Go.Proofs.YtalpkjfpmdpbiaaGreatDoor
namespace Go.Proofs.YtalpkjfpmdpbiaaGreatDoor
open Go Go.Vc Go.RowKit Go.Proofs Go.bY Go.aD
abbrev q9:TypeId:=183
structure yx (w : World) (g : Nat) (s : Sl) (p : Po) (C : List Int) : Prop where
 row : Row w g [p.1, p.2, s] q9
 own : jX 0 w s (bk C)
 len : C.length = 8192
 may : ∀ b ∈ C, aE b = true
theorem yx.aW {w w' : World} {g : Nat} {s : Sl} {p : Po} {C : List Int} (h : yx w g s p C) {F : Nat → Prop} (hm : Mod F w w') (hg : ¬ F g) (hs : ∀ b, s.ay = some b → ¬ F b) : yx w' g s p C :=
 ⟨hm.row h.row hg, hm.bT h.own hs, h.len, h.may⟩
theorem yx.ext {w w' : World} {g : Nat} {s : Sl} {p : Po} {C : List Int} (h : yx w g s p C) (x : Ext w w') : yx w' g s p C := ⟨h.row.ext x, ag.ext h.own x, h.len, h.may⟩
theorem yx.bd {w : World} {g : Nat} {s : Sl} {p : Po} {C : List Int} (h : yx w g s p C) : Bd C.length := by rw [h.len]; decide
def oK (p : Po) (c : Ce) : Bool := decide (0 ≤ c.2.1) && decide (c.2.1 < 32) && (pos c == p)
theorem ct(p:Po)(c:Ce):oK p c=true ↔ ig c/\pos c=p:=by
 unfold oK ig
 simp only [Bool.and_eq_true,decide_eq_true_eq,beq_iff_eq]
def rA (p : Po) (C : List Int) (c : Ce) : Int := if oK p c then EG C (idx c) else 0
def dc (p : Po) (C : List Int) (c : Ce) (b : Int) : List Int × Int := if oK p c = false then (C, 5) else if aE b = false then (C, 1) else (C.set (idx c).toNat b, 0)
theorem yb (p : Po) (c : Ce) (hc : lx c) (w : World) : Calls Tryz.prog cN #[pv p, iR c] w fun e w' => (∃ i, e = .returned (.tuple #[.int .i64 i, .bool (oK p c)]) ∧ (oK p c = true → i = idx c)) ∧ Ext w w' := by
 apply fN.vc
 intro w0 e0 w1 e1
 have z0 := cL e0
 have z1 : w1.heap.size = w.heap.size + 2 := by rw [e1]; simp [z0]
 have x1 : Ext w w1 := ((Ext.ao w).aa e0).aa e1
 have hb : Row w1 w.heap.size [p.1, p.2] 181 := (by rw [e0]; exact Row.new w [_, _] _ : Row w0 w.heap.size [p.1, p.2] 181).ext ((Ext.ao _).aa e1)
 refine (uP c w1).mono ?_
 rintro e w2 ⟨⟨i, b, rfl, hi⟩, x2⟩
 have z2 := x2.size
 refine ⟨i, b, rfl, x2.k, x2.k, Br.mk (fun hbb => ?_) (fun hbb => ?_)⟩
 ·rcases hi with ⟨-, hy, rfl⟩ | ⟨h, -⟩
  ·refine (j7 c hc w2.drew).mono ?_
   rintro e w5 ⟨rfl, x5⟩
   refine ⟨_, _, rfl, x5.heap (show w.heap.size < w2.heap.size by omega), x5.heap (show w0.heap.size < w2.heap.size by omega), ((hb.ext x2).ext (Ext.dr _) |>.ext x5).aL (fun j hj => by rw [Nat.zero_add]), ?_, (x1.tr x2).tr ((Ext.dr _).tr x5)⟩
   refine ⟨_, ?_, fun _ => rfl⟩
   have : oK p c = (((pos c).1 == p.1) && ((pos c).2 == p.2)) := by
    unfold oK
    unfold ig at hy
    rw [decide_eq_true hy.1, decide_eq_true hy.2]
    rfl
   rw [this]
  ·rw [h] at hbb; cases hbb
 ·rcases hi with ⟨h, -⟩ | ⟨-, hy, rfl⟩
  ·rw [h] at hbb; cases hbb
  ·have : oK p c = false := by
    cases hk : oK p c with
    | false => rfl
    | true => exact absurd ((ct p c).1 hk).1 hy
   rw [this]
   exact ⟨⟨_, rfl, fun h => by cases h⟩, (x1.tr x2).drew⟩
theorem IZ (y g : Int) : aE (yi y g) = true := by
 rcases E4 y g with h | h | h | h | h <;> rw [h] <;> decide +kernel
theorem BD (ae : Int) (p : Po) : ∀ b ∈ made ae p, aE b = true := by
 intro b hb
 unfold made at hb
 obtain ⟨i, _, rfl⟩ := List.mem_map.1 hb
 exact IZ _ _
theorem CS (ae : Int) (p : Po) (hp : DH p) (w : World) : Calls Tryz.prog mw #[ae, pv p] w fun e w' => ∃ g s, e = .returned (.pointer (some ⟨g, 0, none⟩)) ∧ yx w' g s p (made ae p) ∧ Ext w w' ∧ w.heap.size ≤ g ∧ ∀ b, s.ay = some b → w.heap.size ≤ b := by
 apply qQ.vc
 intro w0 e0
 have x0 : Ext w w0 := (Ext.ao w).aa e0
 have z0 := cL e0
 have hb : Row w0 w.heap.size [p.1, p.2] FR := by rw [e0]; exact Row.new w [_, _] _
 have fin : ∀ {w1 w3 : World} {s : Sl}, Ext w0.drew w1 → jX w0.drew.heap.size w1 s (bk (made ae p)) → w3 = w1.alloc (.cells #[p.1, p.2, .slice s.a s.n s.c] q9) → yx w3 w1.heap.size s p (made ae p) ∧ Ext w w3 ∧ w.heap.size ≤ w1.heap.size ∧ ∀ b, s.ay = some b → w.heap.size ≤ b := fun {w1 w3 s} x1 ho e3 => by
  have x3 : Ext w1 w3 := (Ext.ao _).aa e3
  refine ⟨⟨by rw [e3]; exact Row.new w1 [_, _, _] _, (ag.low ho (Nat.zero_le _)).ext x3, dO _ _, BD _ _⟩, ((x0.drew).tr x1).tr x3, (x0.drew.tr x1).size, fun b hb => Nat.le_trans x0.drew.size (ho.own.lt hb).1⟩
 refine ⟨(uR ae p hp w0.drew).mono ?_, (uR ae p hp w0.drew).mono ?_⟩
 ·rintro e w1 ⟨s, rfl, ho, x1⟩
  refine ⟨s, rfl, x1.heap (show w.heap.size < w0.heap.size by omega), fun w3 e3 => ⟨_, s, rfl, fin x1 ho e3⟩⟩
 ·rintro e w1 ⟨s, rfl, ho, x1⟩
  refine ⟨s, rfl, x1.heap (show w.heap.size < w0.heap.size by omega), ((hb.ext (Ext.dr _)).ext x1).aL (fun j hj => by rw [Nat.zero_add]), fun w3 e3 => ⟨_, s, rfl, fin x1 ho e3⟩⟩
end Go.Proofs.YtalpkjfpmdpbiaaGreatDoor
namespace Go.Proofs.YtalpkjfpmdpbiaaGreatDoor
open Go Go.Vc Go.RowKit Go.Proofs Go.bY Go.aD
theorem yx.pos {w : World} {g : Nat} {s : Sl} {p : Po} {C : List Int} (h : yx w g s p C) : ah w (ab (some ⟨g, 0, none⟩) 0) 0 [p.1, p.2] := by
 rw [aV]
 exact h.row.aL (fun j hj => by
  simp at hj
  rcases j with _ | _ | j
  ·rfl
  ·rfl
  ·omega)
theorem y2 {C : List Int} (h : C.length = 8192) : (∀ r ∈ bk C, 0 ≤ r.1) ∧ aC (bk C) ≤ 1099511627776 ∧ Bd (bk C).length := by
 refine ⟨fun r hr => by have := (fG hr).1; omega, by rw [eG, h]; decide, ?_⟩
 have := jb C
 show (bk C).length ≤ 1099511627776
 omega
theorem vE {w : World} {g : Nat} {s : Sl} {p : Po} {C : List Int} (h : yx w g s p C) (c : Ce) (hc : lx c) : Calls Tryz.prog ei #[.pointer (some ⟨g, 0, none⟩), iR c] w fun e w' => e = .returned (.tuple #[.int .i64 (rA p C c), .bool (oK p c)]) ∧ Ext w w' := by
 apply jL.vc
 intro w0 e0
 have x0 : Ext w w0.drew := (Ext.ao w |>.aa e0).drew
 have z0 := cL e0
 have h0 := h.ext x0
 refine ⟨p.1, p.2, h0.pos, (yb p c hc w0.drew).mono ?_⟩
 rintro e w3 ⟨⟨i, rfl, hi⟩, x3⟩
 have h3 := h0.ext x3
 have z3 := x3.size
 refine ⟨i, _, rfl, x3.heap (show w.heap.size < w0.heap.size by omega), Br.mk (fun hb => ?_) (fun hb => ?_)⟩
 ·have hf : oK p c = false := by simpa using hb
  refine ⟨?_, x0.tr x3⟩
  unfold rA
  rw [hf]; rfl
 ·have hk : oK p c = true := by simpa using hb
  have hie := hi hk
  subst hie
  have hidx := mC ((ct p c).1 hk).1
  obtain ⟨q1, q2, q3⟩ := y2 h.len
  refine ⟨s, h3.row.at 2 rfl, (AL s (bk C) (idx c) w3 (jX.qy h3.own) q3 q1 q2 (by unfold inI; omega)).mono ?_⟩
  rintro e w7 ⟨rfl, x7⟩
  refine ⟨_, rfl, x7.heap (Nat.lt_of_lt_of_le (show w.heap.size < w0.heap.size by omega) z3), ?_, (x0.tr x3).tr x7⟩
  rw [fo]
  unfold rA
  rw [hk]; rfl
theorem DV{p:Po}{C:List Int}(hl:C.length=8192)(hm:∀b ∈ C,aE b=true)(c:Ce)(b:Int):(dc p C c b).1.length=8192/\∀x ∈(dc p C c b).1,aE x=true:=by
 unfold dc
 split
 ·exact⟨hl,hm⟩
 ·split
  ·exact⟨hl,hm⟩
  ·rename_i h
   refine⟨by rw [List.length_set];exact hl,fun x hx=> ?_⟩
   rcases List.mem_or_eq_of_mem_set hx with h1|h1
   ·exact hm x h1
   ·subst h1;simpa using h
theorem G1 {w : World} {g : Nat} {s : Sl} {p : Po} {C : List Int} (h : yx w g s p C) (c : Ce) (hc : lx c) (b : Int) :
  Calls Tryz.prog dD #[.pointer (some ⟨g, 0, none⟩), iR c, b] w fun e w' => e = .returned (.int .i64 (dc p C c b).2) ∧ ∃ s', yx w' g s' p (dc p C c b).1 ∧ Mod (fun i => i = g) w w' ∧ (∀ i, s'.ay = some i → s.ay = some i ∨ w.heap.size ≤ i) := by
 apply iB.vc
 intro w0 e0
 have x0 : Ext w w0.drew := (Ext.ao w |>.aa e0).drew
 have z0 := cL e0
 have hgl := h.row.lt
 have h0 := h.ext x0
 refine ⟨p.1, p.2, h0.pos, (yb p c hc w0.drew).mono ?_⟩
 rintro e w3 ⟨⟨i, rfl, hi⟩, x3⟩
 have h3 := h0.ext x3
 have z3 := x3.size
 have z3' : w.heap.size < w3.heap.size := Nat.lt_of_lt_of_le (show w.heap.size < w0.heap.size by omega) z3
 refine ⟨i, _, rfl, x3.heap (show w.heap.size < w0.heap.size by omega), Br.mk (fun hb => ?_) (fun hb => ?_)⟩
 ·have hf : oK p c = false := by simpa using hb
  have e : dc p C c b = (C, 5) := by unfold dc; rw [if_pos hf]
  rw [e]
  exact ⟨rfl, s, h3, Mod.aw (x0.tr x3), fun i hi => .inl hi⟩
 ·have hk : oK p c = true := by simpa using hb
  have hie := hi hk
  subst hie
  have hidx := mC ((ct p c).1 hk).1
  refine (dY b w3).mono ?_
  rintro e w6 ⟨rfl, x6⟩
  have h6 := h3.ext x6
  have z6 := x6.size
  refine ⟨_, rfl, x6.heap z3', Br.mk (fun hb2 => ?_) (fun hb2 => ?_)⟩
  ·have hf : aE b = false := by simpa using hb2
   have e : dc p C c b = (C, 1) := by unfold dc; rw [if_neg (by simp [hk]), if_pos hf]
   rw [e]
   exact ⟨rfl, s, h6, Mod.aw ((x0.tr x3).tr x6), fun i hi => .inl hi⟩
  ·have hm : aE b = true := by simpa using hb2
   have e : dc p C c b = (C.set (idx c).toNat b, 0) := by unfold dc; rw [if_neg (by simp [hk]), if_neg (by simp [hm])]
   refine ⟨s, h6.row.at 2 rfl, (yH s C (idx c) b w6 (jX.qy h6.own) h.bd (by unfold inI; omega)).mono ?_⟩
   rintro e9 w9 ⟨s10, rfl, ho, x9⟩
   have hs : qA C (idx c) b = C.set (idx c).toNat b := by unfold qA; rw [if_pos ⟨hm, hidx.1, by rw [h.len]; omega⟩]
   rw [hs] at ho
   obtain ⟨p1, p2⟩ := (h6.row.ext x9).gg (j := 2) (v := .slice s10.a s10.n s10.c) (by simp) rfl
   refine ⟨s10, rfl, x9.k, ⟨rfl, p1⟩, ?_, fun w11 e11 => ?_⟩
   ·rw [bC]
    intro e
    have : g = w.heap.size := by simpa [bK] using e
    omega
   ·obtain ⟨q1, q2⟩ := p2 w11 e11
    have hok := DV (p := p) h.len h.may c b
    rw [e] at hok ⊢
    refine ⟨rfl, s10, ⟨q1, q2.bT (ag.low ho (Nat.zero_le _)) fun i hi hf => ?_, hok.1, hok.2⟩, (Mod.aw (((x0.tr x3).tr x6).tr x9)).trans q2, fun i hi => .inr ?_⟩
    ·obtain ⟨cs, hr⟩ := av ho (by decide) hi
     exact hr.ne (h6.row.ext x9) (by decide) hf
    ·have := (ho.own.lt hi).1
     have := (x0.tr x3).size
     omega
theorem qx (p : Po) (w : World) : Calls Tryz.prog bW #[pv p] w fun e w' => e = .returned (pv p) ∧ Ext w w' := by
 apply fM.vc
 intro w0 e0 w1 e1 w2 e2
 have z0 := cL e0
 exact ⟨rfl, (((Ext.ao w).aa e0).aa e1).af e2 (by omega)⟩
end Go.Proofs.YtalpkjfpmdpbiaaGreatDoor
namespace Go.Proofs.YtalpkjfpmdpbiaaGreatDoor
open Go Go.Vc Go.RowKit Go.Proofs Go.bY Go.aD
end Go.Proofs.YtalpkjfpmdpbiaaGreatDoor
namespace Go.Proofs.YtalpkjfpmdpbiaaGreatDoor
open Go Go.Vc Go.RowKit Go.Proofs Go.bY Go.aD
end Go.Proofs.YtalpkjfpmdpbiaaGreatDoor
namespace Go.Proofs.YtalpkjfpmdpbiaaGreatDoor
open Go Go.Vc Go.RowKit Go.Proofs Go.bY Go.aD
abbrev kv(p:Po)(s:Sl):Value:=.agg #[p.1,p.2,s]
abbrev tK:TypeId:=108
theorem uX (p : Po) (s : Sl) (c : Ce) (hc : lx c) (w : World) : Calls Tryz.prog gR #[kv p s, iR c] w fun e w' => e = .returned (.int .i64 (if oK p c then idx c else -1)) ∧ Ext w w' := by
 apply oJ.vc
 intro w0 e0 w1 e1
 have z0 := cL e0
 have z1 : w1.heap.size = w.heap.size + 2 := by rw [e1]; simp [z0]
 have x1 : Ext w w1 := ((Ext.ao w).aa e0).aa e1
 have hb : Row w1 w.heap.size [p.1, p.2, s] tK := (by rw [e0]; exact Row.new w [_, _, _] _ : Row w0 w.heap.size [p.1, p.2, s] tK).ext ((Ext.ao _).aa e1)
 refine (zY c w1).mono ?_
 rintro e w2 ⟨⟨i, b, rfl, hi⟩, x2⟩
 have z2 := x2.size
 refine ⟨i, b, rfl, x2.k, x2.k, Br.mk (fun hbb => ?_) (fun hbb => ?_)⟩
 ·rcases hi with ⟨h, -⟩ | ⟨-, hy, -⟩
  ·rw [h] at hbb; cases hbb
  ·have : oK p c = false := by
    cases hk : oK p c with
    | false => rfl
    | true => exact absurd ((ct p c).1 hk).1 hy
   rw [this]
   exact ⟨rfl, (x1.tr x2).drew⟩
 ·rcases hi with ⟨-, hy, rfl⟩ | ⟨h, -⟩
  ·refine (lW c hc w2.drew).mono ?_
   rintro e w5 ⟨rfl, x5⟩
   have xx : Ext w w5 := (x1.tr x2).tr ((Ext.dr _).tr x5)
   have hb5 := (hb.ext x2).ext (Ext.dr _) |>.ext x5
   refine ⟨_, _, rfl, x5.heap (show w.heap.size < w2.heap.size by omega), x5.heap (show w0.heap.size < w2.heap.size by omega), hb5.aL (fun j hj => by
    simp at hj
    rcases j with _ | _ | j
    ·rfl
    ·rfl
    ·omega), Br.mk (fun hq => ?_) (fun hq => ?_)⟩
   ·have : oK p c = false := by
     cases hk : oK p c with
     | false => rfl
     | true =>
       have he := ((ct p c).1 hk).2
       rw [← he] at hq
       simp at hq
    rw [this]; exact ⟨rfl, xx⟩
   ·have : oK p c = true := by
     refine (ct p c).2 ⟨hy, ?_⟩
     simp only [Bool.not_eq_false', Bool.and_eq_true, beq_iff_eq] at hq
     exact Prod.ext hq.1 hq.2
    rw [this]; exact ⟨rfl, xx⟩
  ·rw [h] at hbb; cases hbb
end Go.Proofs.YtalpkjfpmdpbiaaGreatDoor
namespace Go.Proofs.YtalpkjfpmdpbiaaGreatDoor
open Go Go.Vc Go.RowKit Go.Proofs Go.bY Go.aD
end Go.Proofs.YtalpkjfpmdpbiaaGreatDoor
namespace Go.Proofs.YtalpkjfpmdpbiaaGreatDoor
open Go Go.Vc Go.RowKit Go.Proofs Go.bY Go.aD
theorem C1 (ae : Int) (p : Po) (hp : DH p) (w : World) : Calls Tryz.prog r6 #[ae, pv p] w fun e w' => ∃ s, e = .returned (kv p s) ∧ jX w.heap.size w' s (bk (made ae p)) ∧ Ext w w' := by
 apply qS.vc
 intro w0 e0 w1 e1
 have z0 := cL e0
 have z1 : w1.heap.size = w.heap.size + 2 := by rw [e1]; simp [z0]
 have x1 : Ext w w1.drew := (((Ext.ao w).aa e0).aa e1).drew
 have hb : Row w1.drew w.heap.size [p.1, p.2] FR := ((by rw [e0]; exact Row.new w [_, _] _ : Row w0 w.heap.size [p.1, p.2] FR).ext ((Ext.ao _).aa e1)).ext (Ext.dr _)
 refine (yE ae p hp w1.drew).mono ?_
 rintro e w2 ⟨s, rfl, ho, x2⟩
 have zd : w1.drew.heap.size = w1.heap.size := rfl
 refine ⟨s, rfl, x2.k, x2.k, (hb.ext x2).aL (fun j hj => by rw [Nat.zero_add]), fun w4 e4 => ?_⟩
 refine ⟨s, rfl, ?_, (x1.tr x2).af e4 (by omega)⟩
 have := ag.aW ho (w' := w4) fun b hb => by rw [e4]; exact setRow_other _ _ _ _ (by have := (ho.own.lt hb).1; omega)
 exact ag.low this (by omega)
end Go.Proofs.YtalpkjfpmdpbiaaGreatDoor
namespace Go.Proofs.YtalpkjfpmdpbiaaGreatDoor
open Go Go.Vc Go.RowKit Go.Proofs Go.bY Go.aD
def EF (p : Po) (C : List Int) (c : Ce) : Int := if oK p c then EG C (idx c) else -1
theorem Bq {w : World} {s : Sl} {p : Po} {C : List Int} (hs : cU w s (bk C)) (hl : C.length = 8192) (c : Ce) (hc : lx c) :
  Calls Tryz.prog wJ #[kv p s, iR c] w fun e w' => e = .returned (.int .i64 (EF p C c)) ∧ Ext w w' := by
 apply wQ.vc
 obtain ⟨q1, q2, q3⟩ := y2 hl
 have hn := cU.len hs
 intro w0 e0 w1 e1
 have z0 := cL e0
 have z1 : w1.heap.size = w.heap.size + 2 := by rw [e1]; simp [z0]
 have x1 : Ext w w1 := ((Ext.ao w).aa e0).aa e1
 refine (uX p s c hc w1).mono ?_
 rintro e w2 ⟨rfl, x2⟩
 have x02 := x1.tr x2
 refine ⟨_, rfl, x2.k, x2.k, ?_⟩
 unfold EF
 cases hk : oK p c with
 | false => exact Br.mk (fun _ => ⟨rfl, x02⟩) (fun h => by simp at h)
 | true =>
   have hidx := mC ((ct p c).1 hk).1
   have rB : cU w2 s (bk C) := RdK.ext hs x02
   simp only [if_true]
   generalize hii : idx c = ii at hidx
   refine Br.mk (fun h => by simp at h; omega) (fun _ => ?_)
   unfold Bd at q3
   have hsum : aC (bk C) = 8192 := by rw [eG, hl]; rfl
   refine ⟨fun n r t wr => w2 = wr ∧ ∃ k : Nat, r = k ∧ k + n = (bk C).length ∧ t = aC ((bk C).take k) ∧ t ≤ ii, ⟨(bk C).length, trivial, trivial, rfl, 0, rfl, by omega, rfl, hidx.1⟩, ?_⟩
   rintro n us r t wr ⟨rfl, k, rfl, hkn, rfl, hle⟩
   refine Br.mk (fun hc2 => ?_) (fun hc2 => ?_)
   ·replace hc2 := dj hc2
    obtain ⟨rr, hr⟩ := aI (l := bk C) (i := k) (by omega)
    have hw1 := fQ hr
    have hle1 := cD q1 (k + 1)
    have hle0 := cD q1 k
    have hso := cU.some rB (i := k) (by omega)
    have hin := cU.ee rB (i := k) (by omega)
    have hrr := q1 rr (List.mem_of_getElem? hr)
    refine ⟨hin, aG.2 ⟨ef.2 hso, rr.1, cU.c0 rB (i := k) hr, ?_⟩⟩
    have e1 := aj (n := aC ((bk C).take k) + rr.1) (by unfold inI; omega)
    have e2 := aj (n := (k : Int) + 1) (by unfold inI; omega)
    rw [e1, e2]
    refine Br.mk (fun hb => ?_) (fun hb => ?_)
    ·replace hb := dj hb
     refine ⟨hin, aG.2 ⟨ef.2 hso, rr.2, cU.c1 rB (i := k) hr, ?_, x02⟩⟩
     have hlen : ((aA ((bk C).take k)).length : Int) = aC ((bk C).take k) := (bq fun q hq => q1 q (List.mem_of_mem_take hq)).symm
     have hcell := Gz hr (j := (ii - aC ((bk C).take k)).toNat) (by omega)
     rw [fo, show (aA ((bk C).take k)).length + (ii - aC ((bk C).take k)).toNat = ii.toNat by omega] at hcell
     have : EG C ii = rr.2 := by
      unfold EG
      rw [if_neg (by omega), List.getD_eq_getElem?_getD, hcell]; rfl
     rw [this]
    ·replace hb := dH hb
     exact ⟨n - 1, by omega, trivial, trivial, rfl, k + 1, by omega, by omega, hw1.symm, by omega⟩
   ·replace hc2 := dH hc2
    have : k = (bk C).length := by omega
    subst this
    rw [List.take_length, hsum] at hle
    omega
end Go.Proofs.YtalpkjfpmdpbiaaGreatDoor
namespace Go.Proofs.YtalpkjfpmdpbiaaGreatDoor
open Go Go.Vc Go.RowKit Go.Proofs Go.bY Go.aD Go.Code
def HX (w : World) (p : Po) (l : List Rn) (e : Ending) (w' : World) : Prop :=
 (kQ aE l 8192 = true ∧ ∃ g sg, e = .returned (.tuple #[.pointer (some ⟨g, 0, none⟩), (0:Int)]) ∧ yx w' g sg p (aA l) ∧ w.heap.size ≤ g ∧ ∀ b, sg.ay = some b → w.heap.size ≤ b) ∨
 (kQ aE l 8192 = false ∧ e = .returned (.tuple #[.pointer none, (1:Int)]))
theorem sm (p : Po) (s : Sl) (l : List Rn) (w : World) (hs : cU w s l) (hn : Bd l.length) : Calls Tryz.prog ox #[pv p, s] w fun e w' => HX w p l e w' ∧ Ext w w' := by
 apply tJ.vc
 intro w0 e0
 have z0 := cL e0
 have x0 : Ext w w0 := (Ext.ao w).aa e0
 have hb0 : Row w0 w.heap.size [p.1, p.2] FR := by rw [e0]; exact Row.new w [_, _] _
 clear e0
 refine (qm s l 8192 w0 (RdK.ext hs x0) hn (by unfold inI; omega)).mono ?_
 rintro e w1 ⟨rfl, x1⟩
 have z1 := x1.size
 have zd : w1.drew.heap.size = w1.heap.size := rfl
 refine ⟨_, rfl, x1.k, Br.mk (fun hb => ?_) (fun hb => ?_)⟩
 ·have hf : kQ aE l 8192 = false := by simpa using hb
  exact ⟨.inr ⟨hf, rfl⟩, x0.tr x1⟩
 ·have ht : kQ aE l 8192 = true := by simpa using hb
  obtain ⟨i1, i2, i3⟩ := xk ht
  have xd := (x0.tr x1).drew
  have fin : ∀ {w3 w5 : World} {s4 : Sl}, Ext w1.drew w3 → jX w1.drew.heap.size w3 s4 l → w5 = w3.alloc (.cells #[p.1, p.2, s4] q9) → HX w p l (.returned (.tuple #[.pointer (some ⟨w3.heap.size, 0, none⟩), (0:Int)])) w5 ∧ Ext w w5 := fun {w3 w5 s4} x3 ho e5 => by
   have x5 : Ext w3 w5 := (Ext.ao _).aa e5
   have z3 := x3.size
   refine ⟨.inl ⟨ht, _, s4, rfl, ⟨by rw [e5]; exact Row.new w3 [_, _, _] _, ?_, by omega, i2⟩, by omega, fun b hb => by have := (ho.own.lt hb).1; omega⟩, xd.tr (x3.tr x5)⟩
   rw [i1]
   exact (ag.low ho (Nat.zero_le _)).ext x5
  refine ⟨(gF s l w1.drew (RdK.ext hs xd) hn).mono ?_, (gF s l w1.drew (RdK.ext hs xd) hn).mono ?_⟩
  ·rintro e w3 ⟨s4, rfl, ho, x3⟩
   exact ⟨s4, rfl, x3.k, fun w5 e5 => fin x3 ho e5⟩
  ·rintro e w3 ⟨s4, rfl, ho, x3⟩
   exact ⟨s4, rfl, x3.k, ((hb0.ext x1.drew).ext x3).aL (fun j hj => by rw [Nat.zero_add]), fun w5 e5 => fin x3 ho e5⟩
def Jf (w : World) (p : Po) (b : List Int) (e : Ending) (w' : World) : Prop :=
 ((bj aE b 8192).2 = 0 ∧ ∃ g sg, e = .returned (.tuple #[.pointer (some ⟨g, 0, none⟩), (0:Int)]) ∧ yx w' g sg p (aA (bj aE b 8192).1) ∧ w.heap.size ≤ g ∧ bk (aA (bj aE b 8192).1) = (bj aE b 8192).1 ∧ ∀ b, sg.ay = some b → w.heap.size ≤ b) ∨
 ((bj aE b 8192).2 ≠ 0 ∧ e = .returned (.tuple #[.pointer none, .int .i64 (bj aE b 8192).2]))
theorem EJ (p : Po) (s : Sl) (b : List Int) (w : World) (hs : cX w s b) (hb : H3 b) (hc : s.n ≤ s.c) (hl : b.length ≤ 1099511627776) : Calls Tryz.prog mv #[pv p, s] w fun e w' => Jf w p b e w' ∧ Ext w w' := by
 apply qP.vc
 intro w0 e0
 have z0 := cL e0
 have x0 : Ext w w0 := (Ext.ao w).aa e0
 clear e0
 refine (ya s b 8192 w0 (RdK.ext hs x0) hb hc hl (by decide) (by unfold inI; omega)).mono ?_
 rintro e w1 ⟨⟨s2, rfl, ho⟩, x1⟩
 have z1 := x1.size
 have hlen := FA (may := aE) b 8192
 have hag := u9 (b := b) (n := 8192) hb (by decide)
 refine ⟨s2, _, rfl, x1.k, Br.mk (fun hne => ?_) (fun hne => ?_)⟩
 ·exact ⟨.inr ⟨by simpa using hne, rfl⟩, x0.tr x1⟩
 ·have h0 : (bj aE b 8192).2 = 0 := by simpa using hne
  obtain ⟨f1, f2, f3⟩ := hag h0
  have hm : kQ aE (bj aE b 8192).1 8192 = true := by
   have := f2.kQ (by omega)
   rw [f3] at this; exact this
  refine (sm p s2 _ w1 (jX.qy ho) (by show _ ≤ _; omega)).mono ?_
  rintro e w4 ⟨hr, x4⟩
  rcases hr with ⟨-, g, sg, rfl, hk, hg, hgb⟩ | ⟨hf, -⟩
  ·exact ⟨_, _, rfl, x4.k, .inl ⟨h0, g, sg, rfl, hk, by omega, (xk hm).1, fun b hb => by have := hgb b hb; omega⟩, x0.tr (x1.tr x4)⟩
  ·rw [hm] at hf; cases hf
end Go.Proofs.YtalpkjfpmdpbiaaGreatDoor
namespace Go.Proofs.YtalpkjfpmdpbiaaGreatDoor
open Go Go.Vc Go.RowKit Go.Proofs Go.bY Go.aD Go.Code
theorem y8 {C : List Int} (hl : C.length = 8192) (hm : ∀ b ∈ C, aE b = true) : okW aE (bk C) = true ∧ bk C ≠ [] ∧ dW aE (-1) (bk C) ∧ aC (bk C) = 8192 := by
 have hs : aC (bk C) = 8192 := by rw [eG, hl]; rfl
 have hne : bk C ≠ [] := by
  intro e
  rw [e] at hs
  cases hs
 have hc : ∀ r ∈ bk C, aE r.2 = true := fun r hr => by
  refine hm _ ?_
  have := EN hr (fG hr).1
  rwa [fo] at this
 refine ⟨JT (wY C) hc (by omega) hne, hne, ?_, hs⟩
 refine dW.of (fun r hr => ?_) (wY C).next (fun r hr => ?_)
 ·have h1 := fG hr
  have h2 := hc r hr
  have h3 := h2
  unfold aE at h3
  simp only [Bool.and_eq_true, decide_eq_true_eq] at h3
  exact ⟨h1.1, by omega, by omega, by omega, h2⟩
 ·have h2 := hc r (List.mem_of_mem_head? hr)
  unfold aE at h2
  simp only [Bool.and_eq_true, decide_eq_true_eq] at h2
  omega
theorem EO {C : List Int} (hl : C.length = 8192) (hm : ∀ b ∈ C, aE b = true) : ∀ r ∈ bk C, inI r.1 ∧ inI r.2 := EP (y8 hl hm).2.2.1
theorem CN {w : World} {g : Nat} {s : Sl} {p : Po} {C : List Int} (h : yx w g s p C) : Calls Tryz.prog eB #[.pointer (some ⟨g, 0, none⟩)] w fun e w' => ∃ s' : Sl, e = .returned s' ∧ kG w.heap.size w' s' (lY (bk C)) ∧ Ext w w' := by
 apply fO.vc
 have hlen := jb C
 have hl := h.len
 refine ⟨s, h.row.at 2 rfl, (vu s (bk C) w (jX.qy h.own) (by omega) (EO h.len h.may)).mono ?_⟩
 rintro e w1 ⟨⟨s2, rfl, ho⟩, x1⟩
 rw [if_pos (y8 h.len h.may).1] at ho
 exact ⟨s2, _, rfl, s2, rfl, ho, x1⟩
end Go.Proofs.YtalpkjfpmdpbiaaGreatDoor
