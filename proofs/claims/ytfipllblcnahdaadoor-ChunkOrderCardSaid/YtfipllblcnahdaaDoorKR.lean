import Derived.Test.YtfipllblcnahdaaDoorKQ
import Derived.Test.YtfipllblcnahdaaDoorLO
set_option linter.all false
namespace Go.Proofs.YtfipllblcnahdaaDoor
open Go Go.Vc Go.RowKit Go.Proofs Go.Chk Go.Runs

/-- A cell of the chunk 0, 0. -/
def in0 (c : Ce) : Prop := (0 ≤ c.1 ∧ c.1 < 16) ∧ (0 ≤ c.2.1 ∧ c.2.1 < 32) ∧ (0 ≤ c.2.2 ∧ c.2.2 < 16)
theorem in0_K {c : Ce} (h : in0 c) : inK (0, 0) c = true ∧ okC c := by
  obtain ⟨h1, h2, h3⟩ := h
  refine ⟨(inK_iff _ _).2 ⟨h2, Prod.ext ?_ ?_⟩, ?_⟩
  · show c.1 / 16 = 0; omega
  · show c.2.2 / 16 = 0; omega
  · unfold okC inI; omega
theorem in0_inj {c d : Ce} (hc : in0 c) (hd : in0 d) (h : idx c = idx d) : c = d := by
  have h1 := ((inK_iff _ _).1 (in0_K hc).1)
  have h2 := ((inK_iff _ _).1 (in0_K hd).1)
  rw [← cellAt_idx h1.1, ← cellAt_idx h2.1, h1.2, h2.2, h]
theorem kSet_in {c : Ce} (hc : in0 c) (C : List Int) {b : Int} (hb : bMay b = true) : kSet (0, 0) C c b = (C.set (idx c).toNat b, 0) := by
  unfold kSet
  rw [if_neg (by simp [(in0_K hc).1]), if_neg (by simp [hb])]
theorem order_tail {w wL : World} {g1 g2 b0 b1 b2 b3 : Nat} {s1 s2 : Sl} {M : List Int} {c d : Ce} {a3 a4 : Int} (h1 : KIs wL g1 s1 (0, 0) M) (h2 : KIs wL g2 s2 (0, 0) M) (hne : g1 ≠ g2) (hg1 : w.heap.size ≤ g1) (hg2 : w.heap.size ≤ g2) (xL : Ext w wL)
    (k0 : b0 < wL.heap.size ∧ b0 ≠ g1 ∧ b0 ≠ g2) (k1 : b1 < wL.heap.size ∧ b1 ≠ g1 ∧ b1 ≠ g2) (r2 : Row wL b2 [.int .i64 c.1, .int .i64 c.2.1, .int .i64 c.2.2] tCe) (r3 : Row wL b3 [.int .i64 d.1, .int .i64 d.2.1, .int .i64 d.2.2] tCe) (hc : in0 c) (hd : in0 d) (i3 : inI a3) (i4 : inI a4) {R : Ending → World → Prop} (hR : ∀ w', Ext w w' → R (.returned (.bool true)) w') :
    Calls Tryd.prog 12 #[.int .i64 a3] wL (fun e w22 => ∃ (x23 : Int), e = .returned (.int .i64 x23) ∧ w22.heap[b0]? = wL.heap[b0]? ∧ w22.heap[b1]? = wL.heap[b1]? ∧ w22.heap[b2]? = wL.heap[b2]? ∧ w22.heap[b3]? = wL.heap[b3]? ∧ 
 Calls Tryd.prog 12 #[.int .i64 a4] w22 (fun e w24 => ∃ (x25 : Int), e = .returned (.int .i64 x25) ∧ w24.heap[b0]? = w22.heap[b0]? ∧ w24.heap[b1]? = w22.heap[b1]? ∧ w24.heap[b2]? = w22.heap[b2]? ∧ w24.heap[b3]? = w22.heap[b3]? ∧ 
 Calls Tryd.prog 13 #[.pointer (some ⟨g1, 0, none⟩), .agg #[.int .i64 c.1, .int .i64 c.2.1, .int .i64 c.2.2], .int .i64 x23] w24 (fun e w26 => ∃ (x27 : Int), e = .returned (.int .i64 x27) ∧ w26.heap[b0]? = w24.heap[b0]? ∧ w26.heap[b1]? = w24.heap[b1]? ∧ w26.heap[b2]? = w24.heap[b2]? ∧ w26.heap[b3]? = w24.heap[b3]? ∧ 
 Calls Tryd.prog 13 #[.pointer (some ⟨g1, 0, none⟩), .agg #[.int .i64 d.1, .int .i64 d.2.1, .int .i64 d.2.2], .int .i64 x25] w26 (fun e w28 => ∃ (x29 : Int), e = .returned (.int .i64 x29) ∧ w28.heap[b0]? = w26.heap[b0]? ∧ w28.heap[b1]? = w26.heap[b1]? ∧ w28.heap[b2]? = w26.heap[b2]? ∧ w28.heap[b3]? = w26.heap[b3]? ∧ 
 Calls Tryd.prog 13 #[.pointer (some ⟨g2, 0, none⟩), .agg #[.int .i64 d.1, .int .i64 d.2.1, .int .i64 d.2.2], .int .i64 x25] w28 (fun e w30 => ∃ (x31 : Int), e = .returned (.int .i64 x31) ∧ w30.heap[b0]? = w28.heap[b0]? ∧ w30.heap[b1]? = w28.heap[b1]? ∧ w30.heap[b2]? = w28.heap[b2]? ∧ w30.heap[b3]? = w28.heap[b3]? ∧ 
 Calls Tryd.prog 13 #[.pointer (some ⟨g2, 0, none⟩), .agg #[.int .i64 c.1, .int .i64 c.2.1, .int .i64 c.2.2], .int .i64 x23] w30 (fun e w32 => ∃ (x33 : Int), e = .returned (.int .i64 x33) ∧ w32.heap[b0]? = w30.heap[b0]? ∧ w32.heap[b1]? = w30.heap[b1]? ∧ w32.heap[b2]? = w30.heap[b2]? ∧ w32.heap[b3]? = w30.heap[b3]? ∧ 
 Calls Tryd.prog 14 #[.pointer (some ⟨g1, 0, none⟩), .pointer (some ⟨g2, 0, none⟩)] w32.drew (fun e w34 => ∃ (b35 : Bool), e = .returned (.bool b35) ∧ w34.heap[b0]? = w32.drew.heap[b0]? ∧ w34.heap[b1]? = w32.drew.heap[b1]? ∧ w34.heap[b2]? = w32.drew.heap[b2]? ∧ w34.heap[b3]? = w32.drew.heap[b3]? ∧ 
 LoadL w34 (some ⟨b3, 0, none⟩) 0 [.int .i64 d.1, .int .i64 d.2.1, .int .i64 d.2.2] ∧ LoadL w34 (some ⟨b2, 0, none⟩) 0 [.int .i64 c.1, .int .i64 c.2.1, .int .i64 c.2.2] ∧ Br (!(((c.1 : Int) == d.1) && (((c.2.1 : Int) == d.2.1) && ((c.2.2 : Int) == d.2.2))))
 (Br (b35 == true)
 (Calls Tryd.prog 15 #[] w34 (fun e w36 => ∃ (b37 : Bool), e = .returned (.bool b37) ∧ w36.heap[b0]? = w34.heap[b0]? ∧ w36.heap[b1]? = w34.heap[b1]? ∧ w36.heap[b2]? = w34.heap[b2]? ∧ w36.heap[b3]? = w34.heap[b3]? ∧ 
 LoadL w36 (some ⟨b3, 0, none⟩) 0 [.int .i64 d.1, .int .i64 d.2.1, .int .i64 d.2.2] ∧ LoadL w36 (some ⟨b2, 0, none⟩) 0 [.int .i64 c.1, .int .i64 c.2.1, .int .i64 c.2.2] ∧ R (.returned (.bool b37)) w36))
 (R (.returned (.bool false)) w34))
 (Br (b35 == ((x23 : Int) == x25))
 (Calls Tryd.prog 15 #[] w34 (fun e w38 => ∃ (b39 : Bool), e = .returned (.bool b39) ∧ w38.heap[b0]? = w34.heap[b0]? ∧ w38.heap[b1]? = w34.heap[b1]? ∧ w38.heap[b2]? = w34.heap[b2]? ∧ w38.heap[b3]? = w34.heap[b3]? ∧ 
 LoadL w38 (some ⟨b3, 0, none⟩) 0 [.int .i64 d.1, .int .i64 d.2.1, .int .i64 d.2.2] ∧ LoadL w38 (some ⟨b2, 0, none⟩) 0 [.int .i64 c.1, .int .i64 c.2.1, .int .i64 c.2.2] ∧ R (.returned (.bool b39)) w38))
 (R (.returned (.bool false)) w34))))))))) := by
  have k2 : b2 < wL.heap.size ∧ b2 ≠ g1 ∧ b2 ≠ g2 := ⟨r2.lt, fun e => r2.ne h1.row (by decide) e, fun e => r2.ne h2.row (by decide) e⟩
  have k3 : b3 < wL.heap.size ∧ b3 ≠ g1 ∧ b3 ≠ g2 := ⟨r3.lt, fun e => r3.ne h1.row (by decide) e, fun e => r3.ne h2.row (by decide) e⟩
  refine (ref04_Good_spec a3 wL i3).mono ?_
  rintro e w22 ⟨rfl, rfl⟩
  refine ⟨_, rfl, rfl, rfl, rfl, rfl, (ref04_Good_spec a4 _ i4).mono ?_⟩
  rintro e w22 ⟨rfl, rfl⟩
  have gx := (bGood_bd a3).2.2
  have gy := (bGood_bd a4).2.2
  generalize bGood a3 = x at gx
  generalize bGood a4 = y at gy
  refine ⟨_, rfl, rfl, rfl, rfl, rfl, (Set_spec h1 c (in0_K hc).2 x).mono ?_⟩
  rintro e w26 ⟨rfl, t1, h1a, m1, -⟩
  rw [kSet_in hc M gx] at h1a
  have h2a := h2.keep m1 (fun e => hne e.symm) (fun b hb e => h2.ne h1.row b hb e)
  have z1 := m1.size
  refine ⟨_, rfl, m1.same _ k0.1 k0.2.1, m1.same _ k1.1 k1.2.1, m1.same _ k2.1 k2.2.1, m1.same _ k3.1 k3.2.1, (Set_spec h1a d (in0_K hd).2 y).mono ?_⟩
  rintro e w28 ⟨rfl, t2, h1b, m2, -⟩
  rw [kSet_in hd _ gy] at h1b
  have h2b := h2a.keep m2 (fun e => hne e.symm) (fun b hb e => h2a.ne h1a.row b hb e)
  have z2 := m2.size
  refine ⟨_, rfl, m2.same _ (by omega) k0.2.1, m2.same _ (by omega) k1.2.1, m2.same _ (by omega) k2.2.1, m2.same _ (by omega) k3.2.1, (Set_spec h2b d (in0_K hd).2 y).mono ?_⟩
  rintro e w30 ⟨rfl, t3, h2c, m3, -⟩
  rw [kSet_in hd _ gy] at h2c
  have h1c := h1b.keep m3 (fun e => hne e) (fun b hb e => h1b.ne h2b.row b hb e)
  have z3 := m3.size
  refine ⟨_, rfl, m3.same _ (by omega) k0.2.2, m3.same _ (by omega) k1.2.2, m3.same _ (by omega) k2.2.2, m3.same _ (by omega) k3.2.2, (Set_spec h2c c (in0_K hc).2 x).mono ?_⟩
  rintro e w32 ⟨rfl, t4, h2d, m4, -⟩
  rw [kSet_in hc _ gx] at h2d
  have h1d := h1c.keep m4 (fun e => hne e) (fun b hb e => h1c.ne h2c.row b hb e)
  have z4 := m4.size
  refine ⟨_, rfl, m4.same _ (by omega) k0.2.2, m4.same _ (by omega) k1.2.2, m4.same _ (by omega) k2.2.2, m4.same _ (by omega) k3.2.2, ?_⟩
  have x32 : Ext w w32 := Turn_k m4 (Turn_k m3 (Turn_k m2 (Turn_k m1 xL hg1) hg1) hg2) hg2
  have r2d := m4.row (m3.row (m2.row (m1.row r2 k2.2.1) k2.2.1) k2.2.2) k2.2.2
  have r3d := m4.row (m3.row (m2.row (m1.row r3 k3.2.1) k3.2.1) k3.2.2) k3.2.2
  have xd := Ext.dr w32
  have zd : w32.drew.heap.size = w32.heap.size := rfl
  refine (Same_spec (h1d.ext xd) (h2d.ext xd)).mono ?_
  rintro e w34 ⟨rfl, x34⟩
  have z34 := x34.size
  have ll : ∀ {w' : World} {b : Nat} {c : Ce}, Row w' b [.int .i64 c.1, .int .i64 c.2.1, .int .i64 c.2.2] tCe → LoadL w' (some ⟨b, 0, none⟩) 0 [.int .i64 c.1, .int .i64 c.2.1, .int .i64 c.2.2] := fun h => h.loadL (fun j hj => by rw [Nat.zero_add])
  have r2e := (r2d.ext xd).ext x34
  have r3e := (r3d.ext xd).ext x34
  have x34' := (x32.drew).tr x34
  have key : decide (((0 : Int), (0 : Int)) = (0, 0) ∧ (M.set (idx c).toNat x).set (idx d).toNat y = (M.set (idx d).toNat y).set (idx c).toNat x) = decide (c ≠ d ∨ x = y) := by
    have hic := idx_in ((inK_iff _ _).1 (in0_K hc).1).1
    have hid := idx_in ((inK_iff _ _).1 (in0_K hd).1).1
    refine decide_eq_decide.2 ⟨fun h => ?_, fun h => ⟨rfl, ?_⟩⟩
    · by_cases e : c = d
      · right
        subst e
        have := congrArg (fun l : List Int => l[(idx c).toNat]?) h.2
        simp only [List.set_set] at this
        rw [List.getElem?_set_self (by rw [h1.len]; omega), List.getElem?_set_self (by rw [h1.len]; omega)] at this
        exact (Option.some.inj this).symm
      · exact .inl e
    · rcases h with h | h
      · exact List.set_comm _ _ (fun e => h (in0_inj hc hd (by omega)))
      · subst h
        by_cases e : c = d
        · subst e; rfl
        · exact List.set_comm _ _ (fun e2 => e (in0_inj hc hd (by omega)))
  refine ⟨_, rfl, x34.heap (by omega), x34.heap (by omega), x34.heap (by omega), x34.heap (by omega), ll r3e, ll r2e, ?_⟩
  have fin : Calls Tryd.prog n_law11_lives #[] w34 (fun e w36 => ∃ (b37 : Bool), e = .returned (.bool b37) ∧ w36.heap[b0]? = w34.heap[b0]? ∧ w36.heap[b1]? = w34.heap[b1]? ∧ w36.heap[b2]? = w34.heap[b2]? ∧ w36.heap[b3]? = w34.heap[b3]? ∧ LoadL w36 (some ⟨b3, 0, none⟩) 0 [.int .i64 d.1, .int .i64 d.2.1, .int .i64 d.2.2] ∧ LoadL w36 (some ⟨b2, 0, none⟩) 0 [.int .i64 c.1, .int .i64 c.2.1, .int .i64 c.2.2] ∧ R (.returned (.bool b37)) w36) := by
    refine (lives11_spec w34).mono ?_
    rintro e w36 ⟨rfl, x36⟩
    exact ⟨_, rfl, x36.heap (by omega), x36.heap (by omega), x36.heap (by omega), x36.heap (by omega), ll (r3e.ext x36), ll (r2e.ext x36), hR _ (x34'.tr x36)⟩
  rw [key]
  refine Br.mk (fun hq => Br.mk (fun _ => fin) (fun hb => ?_)) (fun hq => Br.mk (fun _ => fin) (fun hb => ?_))
  · exfalso
    have : c ≠ d := by rintro rfl; simp at hq
    simp [this] at hb
  · exfalso
    have : c = d := by
      simp only [Bool.not_eq_false', Bool.and_eq_true, beq_iff_eq] at hq
      exact Prod.ext hq.1 (Prod.ext hq.2.1 hq.2.2)
    subst this
    by_cases e : x = y <;> simp [e] at hb
end Go.Proofs.YtfipllblcnahdaaDoor
