import Derived.Test.YtfipllblcnahdaaDoorKN
set_option linter.all false
namespace Go.Proofs.YtfipllblcnahdaaDoor
open Go Go.Vc Go.RowKit Go.Proofs Go.Chk Go.Runs

theorem rMake_spec (seed : Int) (p : Po) (hp : okP p) (w : World) : Calls Tryd.prog n_ref11_Make #[.int .i64 seed, pv p] w fun e w' => ∃ s, e = .returned (kv p s) ∧ OwR w.heap.size w' s (ofC (made seed p)) ∧ Ext w w' := by
  apply ref11_Make.vc
  intro w0 e0 w1 e1
  have z0 : w0.heap.size = w.heap.size + 1 := by rw [e0]; simp
  have z1 : w1.heap.size = w.heap.size + 2 := by rw [e1]; simp [z0]
  have x1 : Ext w w1.drew := (((Ext.rfl' w).of_alloc e0).of_alloc e1).drew
  have hb : Row w1.drew w.heap.size [.int .i64 p.1, .int .i64 p.2] tPo := ((by rw [e0]; exact Row.new w [_, _] _ : Row w0 w.heap.size [.int .i64 p.1, .int .i64 p.2] tPo).ext ((Ext.rfl' _).of_alloc e1)).ext (Ext.dr _)
  refine (rChunk10_spec seed p hp w1.drew).mono ?_
  rintro e w2 ⟨s, rfl, ho, x2⟩
  have zd : w1.drew.heap.size = w1.heap.size := rfl
  refine ⟨s, rfl, x2.heap (by omega), x2.heap (by omega), (hb.ext x2).loadL (fun j hj => by rw [Nat.zero_add]), fun w4 e4 => ?_⟩
  refine ⟨s, rfl, ?_, (x1.tr x2).of_setRow e4 (by omega)⟩
  have := OwnK.keep ho (w' := w4) fun b hb => by rw [e4]; exact setRow_other _ _ _ _ (by have := (ho.own.lt hb).1; omega)
  exact OwnK.low this (by omega)
theorem rSet_spec {w : World} {s : Sl} {p : Po} {C : List Int} (ho : OwR 0 w s (ofC C)) (hl : C.length = 8192) (c : Ce) (hc : okC c) (b : Int) :
    Calls Tryd.prog n_ref11_Set #[kv p s, cev c, .int .i64 b] w fun e w' => (∃ s', e = .returned (.tuple #[kv p s', .int .i64 (kSet p C c b).2]) ∧ OwR 0 w' s' (ofC (kSet p C c b).1)) ∧ Ext w w' := by
  apply ref11_Set.vc
  intro w0 e0 w1 e1 w2 e2
  have z0 : w0.heap.size = w.heap.size + 1 := by rw [e0]; simp
  have z1 : w1.heap.size = w.heap.size + 2 := by rw [e1]; simp [z0]
  have z2 : w2.heap.size = w.heap.size + 3 := by rw [e2]; simp [z1]
  have x2 : Ext w w2 := (((Ext.rfl' w).of_alloc e0).of_alloc e1).of_alloc e2
  refine (rIndex_spec p s c hc w2).mono ?_
  rintro e w3 ⟨rfl, x3⟩
  have z3 := x3.size
  have x03 := x2.tr x3
  refine ⟨_, rfl, x3.heap (by omega), x3.heap (by omega), x3.heap (by omega), ?_⟩
  cases hk : inK p c with
  | false =>
    have e : kSet p C c b = (C, 5) := by unfold kSet; rw [if_pos hk]
    rw [e]
    refine Br.mk (fun _ => fun w5 e5 => ?_) (fun h => by simp at h)
    have x5 := x03.of_setRow e5 (by omega)
    exact ⟨⟨s, rfl, OwnK.ext ho x5⟩, x5⟩
  | true =>
    have hidx := idx_in ((inK_iff p c).1 hk).1
    refine Br.mk (fun h => by simp at h; omega) (fun _ => ?_)
    refine (ref04_May_spec b w3).mono ?_
    rintro e w6 ⟨rfl, e6⟩
    have x6 : Ext w3 w6 := by rw [e6]; exact Ext.rfl' _
    clear e6
    have z6 := x6.size
    refine ⟨_, rfl, x6.heap (by omega), x6.heap (by omega), x6.heap (by omega), Br.mk (fun hb2 => ?_) (fun hb2 => ?_)⟩
    · have hf : bMay b = false := by simpa using hb2
      have e : kSet p C c b = (C, 1) := by unfold kSet; rw [if_neg (by simp [hk]), if_pos hf]
      rw [e]
      intro w8 e8
      have x8 := (x03.tr x6).of_setRow e8 (by omega)
      exact ⟨⟨s, rfl, OwnK.ext ho x8⟩, x8⟩
    · have hm : bMay b = true := by simpa using hb2
      have e : kSet p C c b = (C.set (idx c).toNat b, 0) := by unfold kSet; rw [if_neg (by simp [hk]), if_neg (by simp [hm])]
      have h6 : OwR 0 w6 s (ofC C) := OwnK.ext ho (x03.tr x6)
      rw [e]
      refine (ref05_Set_spec s C (idx c) b w6 (OwR.rdr h6) (by rw [hl]; decide)).mono ?_
      rintro e9 w9 ⟨s10, rfl, ho9, x9⟩
      have hs : setC C (idx c) b = C.set (idx c).toNat b := by unfold setC; rw [if_pos ⟨hm, hidx.1, by rw [hl]; omega⟩]
      rw [hs] at ho9
      refine ⟨s10, rfl, x9.heap (by omega), x9.heap (by omega), x9.heap (by omega), fun w11 e11 w12 e12 => ?_⟩
      have x12 := (((x03.tr x6).tr x9).of_setRow e11 (Nat.le_refl _)).of_setRow e12 (by omega)
      have hlow := fun b (hb : s10.blk = some b) => (ho9.own.lt hb).1
      refine ⟨⟨s10, rfl, OwnK.low (OwnK.keep ho9 fun b hb => ?_) (Nat.zero_le _)⟩, x12⟩
      have := hlow b hb
      rw [e12, setRow_other _ _ _ _ (by omega), e11, setRow_other _ _ _ _ (by omega)]
end Go.Proofs.YtfipllblcnahdaaDoor
