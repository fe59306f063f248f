import Derived.Test.YtfipllblcnahdaaDoorKR
set_option linter.all false
namespace Go.Proofs.YtfipllblcnahdaaDoor
open Go Go.Vc Go.RowKit Go.Proofs Go.Chk Go.Runs

theorem box3 {w w1 w2 : World} {a b c : Int} (e1 : w1 = w.alloc (.cells #[.int .i64 0, .int .i64 0, .int .i64 0] 23)) (e2 : w2 = w1.setRow w.heap.size #[.int .i64 a, .int .i64 b, .int .i64 c]) :
    Row w2 w.heap.size [.int .i64 a, .int .i64 b, .int .i64 c] tCe ∧ Ext w w2 ∧ w2.heap.size = w.heap.size + 1 := by
  have : Row w1 w.heap.size [.int .i64 0, .int .i64 0, .int .i64 0] 23 := by rw [e1]; exact Row.new w [_, _, _] _
  refine ⟨by rw [e2]; exact this.set [_, _, _], ((Ext.rfl' _).of_alloc e1).of_setRow e2 (Nat.le_refl _), by rw [e2, setRow_size, e1]; simp⟩
def in0c (a : Ce) : Ce := (around a.1 16, around a.2.1 32, around a.2.2 16)
theorem in0c_in (a : Ce) : in0 (in0c a) := ⟨around_bd _ 16 (by decide), around_bd _ 32 (by decide), around_bd _ 16 (by decide)⟩
theorem ChunkOrder_law (seed : Int) (a b : Ce) (x y : Int) (ha : okC a) (hb : okC b) (hx : inI x) (hy : inI y) (w : World) : Calls Tryd.prog n_law11_ChunkOrder #[.int .i64 seed, cev a, cev b, .int .i64 x, .int .i64 y] w fun e w' => e = .returned (.bool true) ∧ Ext w w' := by
  apply law11_ChunkOrder.vc
  obtain ⟨a1, a2, a3⟩ := ha
  obtain ⟨b1, b2, b3⟩ := hb
  intro w0 e0 w1 e1
  have z0 : w0.heap.size = w.heap.size + 1 := by rw [e0]; simp
  have z1 : w1.heap.size = w.heap.size + 2 := by rw [e1]; simp [z0]
  have x1 : Ext w w1 := ((Ext.rfl' w).of_alloc e0).of_alloc e1
  have ra : Row w1 w.heap.size [.int .i64 a.1, .int .i64 a.2.1, .int .i64 a.2.2] tCe := (by rw [e0]; exact Row.new w [_, _, _] _ : Row w0 w.heap.size [.int .i64 a.1, .int .i64 a.2.1, .int .i64 a.2.2] tCe).ext ((Ext.rfl' _).of_alloc e1)
  have rb : Row w1 w0.heap.size [.int .i64 b.1, .int .i64 b.2.1, .int .i64 b.2.2] tCe := by rw [e1]; exact Row.new w0 [_, _, _] _
  refine (Make_spec seed (0, 0) okP0 w1).mono ?_
  rintro e w2 ⟨g1, s1, rfl, h1, x2, hg1⟩
  refine ⟨_, rfl, x2.heap (by omega), x2.heap (by omega), (Make_spec seed (0, 0) okP0 w2).mono ?_⟩
  rintro e w4 ⟨g2, s2, rfl, h2, x4, hg2⟩
  have z2 := x2.size
  have z4 := x4.size
  refine ⟨_, rfl, x4.heap (by omega), x4.heap (by omega), Br.mk (fun h => by cases h) (fun _ => Br.mk (fun h => by cases h) (fun _ => ?_))⟩
  have hgne : g1 ≠ g2 := by have := h1.row.lt; omega
  have x4d := (x2.tr x4).drew
  have ra4 := ra.ext x4d
  have rb4 := rb.ext x4d
  have h1d := (h1.ext x4).ext (Ext.dr _)
  have h2d := h2.ext (Ext.dr _)
  have hzd : w4.drew.heap.size = w4.heap.size := rfl
  (
    have hal : ∀ {wa : World}, wa = World.alloc w4.drew (.cells #[.int .i64 0, .int .i64 0, .int .i64 0] 23) → Row wa _ _ tCe := fun e => (ra4).ext ((Ext.rfl' _).of_alloc e)
    refine ⟨?_, ?_⟩
    · (
        refine (around_spec _ _ _ (by assumption) (by decide) (by unfold inI; omega)).mono ?_
        intro e ww hh
        obtain ⟨rfl, ew⟩ := hh
        rw [ew]
        refine ⟨_, rfl, ?_⟩
        repeat (refine And.intro rfl ?_)
        clear ew)
      (repeat (refine And.intro ((ra4).loadL (fun j hj => by simp at hj; subst hj; rfl)) ?_))
      refine ⟨?_, ?_⟩
      · (
          refine (around_spec _ _ _ (by assumption) (by decide) (by unfold inI; omega)).mono ?_
          intro e ww hh
          obtain ⟨rfl, ew⟩ := hh
          rw [ew]
          refine ⟨_, rfl, ?_⟩
          repeat (refine And.intro rfl ?_)
          clear ew)
        (repeat (refine And.intro ((ra4).loadL (fun j hj => by simp at hj; subst hj; rfl)) ?_))
        refine ⟨?_, ?_⟩
        · (
            refine (around_spec _ _ _ (by assumption) (by decide) (by unfold inI; omega)).mono ?_
            intro e ww hh
            obtain ⟨rfl, ew⟩ := hh
            rw [ew]
            refine ⟨_, rfl, ?_⟩
            repeat (refine And.intro rfl ?_)
            clear ew)
          refine ⟨?_, ?_⟩
          · intro wa ea wb eb
            (
              obtain ⟨rc, xc, zc⟩ := box3 ea eb
              have rb5 := (rb4.ext xc).ext (Ext.dr _)
              (
                have hal : ∀ {wa : World}, wa = World.alloc wb.drew (.cells #[.int .i64 0, .int .i64 0, .int .i64 0] 23) → Row wa _ _ tCe := fun e => (rb5).ext ((Ext.rfl' _).of_alloc e)
                refine ⟨?_, ?_⟩
                · (
                    refine (around_spec _ _ _ (by assumption) (by decide) (by unfold inI; omega)).mono ?_
                    intro e ww hh
                    obtain ⟨rfl, ew⟩ := hh
                    rw [ew]
                    refine ⟨_, rfl, ?_⟩
                    repeat (refine And.intro rfl ?_)
                    clear ew)
                  (repeat (refine And.intro ((rb5).loadL (fun j hj => by simp at hj; subst hj; rfl)) ?_))
                  refine ⟨?_, ?_⟩
                  · (
                      refine (around_spec _ _ _ (by assumption) (by decide) (by unfold inI; omega)).mono ?_
                      intro e ww hh
                      obtain ⟨rfl, ew⟩ := hh
                      rw [ew]
                      refine ⟨_, rfl, ?_⟩
                      repeat (refine And.intro rfl ?_)
                      clear ew)
                    (repeat (refine And.intro ((rb5).loadL (fun j hj => by simp at hj; subst hj; rfl)) ?_))
                    refine ⟨?_, ?_⟩
                    · (
                        refine (around_spec _ _ _ (by assumption) (by decide) (by unfold inI; omega)).mono ?_
                        intro e ww hh
                        obtain ⟨rfl, ew⟩ := hh
                        rw [ew]
                        refine ⟨_, rfl, ?_⟩
                        repeat (refine And.intro rfl ?_)
                        clear ew)
                      refine ⟨?_, ?_⟩
                      · intro wa ea wb eb
                        (
                          obtain ⟨rd, xd, zd⟩ := box3 ea eb
                          exact order_tail (w := w) (b0 := w.heap.size) (b1 := w0.heap.size) (R := fun e w' => e = .returned (.bool true) ∧ Ext w w') (c := in0c a) (d := in0c b) ((h1d.ext xc).ext ((Ext.dr _).tr xd)) ((h2d.ext xc).ext ((Ext.dr _).tr xd)) hgne (by omega) (by omega) ((x1.tr x4d).tr (xc.tr ((Ext.dr _).tr xd))) ⟨by have := xd.size; have := xc.size; have hq : ∀ w : World, w.drew.heap.size = w.heap.size := fun _ => rfl; simp only [hq] at *; omega, by omega, by omega⟩ ⟨by have := xd.size; have := xc.size; have hq : ∀ w : World, w.drew.heap.size = w.heap.size := fun _ => rfl; simp only [hq] at *; omega, by omega, by omega⟩ (rc.ext ((Ext.dr _).tr xd)) rd (in0c_in a) (in0c_in b) hx hy (fun w' x => ⟨rfl, x⟩))
                      · intro wa ea wb eb
                        (
                          obtain ⟨rd, xd, zd⟩ := box3 ea eb
                          exact order_tail (w := w) (b0 := w.heap.size) (b1 := w0.heap.size) (R := fun e w' => e = .returned (.bool true) ∧ Ext w w') (c := in0c a) (d := in0c b) ((h1d.ext xc).ext ((Ext.dr _).tr xd)) ((h2d.ext xc).ext ((Ext.dr _).tr xd)) hgne (by omega) (by omega) ((x1.tr x4d).tr (xc.tr ((Ext.dr _).tr xd))) ⟨by have := xd.size; have := xc.size; have hq : ∀ w : World, w.drew.heap.size = w.heap.size := fun _ => rfl; simp only [hq] at *; omega, by omega, by omega⟩ ⟨by have := xd.size; have := xc.size; have hq : ∀ w : World, w.drew.heap.size = w.heap.size := fun _ => rfl; simp only [hq] at *; omega, by omega, by omega⟩ (rc.ext ((Ext.dr _).tr xd)) rd (in0c_in a) (in0c_in b) hx hy (fun w' x => ⟨rfl, x⟩))
                    · intro wa ea
                      (
                        refine (around_spec _ _ _ (by assumption) (by decide) (by unfold inI; omega)).mono ?_
                        intro e ww hh
                        obtain ⟨rfl, ew⟩ := hh
                        rw [ew]
                        refine ⟨_, rfl, ?_⟩
                        repeat (refine And.intro rfl ?_)
                        clear ew)
                      intro wb eb
                      (
                        obtain ⟨rd, xd, zd⟩ := box3 ea eb
                        exact order_tail (w := w) (b0 := w.heap.size) (b1 := w0.heap.size) (R := fun e w' => e = .returned (.bool true) ∧ Ext w w') (c := in0c a) (d := in0c b) ((h1d.ext xc).ext ((Ext.dr _).tr xd)) ((h2d.ext xc).ext ((Ext.dr _).tr xd)) hgne (by omega) (by omega) ((x1.tr x4d).tr (xc.tr ((Ext.dr _).tr xd))) ⟨by have := xd.size; have := xc.size; have hq : ∀ w : World, w.drew.heap.size = w.heap.size := fun _ => rfl; simp only [hq] at *; omega, by omega, by omega⟩ ⟨by have := xd.size; have := xc.size; have hq : ∀ w : World, w.drew.heap.size = w.heap.size := fun _ => rfl; simp only [hq] at *; omega, by omega, by omega⟩ (rc.ext ((Ext.dr _).tr xd)) rd (in0c_in a) (in0c_in b) hx hy (fun w' x => ⟨rfl, x⟩))
                  · intro wa ea
                    (
                      refine (around_spec _ _ _ (by assumption) (by decide) (by unfold inI; omega)).mono ?_
                      intro e ww hh
                      obtain ⟨rfl, ew⟩ := hh
                      rw [ew]
                      refine ⟨_, rfl, ?_⟩
                      repeat (refine And.intro rfl ?_)
                      clear ew)
                    (repeat (refine And.intro (((hal ea)).loadL (fun j hj => by simp at hj; subst hj; rfl)) ?_))
                    (
                      refine (around_spec _ _ _ (by assumption) (by decide) (by unfold inI; omega)).mono ?_
                      intro e ww hh
                      obtain ⟨rfl, ew⟩ := hh
                      rw [ew]
                      refine ⟨_, rfl, ?_⟩
                      repeat (refine And.intro rfl ?_)
                      clear ew)
                    intro wb eb
                    (
                      obtain ⟨rd, xd, zd⟩ := box3 ea eb
                      exact order_tail (w := w) (b0 := w.heap.size) (b1 := w0.heap.size) (R := fun e w' => e = .returned (.bool true) ∧ Ext w w') (c := in0c a) (d := in0c b) ((h1d.ext xc).ext ((Ext.dr _).tr xd)) ((h2d.ext xc).ext ((Ext.dr _).tr xd)) hgne (by omega) (by omega) ((x1.tr x4d).tr (xc.tr ((Ext.dr _).tr xd))) ⟨by have := xd.size; have := xc.size; have hq : ∀ w : World, w.drew.heap.size = w.heap.size := fun _ => rfl; simp only [hq] at *; omega, by omega, by omega⟩ ⟨by have := xd.size; have := xc.size; have hq : ∀ w : World, w.drew.heap.size = w.heap.size := fun _ => rfl; simp only [hq] at *; omega, by omega, by omega⟩ (rc.ext ((Ext.dr _).tr xd)) rd (in0c_in a) (in0c_in b) hx hy (fun w' x => ⟨rfl, x⟩))
                · intro wa ea
                  (
                    refine (around_spec _ _ _ (by assumption) (by decide) (by unfold inI; omega)).mono ?_
                    intro e ww hh
                    obtain ⟨rfl, ew⟩ := hh
                    rw [ew]
                    refine ⟨_, rfl, ?_⟩
                    repeat (refine And.intro rfl ?_)
                    clear ew)
                  (repeat (refine And.intro (((hal ea)).loadL (fun j hj => by simp at hj; subst hj; rfl)) ?_))
                  (
                    refine (around_spec _ _ _ (by assumption) (by decide) (by unfold inI; omega)).mono ?_
                    intro e ww hh
                    obtain ⟨rfl, ew⟩ := hh
                    rw [ew]
                    refine ⟨_, rfl, ?_⟩
                    repeat (refine And.intro rfl ?_)
                    clear ew)
                  (repeat (refine And.intro (((hal ea)).loadL (fun j hj => by simp at hj; subst hj; rfl)) ?_))
                  (
                    refine (around_spec _ _ _ (by assumption) (by decide) (by unfold inI; omega)).mono ?_
                    intro e ww hh
                    obtain ⟨rfl, ew⟩ := hh
                    rw [ew]
                    refine ⟨_, rfl, ?_⟩
                    repeat (refine And.intro rfl ?_)
                    clear ew)
                  intro wb eb
                  (
                    obtain ⟨rd, xd, zd⟩ := box3 ea eb
                    exact order_tail (w := w) (b0 := w.heap.size) (b1 := w0.heap.size) (R := fun e w' => e = .returned (.bool true) ∧ Ext w w') (c := in0c a) (d := in0c b) ((h1d.ext xc).ext ((Ext.dr _).tr xd)) ((h2d.ext xc).ext ((Ext.dr _).tr xd)) hgne (by omega) (by omega) ((x1.tr x4d).tr (xc.tr ((Ext.dr _).tr xd))) ⟨by have := xd.size; have := xc.size; have hq : ∀ w : World, w.drew.heap.size = w.heap.size := fun _ => rfl; simp only [hq] at *; omega, by omega, by omega⟩ ⟨by have := xd.size; have := xc.size; have hq : ∀ w : World, w.drew.heap.size = w.heap.size := fun _ => rfl; simp only [hq] at *; omega, by omega, by omega⟩ (rc.ext ((Ext.dr _).tr xd)) rd (in0c_in a) (in0c_in b) hx hy (fun w' x => ⟨rfl, x⟩))))
          · intro wa ea wb eb
            (
              obtain ⟨rc, xc, zc⟩ := box3 ea eb
              have rb5 := (rb4.ext xc).ext (Ext.dr _)
              (
                have hal : ∀ {wa : World}, wa = World.alloc wb.drew (.cells #[.int .i64 0, .int .i64 0, .int .i64 0] 23) → Row wa _ _ tCe := fun e => (rb5).ext ((Ext.rfl' _).of_alloc e)
                refine ⟨?_, ?_⟩
                · (
                    refine (around_spec _ _ _ (by assumption) (by decide) (by unfold inI; omega)).mono ?_
                    intro e ww hh
                    obtain ⟨rfl, ew⟩ := hh
                    rw [ew]
                    refine ⟨_, rfl, ?_⟩
                    repeat (refine And.intro rfl ?_)
                    clear ew)
                  (repeat (refine And.intro ((rb5).loadL (fun j hj => by simp at hj; subst hj; rfl)) ?_))
                  refine ⟨?_, ?_⟩
                  · (
                      refine (around_spec _ _ _ (by assumption) (by decide) (by unfold inI; omega)).mono ?_
                      intro e ww hh
                      obtain ⟨rfl, ew⟩ := hh
                      rw [ew]
                      refine ⟨_, rfl, ?_⟩
                      repeat (refine And.intro rfl ?_)
                      clear ew)
                    (repeat (refine And.intro ((rb5).loadL (fun j hj => by simp at hj; subst hj; rfl)) ?_))
                    refine ⟨?_, ?_⟩
                    · (
                        refine (around_spec _ _ _ (by assumption) (by decide) (by unfold inI; omega)).mono ?_
                        intro e ww hh
                        obtain ⟨rfl, ew⟩ := hh
                        rw [ew]
                        refine ⟨_, rfl, ?_⟩
                        repeat (refine And.intro rfl ?_)
                        clear ew)
                      refine ⟨?_, ?_⟩
                      · intro wa ea wb eb
                        (
                          obtain ⟨rd, xd, zd⟩ := box3 ea eb
                          exact order_tail (w := w) (b0 := w.heap.size) (b1 := w0.heap.size) (R := fun e w' => e = .returned (.bool true) ∧ Ext w w') (c := in0c a) (d := in0c b) ((h1d.ext xc).ext ((Ext.dr _).tr xd)) ((h2d.ext xc).ext ((Ext.dr _).tr xd)) hgne (by omega) (by omega) ((x1.tr x4d).tr (xc.tr ((Ext.dr _).tr xd))) ⟨by have := xd.size; have := xc.size; have hq : ∀ w : World, w.drew.heap.size = w.heap.size := fun _ => rfl; simp only [hq] at *; omega, by omega, by omega⟩ ⟨by have := xd.size; have := xc.size; have hq : ∀ w : World, w.drew.heap.size = w.heap.size := fun _ => rfl; simp only [hq] at *; omega, by omega, by omega⟩ (rc.ext ((Ext.dr _).tr xd)) rd (in0c_in a) (in0c_in b) hx hy (fun w' x => ⟨rfl, x⟩))
                      · intro wa ea wb eb
                        (
                          obtain ⟨rd, xd, zd⟩ := box3 ea eb
                          exact order_tail (w := w) (b0 := w.heap.size) (b1 := w0.heap.size) (R := fun e w' => e = .returned (.bool true) ∧ Ext w w') (c := in0c a) (d := in0c b) ((h1d.ext xc).ext ((Ext.dr _).tr xd)) ((h2d.ext xc).ext ((Ext.dr _).tr xd)) hgne (by omega) (by omega) ((x1.tr x4d).tr (xc.tr ((Ext.dr _).tr xd))) ⟨by have := xd.size; have := xc.size; have hq : ∀ w : World, w.drew.heap.size = w.heap.size := fun _ => rfl; simp only [hq] at *; omega, by omega, by omega⟩ ⟨by have := xd.size; have := xc.size; have hq : ∀ w : World, w.drew.heap.size = w.heap.size := fun _ => rfl; simp only [hq] at *; omega, by omega, by omega⟩ (rc.ext ((Ext.dr _).tr xd)) rd (in0c_in a) (in0c_in b) hx hy (fun w' x => ⟨rfl, x⟩))
                    · intro wa ea
                      (
                        refine (around_spec _ _ _ (by assumption) (by decide) (by unfold inI; omega)).mono ?_
                        intro e ww hh
                        obtain ⟨rfl, ew⟩ := hh
                        rw [ew]
                        refine ⟨_, rfl, ?_⟩
                        repeat (refine And.intro rfl ?_)
                        clear ew)
                      intro wb eb
                      (
                        obtain ⟨rd, xd, zd⟩ := box3 ea eb
                        exact order_tail (w := w) (b0 := w.heap.size) (b1 := w0.heap.size) (R := fun e w' => e = .returned (.bool true) ∧ Ext w w') (c := in0c a) (d := in0c b) ((h1d.ext xc).ext ((Ext.dr _).tr xd)) ((h2d.ext xc).ext ((Ext.dr _).tr xd)) hgne (by omega) (by omega) ((x1.tr x4d).tr (xc.tr ((Ext.dr _).tr xd))) ⟨by have := xd.size; have := xc.size; have hq : ∀ w : World, w.drew.heap.size = w.heap.size := fun _ => rfl; simp only [hq] at *; omega, by omega, by omega⟩ ⟨by have := xd.size; have := xc.size; have hq : ∀ w : World, w.drew.heap.size = w.heap.size := fun _ => rfl; simp only [hq] at *; omega, by omega, by omega⟩ (rc.ext ((Ext.dr _).tr xd)) rd (in0c_in a) (in0c_in b) hx hy (fun w' x => ⟨rfl, x⟩))
                  · intro wa ea
                    (
                      refine (around_spec _ _ _ (by assumption) (by decide) (by unfold inI; omega)).mono ?_
                      intro e ww hh
                      obtain ⟨rfl, ew⟩ := hh
                      rw [ew]
                      refine ⟨_, rfl, ?_⟩
                      repeat (refine And.intro rfl ?_)
                      clear ew)
                    (repeat (refine And.intro (((hal ea)).loadL (fun j hj => by simp at hj; subst hj; rfl)) ?_))
                    (
                      refine (around_spec _ _ _ (by assumption) (by decide) (by unfold inI; omega)).mono ?_
                      intro e ww hh
                      obtain ⟨rfl, ew⟩ := hh
                      rw [ew]
                      refine ⟨_, rfl, ?_⟩
                      repeat (refine And.intro rfl ?_)
                      clear ew)
                    intro wb eb
                    (
                      obtain ⟨rd, xd, zd⟩ := box3 ea eb
                      exact order_tail (w := w) (b0 := w.heap.size) (b1 := w0.heap.size) (R := fun e w' => e = .returned (.bool true) ∧ Ext w w') (c := in0c a) (d := in0c b) ((h1d.ext xc).ext ((Ext.dr _).tr xd)) ((h2d.ext xc).ext ((Ext.dr _).tr xd)) hgne (by omega) (by omega) ((x1.tr x4d).tr (xc.tr ((Ext.dr _).tr xd))) ⟨by have := xd.size; have := xc.size; have hq : ∀ w : World, w.drew.heap.size = w.heap.size := fun _ => rfl; simp only [hq] at *; omega, by omega, by omega⟩ ⟨by have := xd.size; have := xc.size; have hq : ∀ w : World, w.drew.heap.size = w.heap.size := fun _ => rfl; simp only [hq] at *; omega, by omega, by omega⟩ (rc.ext ((Ext.dr _).tr xd)) rd (in0c_in a) (in0c_in b) hx hy (fun w' x => ⟨rfl, x⟩))
                · intro wa ea
                  (
                    refine (around_spec _ _ _ (by assumption) (by decide) (by unfold inI; omega)).mono ?_
                    intro e ww hh
                    obtain ⟨rfl, ew⟩ := hh
                    rw [ew]
                    refine ⟨_, rfl, ?_⟩
                    repeat (refine And.intro rfl ?_)
                    clear ew)
                  (repeat (refine And.intro (((hal ea)).loadL (fun j hj => by simp at hj; subst hj; rfl)) ?_))
                  (
                    refine (around_spec _ _ _ (by assumption) (by decide) (by unfold inI; omega)).mono ?_
                    intro e ww hh
                    obtain ⟨rfl, ew⟩ := hh
                    rw [ew]
                    refine ⟨_, rfl, ?_⟩
                    repeat (refine And.intro rfl ?_)
                    clear ew)
                  (repeat (refine And.intro (((hal ea)).loadL (fun j hj => by simp at hj; subst hj; rfl)) ?_))
                  (
                    refine (around_spec _ _ _ (by assumption) (by decide) (by unfold inI; omega)).mono ?_
                    intro e ww hh
                    obtain ⟨rfl, ew⟩ := hh
                    rw [ew]
                    refine ⟨_, rfl, ?_⟩
                    repeat (refine And.intro rfl ?_)
                    clear ew)
                  intro wb eb
                  (
                    obtain ⟨rd, xd, zd⟩ := box3 ea eb
                    exact order_tail (w := w) (b0 := w.heap.size) (b1 := w0.heap.size) (R := fun e w' => e = .returned (.bool true) ∧ Ext w w') (c := in0c a) (d := in0c b) ((h1d.ext xc).ext ((Ext.dr _).tr xd)) ((h2d.ext xc).ext ((Ext.dr _).tr xd)) hgne (by omega) (by omega) ((x1.tr x4d).tr (xc.tr ((Ext.dr _).tr xd))) ⟨by have := xd.size; have := xc.size; have hq : ∀ w : World, w.drew.heap.size = w.heap.size := fun _ => rfl; simp only [hq] at *; omega, by omega, by omega⟩ ⟨by have := xd.size; have := xc.size; have hq : ∀ w : World, w.drew.heap.size = w.heap.size := fun _ => rfl; simp only [hq] at *; omega, by omega, by omega⟩ (rc.ext ((Ext.dr _).tr xd)) rd (in0c_in a) (in0c_in b) hx hy (fun w' x => ⟨rfl, x⟩))))
        · intro wa ea
          (
            refine (around_spec _ _ _ (by assumption) (by decide) (by unfold inI; omega)).mono ?_
            intro e ww hh
            obtain ⟨rfl, ew⟩ := hh
            rw [ew]
            refine ⟨_, rfl, ?_⟩
            repeat (refine And.intro rfl ?_)
            clear ew)
          intro wb eb
          (
            obtain ⟨rc, xc, zc⟩ := box3 ea eb
            have rb5 := (rb4.ext xc).ext (Ext.dr _)
            (
              have hal : ∀ {wa : World}, wa = World.alloc wb.drew (.cells #[.int .i64 0, .int .i64 0, .int .i64 0] 23) → Row wa _ _ tCe := fun e => (rb5).ext ((Ext.rfl' _).of_alloc e)
              refine ⟨?_, ?_⟩
              · (
                  refine (around_spec _ _ _ (by assumption) (by decide) (by unfold inI; omega)).mono ?_
                  intro e ww hh
                  obtain ⟨rfl, ew⟩ := hh
                  rw [ew]
                  refine ⟨_, rfl, ?_⟩
                  repeat (refine And.intro rfl ?_)
                  clear ew)
                (repeat (refine And.intro ((rb5).loadL (fun j hj => by simp at hj; subst hj; rfl)) ?_))
                refine ⟨?_, ?_⟩
                · (
                    refine (around_spec _ _ _ (by assumption) (by decide) (by unfold inI; omega)).mono ?_
                    intro e ww hh
                    obtain ⟨rfl, ew⟩ := hh
                    rw [ew]
                    refine ⟨_, rfl, ?_⟩
                    repeat (refine And.intro rfl ?_)
                    clear ew)
                  (repeat (refine And.intro ((rb5).loadL (fun j hj => by simp at hj; subst hj; rfl)) ?_))
                  refine ⟨?_, ?_⟩
                  · (
                      refine (around_spec _ _ _ (by assumption) (by decide) (by unfold inI; omega)).mono ?_
                      intro e ww hh
                      obtain ⟨rfl, ew⟩ := hh
                      rw [ew]
                      refine ⟨_, rfl, ?_⟩
                      repeat (refine And.intro rfl ?_)
                      clear ew)
                    refine ⟨?_, ?_⟩
                    · intro wa ea wb eb
                      (
                        obtain ⟨rd, xd, zd⟩ := box3 ea eb
                        exact order_tail (w := w) (b0 := w.heap.size) (b1 := w0.heap.size) (R := fun e w' => e = .returned (.bool true) ∧ Ext w w') (c := in0c a) (d := in0c b) ((h1d.ext xc).ext ((Ext.dr _).tr xd)) ((h2d.ext xc).ext ((Ext.dr _).tr xd)) hgne (by omega) (by omega) ((x1.tr x4d).tr (xc.tr ((Ext.dr _).tr xd))) ⟨by have := xd.size; have := xc.size; have hq : ∀ w : World, w.drew.heap.size = w.heap.size := fun _ => rfl; simp only [hq] at *; omega, by omega, by omega⟩ ⟨by have := xd.size; have := xc.size; have hq : ∀ w : World, w.drew.heap.size = w.heap.size := fun _ => rfl; simp only [hq] at *; omega, by omega, by omega⟩ (rc.ext ((Ext.dr _).tr xd)) rd (in0c_in a) (in0c_in b) hx hy (fun w' x => ⟨rfl, x⟩))
                    · intro wa ea wb eb
                      (
                        obtain ⟨rd, xd, zd⟩ := box3 ea eb
                        exact order_tail (w := w) (b0 := w.heap.size) (b1 := w0.heap.size) (R := fun e w' => e = .returned (.bool true) ∧ Ext w w') (c := in0c a) (d := in0c b) ((h1d.ext xc).ext ((Ext.dr _).tr xd)) ((h2d.ext xc).ext ((Ext.dr _).tr xd)) hgne (by omega) (by omega) ((x1.tr x4d).tr (xc.tr ((Ext.dr _).tr xd))) ⟨by have := xd.size; have := xc.size; have hq : ∀ w : World, w.drew.heap.size = w.heap.size := fun _ => rfl; simp only [hq] at *; omega, by omega, by omega⟩ ⟨by have := xd.size; have := xc.size; have hq : ∀ w : World, w.drew.heap.size = w.heap.size := fun _ => rfl; simp only [hq] at *; omega, by omega, by omega⟩ (rc.ext ((Ext.dr _).tr xd)) rd (in0c_in a) (in0c_in b) hx hy (fun w' x => ⟨rfl, x⟩))
                  · intro wa ea
                    (
                      refine (around_spec _ _ _ (by assumption) (by decide) (by unfold inI; omega)).mono ?_
                      intro e ww hh
                      obtain ⟨rfl, ew⟩ := hh
                      rw [ew]
                      refine ⟨_, rfl, ?_⟩
                      repeat (refine And.intro rfl ?_)
                      clear ew)
                    intro wb eb
                    (
                      obtain ⟨rd, xd, zd⟩ := box3 ea eb
                      exact order_tail (w := w) (b0 := w.heap.size) (b1 := w0.heap.size) (R := fun e w' => e = .returned (.bool true) ∧ Ext w w') (c := in0c a) (d := in0c b) ((h1d.ext xc).ext ((Ext.dr _).tr xd)) ((h2d.ext xc).ext ((Ext.dr _).tr xd)) hgne (by omega) (by omega) ((x1.tr x4d).tr (xc.tr ((Ext.dr _).tr xd))) ⟨by have := xd.size; have := xc.size; have hq : ∀ w : World, w.drew.heap.size = w.heap.size := fun _ => rfl; simp only [hq] at *; omega, by omega, by omega⟩ ⟨by have := xd.size; have := xc.size; have hq : ∀ w : World, w.drew.heap.size = w.heap.size := fun _ => rfl; simp only [hq] at *; omega, by omega, by omega⟩ (rc.ext ((Ext.dr _).tr xd)) rd (in0c_in a) (in0c_in b) hx hy (fun w' x => ⟨rfl, x⟩))
                · intro wa ea
                  (
                    refine (around_spec _ _ _ (by assumption) (by decide) (by unfold inI; omega)).mono ?_
                    intro e ww hh
                    obtain ⟨rfl, ew⟩ := hh
                    rw [ew]
                    refine ⟨_, rfl, ?_⟩
                    repeat (refine And.intro rfl ?_)
                    clear ew)
                  (repeat (refine And.intro (((hal ea)).loadL (fun j hj => by simp at hj; subst hj; rfl)) ?_))
                  (
                    refine (around_spec _ _ _ (by assumption) (by decide) (by unfold inI; omega)).mono ?_
                    intro e ww hh
                    obtain ⟨rfl, ew⟩ := hh
                    rw [ew]
                    refine ⟨_, rfl, ?_⟩
                    repeat (refine And.intro rfl ?_)
                    clear ew)
                  intro wb eb
                  (
                    obtain ⟨rd, xd, zd⟩ := box3 ea eb
                    exact order_tail (w := w) (b0 := w.heap.size) (b1 := w0.heap.size) (R := fun e w' => e = .returned (.bool true) ∧ Ext w w') (c := in0c a) (d := in0c b) ((h1d.ext xc).ext ((Ext.dr _).tr xd)) ((h2d.ext xc).ext ((Ext.dr _).tr xd)) hgne (by omega) (by omega) ((x1.tr x4d).tr (xc.tr ((Ext.dr _).tr xd))) ⟨by have := xd.size; have := xc.size; have hq : ∀ w : World, w.drew.heap.size = w.heap.size := fun _ => rfl; simp only [hq] at *; omega, by omega, by omega⟩ ⟨by have := xd.size; have := xc.size; have hq : ∀ w : World, w.drew.heap.size = w.heap.size := fun _ => rfl; simp only [hq] at *; omega, by omega, by omega⟩ (rc.ext ((Ext.dr _).tr xd)) rd (in0c_in a) (in0c_in b) hx hy (fun w' x => ⟨rfl, x⟩))
              · intro wa ea
                (
                  refine (around_spec _ _ _ (by assumption) (by decide) (by unfold inI; omega)).mono ?_
                  intro e ww hh
                  obtain ⟨rfl, ew⟩ := hh
                  rw [ew]
                  refine ⟨_, rfl, ?_⟩
                  repeat (refine And.intro rfl ?_)
                  clear ew)
                (repeat (refine And.intro (((hal ea)).loadL (fun j hj => by simp at hj; subst hj; rfl)) ?_))
                (
                  refine (around_spec _ _ _ (by assumption) (by decide) (by unfold inI; omega)).mono ?_
                  intro e ww hh
                  obtain ⟨rfl, ew⟩ := hh
                  rw [ew]
                  refine ⟨_, rfl, ?_⟩
                  repeat (refine And.intro rfl ?_)
                  clear ew)
                (repeat (refine And.intro (((hal ea)).loadL (fun j hj => by simp at hj; subst hj; rfl)) ?_))
                (
                  refine (around_spec _ _ _ (by assumption) (by decide) (by unfold inI; omega)).mono ?_
                  intro e ww hh
                  obtain ⟨rfl, ew⟩ := hh
                  rw [ew]
                  refine ⟨_, rfl, ?_⟩
                  repeat (refine And.intro rfl ?_)
                  clear ew)
                intro wb eb
                (
                  obtain ⟨rd, xd, zd⟩ := box3 ea eb
                  exact order_tail (w := w) (b0 := w.heap.size) (b1 := w0.heap.size) (R := fun e w' => e = .returned (.bool true) ∧ Ext w w') (c := in0c a) (d := in0c b) ((h1d.ext xc).ext ((Ext.dr _).tr xd)) ((h2d.ext xc).ext ((Ext.dr _).tr xd)) hgne (by omega) (by omega) ((x1.tr x4d).tr (xc.tr ((Ext.dr _).tr xd))) ⟨by have := xd.size; have := xc.size; have hq : ∀ w : World, w.drew.heap.size = w.heap.size := fun _ => rfl; simp only [hq] at *; omega, by omega, by omega⟩ ⟨by have := xd.size; have := xc.size; have hq : ∀ w : World, w.drew.heap.size = w.heap.size := fun _ => rfl; simp only [hq] at *; omega, by omega, by omega⟩ (rc.ext ((Ext.dr _).tr xd)) rd (in0c_in a) (in0c_in b) hx hy (fun w' x => ⟨rfl, x⟩))))
      · intro wa ea
        (
          refine (around_spec _ _ _ (by assumption) (by decide) (by unfold inI; omega)).mono ?_
          intro e ww hh
          obtain ⟨rfl, ew⟩ := hh
          rw [ew]
          refine ⟨_, rfl, ?_⟩
          repeat (refine And.intro rfl ?_)
          clear ew)
        (repeat (refine And.intro (((hal ea)).loadL (fun j hj => by simp at hj; subst hj; rfl)) ?_))
        (
          refine (around_spec _ _ _ (by assumption) (by decide) (by unfold inI; omega)).mono ?_
          intro e ww hh
          obtain ⟨rfl, ew⟩ := hh
          rw [ew]
          refine ⟨_, rfl, ?_⟩
          repeat (refine And.intro rfl ?_)
          clear ew)
        intro wb eb
        (
          obtain ⟨rc, xc, zc⟩ := box3 ea eb
          have rb5 := (rb4.ext xc).ext (Ext.dr _)
          (
            have hal : ∀ {wa : World}, wa = World.alloc wb.drew (.cells #[.int .i64 0, .int .i64 0, .int .i64 0] 23) → Row wa _ _ tCe := fun e => (rb5).ext ((Ext.rfl' _).of_alloc e)
            refine ⟨?_, ?_⟩
            · (
                refine (around_spec _ _ _ (by assumption) (by decide) (by unfold inI; omega)).mono ?_
                intro e ww hh
                obtain ⟨rfl, ew⟩ := hh
                rw [ew]
                refine ⟨_, rfl, ?_⟩
                repeat (refine And.intro rfl ?_)
                clear ew)
              (repeat (refine And.intro ((rb5).loadL (fun j hj => by simp at hj; subst hj; rfl)) ?_))
              refine ⟨?_, ?_⟩
              · (
                  refine (around_spec _ _ _ (by assumption) (by decide) (by unfold inI; omega)).mono ?_
                  intro e ww hh
                  obtain ⟨rfl, ew⟩ := hh
                  rw [ew]
                  refine ⟨_, rfl, ?_⟩
                  repeat (refine And.intro rfl ?_)
                  clear ew)
                (repeat (refine And.intro ((rb5).loadL (fun j hj => by simp at hj; subst hj; rfl)) ?_))
                refine ⟨?_, ?_⟩
                · (
                    refine (around_spec _ _ _ (by assumption) (by decide) (by unfold inI; omega)).mono ?_
                    intro e ww hh
                    obtain ⟨rfl, ew⟩ := hh
                    rw [ew]
                    refine ⟨_, rfl, ?_⟩
                    repeat (refine And.intro rfl ?_)
                    clear ew)
                  refine ⟨?_, ?_⟩
                  · intro wa ea wb eb
                    (
                      obtain ⟨rd, xd, zd⟩ := box3 ea eb
                      exact order_tail (w := w) (b0 := w.heap.size) (b1 := w0.heap.size) (R := fun e w' => e = .returned (.bool true) ∧ Ext w w') (c := in0c a) (d := in0c b) ((h1d.ext xc).ext ((Ext.dr _).tr xd)) ((h2d.ext xc).ext ((Ext.dr _).tr xd)) hgne (by omega) (by omega) ((x1.tr x4d).tr (xc.tr ((Ext.dr _).tr xd))) ⟨by have := xd.size; have := xc.size; have hq : ∀ w : World, w.drew.heap.size = w.heap.size := fun _ => rfl; simp only [hq] at *; omega, by omega, by omega⟩ ⟨by have := xd.size; have := xc.size; have hq : ∀ w : World, w.drew.heap.size = w.heap.size := fun _ => rfl; simp only [hq] at *; omega, by omega, by omega⟩ (rc.ext ((Ext.dr _).tr xd)) rd (in0c_in a) (in0c_in b) hx hy (fun w' x => ⟨rfl, x⟩))
                  · intro wa ea wb eb
                    (
                      obtain ⟨rd, xd, zd⟩ := box3 ea eb
                      exact order_tail (w := w) (b0 := w.heap.size) (b1 := w0.heap.size) (R := fun e w' => e = .returned (.bool true) ∧ Ext w w') (c := in0c a) (d := in0c b) ((h1d.ext xc).ext ((Ext.dr _).tr xd)) ((h2d.ext xc).ext ((Ext.dr _).tr xd)) hgne (by omega) (by omega) ((x1.tr x4d).tr (xc.tr ((Ext.dr _).tr xd))) ⟨by have := xd.size; have := xc.size; have hq : ∀ w : World, w.drew.heap.size = w.heap.size := fun _ => rfl; simp only [hq] at *; omega, by omega, by omega⟩ ⟨by have := xd.size; have := xc.size; have hq : ∀ w : World, w.drew.heap.size = w.heap.size := fun _ => rfl; simp only [hq] at *; omega, by omega, by omega⟩ (rc.ext ((Ext.dr _).tr xd)) rd (in0c_in a) (in0c_in b) hx hy (fun w' x => ⟨rfl, x⟩))
                · intro wa ea
                  (
                    refine (around_spec _ _ _ (by assumption) (by decide) (by unfold inI; omega)).mono ?_
                    intro e ww hh
                    obtain ⟨rfl, ew⟩ := hh
                    rw [ew]
                    refine ⟨_, rfl, ?_⟩
                    repeat (refine And.intro rfl ?_)
                    clear ew)
                  intro wb eb
                  (
                    obtain ⟨rd, xd, zd⟩ := box3 ea eb
                    exact order_tail (w := w) (b0 := w.heap.size) (b1 := w0.heap.size) (R := fun e w' => e = .returned (.bool true) ∧ Ext w w') (c := in0c a) (d := in0c b) ((h1d.ext xc).ext ((Ext.dr _).tr xd)) ((h2d.ext xc).ext ((Ext.dr _).tr xd)) hgne (by omega) (by omega) ((x1.tr x4d).tr (xc.tr ((Ext.dr _).tr xd))) ⟨by have := xd.size; have := xc.size; have hq : ∀ w : World, w.drew.heap.size = w.heap.size := fun _ => rfl; simp only [hq] at *; omega, by omega, by omega⟩ ⟨by have := xd.size; have := xc.size; have hq : ∀ w : World, w.drew.heap.size = w.heap.size := fun _ => rfl; simp only [hq] at *; omega, by omega, by omega⟩ (rc.ext ((Ext.dr _).tr xd)) rd (in0c_in a) (in0c_in b) hx hy (fun w' x => ⟨rfl, x⟩))
              · intro wa ea
                (
                  refine (around_spec _ _ _ (by assumption) (by decide) (by unfold inI; omega)).mono ?_
                  intro e ww hh
                  obtain ⟨rfl, ew⟩ := hh
                  rw [ew]
                  refine ⟨_, rfl, ?_⟩
                  repeat (refine And.intro rfl ?_)
                  clear ew)
                (repeat (refine And.intro (((hal ea)).loadL (fun j hj => by simp at hj; subst hj; rfl)) ?_))
                (
                  refine (around_spec _ _ _ (by assumption) (by decide) (by unfold inI; omega)).mono ?_
                  intro e ww hh
                  obtain ⟨rfl, ew⟩ := hh
                  rw [ew]
                  refine ⟨_, rfl, ?_⟩
                  repeat (refine And.intro rfl ?_)
                  clear ew)
                intro wb eb
                (
                  obtain ⟨rd, xd, zd⟩ := box3 ea eb
                  exact order_tail (w := w) (b0 := w.heap.size) (b1 := w0.heap.size) (R := fun e w' => e = .returned (.bool true) ∧ Ext w w') (c := in0c a) (d := in0c b) ((h1d.ext xc).ext ((Ext.dr _).tr xd)) ((h2d.ext xc).ext ((Ext.dr _).tr xd)) hgne (by omega) (by omega) ((x1.tr x4d).tr (xc.tr ((Ext.dr _).tr xd))) ⟨by have := xd.size; have := xc.size; have hq : ∀ w : World, w.drew.heap.size = w.heap.size := fun _ => rfl; simp only [hq] at *; omega, by omega, by omega⟩ ⟨by have := xd.size; have := xc.size; have hq : ∀ w : World, w.drew.heap.size = w.heap.size := fun _ => rfl; simp only [hq] at *; omega, by omega, by omega⟩ (rc.ext ((Ext.dr _).tr xd)) rd (in0c_in a) (in0c_in b) hx hy (fun w' x => ⟨rfl, x⟩))
            · intro wa ea
              (
                refine (around_spec _ _ _ (by assumption) (by decide) (by unfold inI; omega)).mono ?_
                intro e ww hh
                obtain ⟨rfl, ew⟩ := hh
                rw [ew]
                refine ⟨_, rfl, ?_⟩
                repeat (refine And.intro rfl ?_)
                clear ew)
              (repeat (refine And.intro (((hal ea)).loadL (fun j hj => by simp at hj; subst hj; rfl)) ?_))
              (
                refine (around_spec _ _ _ (by assumption) (by decide) (by unfold inI; omega)).mono ?_
                intro e ww hh
                obtain ⟨rfl, ew⟩ := hh
                rw [ew]
                refine ⟨_, rfl, ?_⟩
                repeat (refine And.intro rfl ?_)
                clear ew)
              (repeat (refine And.intro (((hal ea)).loadL (fun j hj => by simp at hj; subst hj; rfl)) ?_))
              (
                refine (around_spec _ _ _ (by assumption) (by decide) (by unfold inI; omega)).mono ?_
                intro e ww hh
                obtain ⟨rfl, ew⟩ := hh
                rw [ew]
                refine ⟨_, rfl, ?_⟩
                repeat (refine And.intro rfl ?_)
                clear ew)
              intro wb eb
              (
                obtain ⟨rd, xd, zd⟩ := box3 ea eb
                exact order_tail (w := w) (b0 := w.heap.size) (b1 := w0.heap.size) (R := fun e w' => e = .returned (.bool true) ∧ Ext w w') (c := in0c a) (d := in0c b) ((h1d.ext xc).ext ((Ext.dr _).tr xd)) ((h2d.ext xc).ext ((Ext.dr _).tr xd)) hgne (by omega) (by omega) ((x1.tr x4d).tr (xc.tr ((Ext.dr _).tr xd))) ⟨by have := xd.size; have := xc.size; have hq : ∀ w : World, w.drew.heap.size = w.heap.size := fun _ => rfl; simp only [hq] at *; omega, by omega, by omega⟩ ⟨by have := xd.size; have := xc.size; have hq : ∀ w : World, w.drew.heap.size = w.heap.size := fun _ => rfl; simp only [hq] at *; omega, by omega, by omega⟩ (rc.ext ((Ext.dr _).tr xd)) rd (in0c_in a) (in0c_in b) hx hy (fun w' x => ⟨rfl, x⟩))))
    · intro wa ea
      (
        refine (around_spec _ _ _ (by assumption) (by decide) (by unfold inI; omega)).mono ?_
        intro e ww hh
        obtain ⟨rfl, ew⟩ := hh
        rw [ew]
        refine ⟨_, rfl, ?_⟩
        repeat (refine And.intro rfl ?_)
        clear ew)
      (repeat (refine And.intro (((hal ea)).loadL (fun j hj => by simp at hj; subst hj; rfl)) ?_))
      (
        refine (around_spec _ _ _ (by assumption) (by decide) (by unfold inI; omega)).mono ?_
        intro e ww hh
        obtain ⟨rfl, ew⟩ := hh
        rw [ew]
        refine ⟨_, rfl, ?_⟩
        repeat (refine And.intro rfl ?_)
        clear ew)
      (repeat (refine And.intro (((hal ea)).loadL (fun j hj => by simp at hj; subst hj; rfl)) ?_))
      (
        refine (around_spec _ _ _ (by assumption) (by decide) (by unfold inI; omega)).mono ?_
        intro e ww hh
        obtain ⟨rfl, ew⟩ := hh
        rw [ew]
        refine ⟨_, rfl, ?_⟩
        repeat (refine And.intro rfl ?_)
        clear ew)
      intro wb eb
      (
        obtain ⟨rc, xc, zc⟩ := box3 ea eb
        have rb5 := (rb4.ext xc).ext (Ext.dr _)
        (
          have hal : ∀ {wa : World}, wa = World.alloc wb.drew (.cells #[.int .i64 0, .int .i64 0, .int .i64 0] 23) → Row wa _ _ tCe := fun e => (rb5).ext ((Ext.rfl' _).of_alloc e)
          refine ⟨?_, ?_⟩
          · (
              refine (around_spec _ _ _ (by assumption) (by decide) (by unfold inI; omega)).mono ?_
              intro e ww hh
              obtain ⟨rfl, ew⟩ := hh
              rw [ew]
              refine ⟨_, rfl, ?_⟩
              repeat (refine And.intro rfl ?_)
              clear ew)
            (repeat (refine And.intro ((rb5).loadL (fun j hj => by simp at hj; subst hj; rfl)) ?_))
            refine ⟨?_, ?_⟩
            · (
                refine (around_spec _ _ _ (by assumption) (by decide) (by unfold inI; omega)).mono ?_
                intro e ww hh
                obtain ⟨rfl, ew⟩ := hh
                rw [ew]
                refine ⟨_, rfl, ?_⟩
                repeat (refine And.intro rfl ?_)
                clear ew)
              (repeat (refine And.intro ((rb5).loadL (fun j hj => by simp at hj; subst hj; rfl)) ?_))
              refine ⟨?_, ?_⟩
              · (
                  refine (around_spec _ _ _ (by assumption) (by decide) (by unfold inI; omega)).mono ?_
                  intro e ww hh
                  obtain ⟨rfl, ew⟩ := hh
                  rw [ew]
                  refine ⟨_, rfl, ?_⟩
                  repeat (refine And.intro rfl ?_)
                  clear ew)
                refine ⟨?_, ?_⟩
                · intro wa ea wb eb
                  (
                    obtain ⟨rd, xd, zd⟩ := box3 ea eb
                    exact order_tail (w := w) (b0 := w.heap.size) (b1 := w0.heap.size) (R := fun e w' => e = .returned (.bool true) ∧ Ext w w') (c := in0c a) (d := in0c b) ((h1d.ext xc).ext ((Ext.dr _).tr xd)) ((h2d.ext xc).ext ((Ext.dr _).tr xd)) hgne (by omega) (by omega) ((x1.tr x4d).tr (xc.tr ((Ext.dr _).tr xd))) ⟨by have := xd.size; have := xc.size; have hq : ∀ w : World, w.drew.heap.size = w.heap.size := fun _ => rfl; simp only [hq] at *; omega, by omega, by omega⟩ ⟨by have := xd.size; have := xc.size; have hq : ∀ w : World, w.drew.heap.size = w.heap.size := fun _ => rfl; simp only [hq] at *; omega, by omega, by omega⟩ (rc.ext ((Ext.dr _).tr xd)) rd (in0c_in a) (in0c_in b) hx hy (fun w' x => ⟨rfl, x⟩))
                · intro wa ea wb eb
                  (
                    obtain ⟨rd, xd, zd⟩ := box3 ea eb
                    exact order_tail (w := w) (b0 := w.heap.size) (b1 := w0.heap.size) (R := fun e w' => e = .returned (.bool true) ∧ Ext w w') (c := in0c a) (d := in0c b) ((h1d.ext xc).ext ((Ext.dr _).tr xd)) ((h2d.ext xc).ext ((Ext.dr _).tr xd)) hgne (by omega) (by omega) ((x1.tr x4d).tr (xc.tr ((Ext.dr _).tr xd))) ⟨by have := xd.size; have := xc.size; have hq : ∀ w : World, w.drew.heap.size = w.heap.size := fun _ => rfl; simp only [hq] at *; omega, by omega, by omega⟩ ⟨by have := xd.size; have := xc.size; have hq : ∀ w : World, w.drew.heap.size = w.heap.size := fun _ => rfl; simp only [hq] at *; omega, by omega, by omega⟩ (rc.ext ((Ext.dr _).tr xd)) rd (in0c_in a) (in0c_in b) hx hy (fun w' x => ⟨rfl, x⟩))
              · intro wa ea
                (
                  refine (around_spec _ _ _ (by assumption) (by decide) (by unfold inI; omega)).mono ?_
                  intro e ww hh
                  obtain ⟨rfl, ew⟩ := hh
                  rw [ew]
                  refine ⟨_, rfl, ?_⟩
                  repeat (refine And.intro rfl ?_)
                  clear ew)
                intro wb eb
                (
                  obtain ⟨rd, xd, zd⟩ := box3 ea eb
                  exact order_tail (w := w) (b0 := w.heap.size) (b1 := w0.heap.size) (R := fun e w' => e = .returned (.bool true) ∧ Ext w w') (c := in0c a) (d := in0c b) ((h1d.ext xc).ext ((Ext.dr _).tr xd)) ((h2d.ext xc).ext ((Ext.dr _).tr xd)) hgne (by omega) (by omega) ((x1.tr x4d).tr (xc.tr ((Ext.dr _).tr xd))) ⟨by have := xd.size; have := xc.size; have hq : ∀ w : World, w.drew.heap.size = w.heap.size := fun _ => rfl; simp only [hq] at *; omega, by omega, by omega⟩ ⟨by have := xd.size; have := xc.size; have hq : ∀ w : World, w.drew.heap.size = w.heap.size := fun _ => rfl; simp only [hq] at *; omega, by omega, by omega⟩ (rc.ext ((Ext.dr _).tr xd)) rd (in0c_in a) (in0c_in b) hx hy (fun w' x => ⟨rfl, x⟩))
            · intro wa ea
              (
                refine (around_spec _ _ _ (by assumption) (by decide) (by unfold inI; omega)).mono ?_
                intro e ww hh
                obtain ⟨rfl, ew⟩ := hh
                rw [ew]
                refine ⟨_, rfl, ?_⟩
                repeat (refine And.intro rfl ?_)
                clear ew)
              (repeat (refine And.intro (((hal ea)).loadL (fun j hj => by simp at hj; subst hj; rfl)) ?_))
              (
                refine (around_spec _ _ _ (by assumption) (by decide) (by unfold inI; omega)).mono ?_
                intro e ww hh
                obtain ⟨rfl, ew⟩ := hh
                rw [ew]
                refine ⟨_, rfl, ?_⟩
                repeat (refine And.intro rfl ?_)
                clear ew)
              intro wb eb
              (
                obtain ⟨rd, xd, zd⟩ := box3 ea eb
                exact order_tail (w := w) (b0 := w.heap.size) (b1 := w0.heap.size) (R := fun e w' => e = .returned (.bool true) ∧ Ext w w') (c := in0c a) (d := in0c b) ((h1d.ext xc).ext ((Ext.dr _).tr xd)) ((h2d.ext xc).ext ((Ext.dr _).tr xd)) hgne (by omega) (by omega) ((x1.tr x4d).tr (xc.tr ((Ext.dr _).tr xd))) ⟨by have := xd.size; have := xc.size; have hq : ∀ w : World, w.drew.heap.size = w.heap.size := fun _ => rfl; simp only [hq] at *; omega, by omega, by omega⟩ ⟨by have := xd.size; have := xc.size; have hq : ∀ w : World, w.drew.heap.size = w.heap.size := fun _ => rfl; simp only [hq] at *; omega, by omega, by omega⟩ (rc.ext ((Ext.dr _).tr xd)) rd (in0c_in a) (in0c_in b) hx hy (fun w' x => ⟨rfl, x⟩))
          · intro wa ea
            (
              refine (around_spec _ _ _ (by assumption) (by decide) (by unfold inI; omega)).mono ?_
              intro e ww hh
              obtain ⟨rfl, ew⟩ := hh
              rw [ew]
              refine ⟨_, rfl, ?_⟩
              repeat (refine And.intro rfl ?_)
              clear ew)
            (repeat (refine And.intro (((hal ea)).loadL (fun j hj => by simp at hj; subst hj; rfl)) ?_))
            (
              refine (around_spec _ _ _ (by assumption) (by decide) (by unfold inI; omega)).mono ?_
              intro e ww hh
              obtain ⟨rfl, ew⟩ := hh
              rw [ew]
              refine ⟨_, rfl, ?_⟩
              repeat (refine And.intro rfl ?_)
              clear ew)
            (repeat (refine And.intro (((hal ea)).loadL (fun j hj => by simp at hj; subst hj; rfl)) ?_))
            (
              refine (around_spec _ _ _ (by assumption) (by decide) (by unfold inI; omega)).mono ?_
              intro e ww hh
              obtain ⟨rfl, ew⟩ := hh
              rw [ew]
              refine ⟨_, rfl, ?_⟩
              repeat (refine And.intro rfl ?_)
              clear ew)
            intro wb eb
            (
              obtain ⟨rd, xd, zd⟩ := box3 ea eb
              exact order_tail (w := w) (b0 := w.heap.size) (b1 := w0.heap.size) (R := fun e w' => e = .returned (.bool true) ∧ Ext w w') (c := in0c a) (d := in0c b) ((h1d.ext xc).ext ((Ext.dr _).tr xd)) ((h2d.ext xc).ext ((Ext.dr _).tr xd)) hgne (by omega) (by omega) ((x1.tr x4d).tr (xc.tr ((Ext.dr _).tr xd))) ⟨by have := xd.size; have := xc.size; have hq : ∀ w : World, w.drew.heap.size = w.heap.size := fun _ => rfl; simp only [hq] at *; omega, by omega, by omega⟩ ⟨by have := xd.size; have := xc.size; have hq : ∀ w : World, w.drew.heap.size = w.heap.size := fun _ => rfl; simp only [hq] at *; omega, by omega, by omega⟩ (rc.ext ((Ext.dr _).tr xd)) rd (in0c_in a) (in0c_in b) hx hy (fun w' x => ⟨rfl, x⟩)))))
end Go.Proofs.YtfipllblcnahdaaDoor
