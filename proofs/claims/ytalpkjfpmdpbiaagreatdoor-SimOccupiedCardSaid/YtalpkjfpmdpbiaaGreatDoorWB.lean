import Derived.Test.YtalpkjfpmdpbiaaGreatDoorWA
set_option linter.all false
namespace Go.Proofs.YtalpkjfpmdpbiaaGreatDoor
open Go Go.Vc Go.RowKit Go.Proofs Go.Chk Go.Runs Go.Code
section
variable {P P' : Nat → Prop} {w w' v v' : World} {s s1 s2 s3 s4 : Sl} {T : Tb} {ch : List Cg} {seed cap : Int}
abbrev wvR (seed cap : Int) (d : Dk) (s1 s2 s3 s4 : Sl) : Value := .agg #[.int .i64 seed, .int .i64 cap, .int .i64 d.room, .int .i64 d.fails, .int .i64 d.wait, .slice s1.a s1.n s1.c, .slice s2.a s2.n s2.c, .slice s3.a s3.n s3.c, .slice s4.a s4.n s4.c]
abbrev wvL (seed cap : Int) (d : Dk) (s1 s2 s3 s4 : Sl) : List Value := [.int .i64 seed, .int .i64 cap, .int .i64 d.room, .int .i64 d.fails, .int .i64 d.wait, .slice s1.a s1.n s1.c, .slice s2.a s2.n s2.c, .slice s3.a s3.n s3.c, .slice s4.a s4.n s4.c]
theorem rNew13_spec (seed limit room : Int) (w : World) : Calls Tryz.prog n_ref13_New #[.int .i64 seed, .int .i64 limit, .int .i64 room] w fun e w' => ∃ s1 s2 s3 : Sl, e = .returned (wvR seed (min (max limit 1) 16) (dk0 room) s1 s2 s3 ⟨none, 0, 0⟩) ∧ RT P w' (dk0 room, []) s1 s2 s3 ∧ Ext w w' := by
 apply ref13_New.vc
 intro w0 e0
 have x0 : Ext w w0 := (Ext.rfl' _).of_alloc e0
 have z0 : w0.heap.size = w.heap.size + 1 := by rw [e0]; simp
 clear e0
 refine (rNew12_spec (P := Bx P w.heap.size w0.heap.size) seed limit room w0).mono ?_
 rintro e w1 ⟨s1, s2, s3, rfl, h1, x1⟩
 refine ⟨_, _, _, _, _, s1, s2, s3, rfl, x1.heap (by omega), fun w10 e10 => ⟨s1, s2, s3, rfl, (h1.box e10 ⟨by omega, by omega⟩).out, (x0.tr x1).of_setRow e10 (Nat.le_refl _)⟩⟩
end
end Go.Proofs.YtalpkjfpmdpbiaaGreatDoor
