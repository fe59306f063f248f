import Derived.Test.YtalpkjfpmdpbiaaGreatDoorWA
set_option linter.all false
namespace Go.Proofs.YtalpkjfpmdpbiaaGreatDoor
open Go Go.Vc Go.RowKit Go.Proofs Go.bQ Go.aB Go.Code
section
variable {P P':Nat->Prop} {w w' v v':World} {s s1 s2 s3 s4:Sl} {T:Tb} {ch:List Cg} {aa cap:Int}
abbrev JK (aa cap:Int) (d:Dk) (s1 s2 s3 s4:Sl):Value:=.agg #[aa,cap,d.room,d.dW,d.wait,s1,s2,s3,s4]
abbrev JL (aa cap:Int) (d:Dk) (s1 s2 s3 s4:Sl):List Value:=[.int .i64 aa,.int .i64 cap,.int .i64 d.room,.int .i64 d.dW,.int .i64 d.wait,.slice s1.a s1.n s1.c,.slice s2.a s2.n s2.c,.slice s3.a s3.n s3.c,.slice s4.a s4.n s4.c]
theorem zq (aa limit room : Int) (w : World) : Calls Tryz.prog te #[aa, limit, room] w fun e w' => ∃ s1 s2 s3 : Sl, e = .returned (JK aa (min (max limit 1) 16) (eP room) s1 s2 s3 ⟨none, 0, 0⟩) ∧ RT P w' (eP room, []) s1 s2 s3 ∧ Ext w w' := by
 apply sy.vc
 intro w0 e0
 have x0 : Ext w w0 := (Ext.aq _).ab e0
 have z0 := dR e0
 clear e0
 refine (za (P := Bx P w.heap.size w0.heap.size) aa limit room w0).mono ?_
 rintro e w1 ⟨s1, s2, s3, rfl, h1, x1⟩
 refine ⟨_, _, _, _, _, s1, s2, s3, rfl, x1.k, fun w10 e10 => ⟨s1, s2, s3, rfl, (h1.box e10 ⟨by omega, by omega⟩).out, (x0.tr x1).ah e10 (Nat.le_refl _)⟩⟩
end
end Go.Proofs.YtalpkjfpmdpbiaaGreatDoor
namespace Go.Proofs.YtalpkjfpmdpbiaaGreatDoor
open Go Go.Vc Go.RowKit Go.Proofs Go.bQ Go.aB Go.Code
theorem Et {l:List En} (hg:wF l) (c:Ce) (b:Int):wF (cc l c b).1:=by
 unfold cc
 split
 ·exact hg
 ·split
  ·exact hg
  ·split
   ·exact hg
   ·intro e he
    rcases List.mem_append.1 he with he|he
    ·exact hg e ((List.eraseIdx_sublist ..).subset he)
    ·simp only [Option.mem_toList,Option.map_eq_some_iff]at he
     obtain ⟨y,hy,rfl⟩:=he
     exact BS (hg y (List.mem_of_getElem? hy)).1 (hg y (List.mem_of_getElem? hy)).2 c b
section
variable {P P':Nat->Prop} {w w' v v':World} {s s1 s2 s3 s4:Sl} {T:Tb} {ch:List Cg} {aa cap:Int}
end
end Go.Proofs.YtalpkjfpmdpbiaaGreatDoor
