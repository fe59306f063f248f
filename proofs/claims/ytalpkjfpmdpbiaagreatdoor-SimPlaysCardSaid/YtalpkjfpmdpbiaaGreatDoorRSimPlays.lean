/- The statement SimPlays of the given program is proved: for every input that its type allows it answers true; no further conditions. -/
import Derived.Test.YtalpkjfpmdpbiaaGreatDoorRows
import Derived.Test.YtalpkjfpmdpbiaaGreatDoorQKT
import Derived.WalkKit
import Derived.ProofKit
import Derived.OpenShut
import Derived.ShutString
import Derived.ChangeOld
import Derived.Below
import Derived.ChangeSame
import Derived.ChangeVars
import Derived.JoinedOf
import Derived.RowKit
import Derived.LaidLaws
import Derived.LaidHandle
import Derived.SevenTiedAt
import Derived.Test.YtalpkjfpmdpbiaaGreatDoorTie
import Derived.Test.YtalpkjfpmdpbiaaGreatDoorCards
namespace Go.Proofs.YtalpkjfpmdpbiaaGreatDoor.simPlays
open Go.ChangeShapes Go.WideShapes Go.ChangeAt Go.RowKit
open Go.ChangeMaps (open_string shut_string)
set_option linter.unusedVariables false
theorem own : ownKnob Tryz.prog.godebug = none := by kernel_rfl
theorem laidOut : laidOutB Tryz.prog = true := by kernel_rfl
/-- A world in which the listed variables read as the row says. -/
noncomputable def laidWorld (os : Os) : World := Go.Vc.layAll Tryz.prog Rows.simPlaysRow.laid (World.holding Tryz.prog os ⟨#[], #[], []⟩)
theorem laidWorld_met (os : Os) (args : Array Value) : laidMetH Tryz.prog Rows.simPlaysRow.laid ((laidWorld os).forCall (fun _ _ => 0) ⟨#[], args, []⟩).memory :=
  laidMetH_of_parts (laidMet_of_run' 8 (by kernel_rfl) (by kernel_rfl)) (by kernel_rfl)
set_option maxRecDepth 100000 in
theorem lifted (os : Os) (started : os.Started) (H : Type) (enc : TypeId × Value → H) :
    ReturnsInHanded {} Tryz.checked os 8 .any (fun w args => (Rows.simPlaysSpec.pre enc Tryz.prog Tryz.f8 [] false w args ∧ laidMetH Tryz.prog Rows.simPlaysRow.laid w) ∧ sizedMet enc Tryz.prog Tryz.f8 (OpenSpec.ofChange Rows.simPlaysSpec) false w args)
      (Rows.simPlaysSpec.post enc Tryz.prog Tryz.f8 false true false false) := by
  refine returnsInHanded_of_change_and (C := Tryz.checked) (X := fun w _ => laidMetH Tryz.prog Rows.simPlaysRow.laid w) (fun _ _ _ hh h => h.of_heap hh) own started (by kernel_rfl) Tryz.func8
    (ChangeSpec.witness_at (enc := enc) (C := Tryz.checked) (os := os) (X := fun w _ => laidMetH Tryz.prog Rows.simPlaysRow.laid w) false (laidWorld os) #[.int .i64 0, .int .i64 0, .slice none 0 0, .slice none 0 0] 8 rfl (by kernel_rfl) (by kernel_rfl) (by kernel_rfl) (by kernel_rfl) (by kernel_rfl) (laidWorld_met os _)) ?_
  intro W base args ds gs before hval0 hW _ _ hL _
  have hval : ∀ (j : Nat) t v, Tryz.f8.params[j]? = some t → args[j]? = some v → Value.okWide Tryz.prog W .any base t v := hval0
  have hW' := hW
  obtain ⟨p, q, hA0, hV, rfl, hfz, hnd⟩ := hW
  have hA : DataW.TrodAll enc Tryz.prog W 0 (fun _ => true) true Tryz.f8.params.toList args.toList ds p := hA0
  rw [Tryz.params8] at hA hval
  obtain ⟨v0, vs0, d0, ds0, p0, q0, hargs, rfl, rfl, h0, r0⟩ := trodAll_cons hA
  obtain ⟨v1, vs1, d1, ds1, p1, q1, rfl, rfl, rfl, h1, r1⟩ := trodAll_cons r0
  obtain ⟨v2, vs2, d2, ds2, p2, q2, rfl, rfl, rfl, h2, r2⟩ := trodAll_cons r1
  obtain ⟨v3, vs3, d3, ds3, p3, q3, rfl, rfl, rfl, h3, r3⟩ := trodAll_cons r2
  obtain ⟨rfl, rfl, rfl⟩ := trodAll_nil r3
  obtain rfl : args = #[v0, v1, v2, v3] := by cases args; simp_all
  obtain ⟨rfl, rfl⟩ := trodVars_none hV
  obtain ⟨a0, rfl, rfl, rfl, w0⟩ := open_int Tryz.underlying3 (hval 0 3 v0 rfl rfl) h0
  obtain ⟨a1, rfl, rfl, rfl, w1⟩ := open_int Tryz.underlying3 (hval 1 3 v1 rfl rfl) h1
  obtain ⟨a2, len2, cap2, rfl⟩ := okWide_slice Tryz.underlying37 (hval 2 37 v2 rfl rfl)
  have k2 := h2
  have lt2 : ∀ x ∈ p2, x.block < W.heap.size := by obtain ⟨m, hm⟩ := k2; exact DataW.trod_lt m _ _ _ hm
  obtain ⟨z2, w2, wi2, lc2, cm2⟩ : ∃ z : List (List Int), Go.Vc.RdK W ⟨a2, len2, cap2⟩ 3 (z.map fun r => r.map fun n => .int .i64 n) ∧ (∀ r ∈ z, r.length = 3 ∧ ∀ n ∈ r, Go.Vc.inI n) ∧ len2 ≤ cap2 ∧ cap2 ≤ maxLen := by
    obtain ⟨m, hm⟩ := h2
    exact Go.Vc.rows_of_trod (m := 8) Tryz.underlying37 (by kernel_rfl) (by kernel_rfl) hm
  obtain ⟨a3, len3, cap3, rfl⟩ := okWide_slice Tryz.underlying65 (hval 3 65 v3 rfl rfl)
  have k3 := h3
  have lt3 : ∀ x ∈ p3, x.block < W.heap.size := by obtain ⟨m, hm⟩ := k3; exact DataW.trod_lt m _ _ _ hm
  obtain ⟨z3, w3, wi3, lc3, cm3⟩ : ∃ z : List (List Int), Go.Vc.RdK W ⟨a3, len3, cap3⟩ 6 (z.map fun r => r.map fun n => .int .i64 n) ∧ (∀ r ∈ z, r.length = 6 ∧ ∀ n ∈ r, Go.Vc.inI n) ∧ len3 ≤ cap3 ∧ cap3 ≤ maxLen := by
    obtain ⟨m, hm⟩ := h3
    exact Go.Vc.rows_of_trod (m := 8) Tryz.underlying65 (by kernel_rfl) (by kernel_rfl) hm
  clear hA0 hval0
  refine (Go.Proofs.YtalpkjfpmdpbiaaGreatDoor.walk_SimPlays a0 a1 a2 len2 cap2 z2 a3 len3 cap3 z3 W (Go.Vc.inI_wf' w0) (Go.Vc.inI_wf' w1) w2 wi2 lc2 w3 wi3 lc3).mono fun e W' ⟨he, bel⟩ => ?_
  subst he
  exact ⟨_, rfl, _, _, _, [], _, [], hW', trodAll_mk1 (shut_bool Tryz.underlying4 _), (trodAll_cons_mk (shut_int Tryz.underlying3 w0) (trodAll_cons_mk (shut_int Tryz.underlying3 w1) (trodAll_cons_mk (Below.trod laidOut (by kernel_rfl) (of_decide_eq_true (by kernel_rfl)) k2 bel lt2) (trodAll_cons_mk (Below.trod laidOut (by kernel_rfl) (of_decide_eq_true (by kernel_rfl)) k3 bel lt3) trodAll_mk0)))), rfl, bel.frame _, fun h => by cases h⟩
theorem over : Rows.simPlaysRow.holds Tryz.pinned (OpenSpec.ofChange Rows.simPlaysSpec) :=
  OpenClaim.holds_of_wide 8 Tryz.f8 rfl rfl rfl rfl rfl rfl rfl ⟨rfl, rfl, rfl, rfl, rfl⟩ rfl rfl rfl rfl rfl (by kernel_rfl) Tryz.func8 (by kernel_rfl)
    (of_decide_eq_true (by kernel_rfl)) (by unfold Func.isWrapper; first | (rw [if_pos (by decide +kernel)]; kernel_rfl) | (rw [if_neg (by decide +kernel)]; exact ⟨rfl, rfl⟩))
    (fun os started H enc _ => lifted os started H enc)
theorem proved : Rows.SimPlaysSaid := over
theorem card_holds : Rows.SimPlaysCardSaid :=
  Claim7.holds_tied_plain_at .later [] [.data, .data, .data] true (true, "449bb3c82b58f4bf690cecdc1a8a366723d9532443330858f397e60ff483ce1e") true
    over (fun _ h => by cases h) (by kernel_rfl) (fun _ h => by cases h) simPlays_row_tie rfl ⟨rfl, rfl⟩ (by kernel_rfl) rfl
    (fun f fn hf hfn => by
      obtain rfl : f = 8 := Option.some.inj ((show Tryz.prog.funcNamed "breccia/breccialaw19.SimPlays" = some 8 by kernel_rfl).symm.trans hf) |>.symm
      obtain rfl : fn = Tryz.f8 := (Option.some.inj (Tryz.func8.symm.trans hfn)).symm
      exact ⟨by kernel_rfl, fun j t ht => by
        rw [Tryz.params8] at ht
        have hm : t ∈ ([3, 3, 37, 65] : List TypeId) := by
          have := Array.mem_of_getElem? ht
          simpa using this
        simp only [List.mem_cons, List.not_mem_nil, or_false] at hm
        rcases hm with rfl | rfl | rfl | rfl <;> exact (show Tryz.prog.wantsStandIn _ = false by kernel_rfl)⟩)
    (by kernel_rfl)
end Go.Proofs.YtalpkjfpmdpbiaaGreatDoor.simPlays
