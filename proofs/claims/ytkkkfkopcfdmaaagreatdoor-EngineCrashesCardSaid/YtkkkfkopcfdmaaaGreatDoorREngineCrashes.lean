/- The statement EngineCrashes of the given program is proved: for every input that its type allows it answers true; no further conditions. -/
import Derived.Test.YtkkkfkopcfdmaaaGreatDoorRows
import Derived.Test.YtkkkfkopcfdmaaaGreatDoorQKP
import Derived.WalkKit
import Derived.ProofKit
import Derived.OpenShut
import Derived.ShutString
import Derived.ChangeOld
import Derived.Below
import Derived.ChangeSame
import Derived.ChangeVars
import Derived.JoinedOf
import Derived.RowKit
import Derived.LaidLaws
import Derived.LaidHandle
import Derived.SevenTiedAt
import Derived.Test.YtkkkfkopcfdmaaaGreatDoorTie
import Derived.Test.YtkkkfkopcfdmaaaGreatDoorCards
namespace Go.Proofs.YtkkkfkopcfdmaaaGreatDoor.engineCrashes
open Go.ChangeShapes Go.WideShapes Go.ChangeAt Go.RowKit
open Go.ChangeMaps (open_string shut_string)
set_option linter.unusedVariables false
abbrev ks0 : List Bool := [true, true, true, true, true, true, true, true, true, true, true, true, true, true, true, true, false]
theorem own : ownKnob Tryz.prog.godebug = none := by kernel_rfl
theorem laidOut : laidOutB Tryz.prog = true := by kernel_rfl
/-- A world in which the listed variables read as the row says. -/
noncomputable def laidWorld (os : Os) : World := Go.Vc.layAll Tryz.prog Rows.engineCrashesRow.laid (World.holding Tryz.prog os ⟨#[], #[], []⟩)
theorem laidWorld_met (os : Os) (args : Array Value) : laidMetH Tryz.prog Rows.engineCrashesRow.laid ((laidWorld os).forCall (fun _ _ => 0) ⟨#[], args, []⟩).memory :=
 laidMetH_of_parts (laidMet_of_run' 8 (by kernel_rfl) (by kernel_rfl)) (by kernel_rfl)
set_option maxRecDepth 100000 in
theorem lifted (os : Os) (started : os.Started) (H : Type) (enc : TypeId × Value → H) :
  ReturnsInHanded {} Tryz.checked os 8 .any (fun w args => (Rows.engineCrashesSpec.pre enc Tryz.prog Tryz.f8 [] false w args ∧ laidMetH Tryz.prog Rows.engineCrashesRow.laid w) ∧ sizedMet enc Tryz.prog Tryz.f8 (OpenSpec.ofChange Rows.engineCrashesSpec) false w args)
   (Rows.engineCrashesSpec.post enc Tryz.prog Tryz.f8 false true false false) := by
 refine returnsInHanded_of_change_and (C := Tryz.checked) (X := fun w _ => laidMetH Tryz.prog Rows.engineCrashesRow.laid w) (fun _ _ _ hh h => h.of_heap hh) own started (by kernel_rfl) Tryz.func8
  (ChangeSpec.witness_at (enc := enc) (C := Tryz.checked) (os := os) (X := fun w _ => laidMetH Tryz.prog Rows.engineCrashesRow.laid w) false (laidWorld os) #[.int .i64 0, .slice none 0 0, .slice none 0 0, .int .i64 0, .bool false] 8 rfl (by kernel_rfl) (by kernel_rfl) (by kernel_rfl) (by kernel_rfl) (by kernel_rfl) (laidWorld_met os _)) ?_
 intro W base args ds gs before hval0 hW _ _ hL _
 have hval : ∀ (j : Nat) t v, Tryz.f8.params[j]? = some t → args[j]? = some v → Value.okWide Tryz.prog W .any base t v := hval0
 have hW' := hW
 obtain ⟨p, q, hA0, hV, rfl, hfz, hnd⟩ := hW
 have hA : DataW.TrodAll enc Tryz.prog W 0 (fun _ => true) true Tryz.f8.params.toList args.toList ds p := hA0
 rw [Tryz.params8] at hA hval
 obtain ⟨v0, vs0, d0, ds0, p0, q0, hargs, rfl, rfl, h0, r0⟩ := trodAll_cons hA
 obtain ⟨v1, vs1, d1, ds1, p1, q1, rfl, rfl, rfl, h1, r1⟩ := trodAll_cons r0
 obtain ⟨v2, vs2, d2, ds2, p2, q2, rfl, rfl, rfl, h2, r2⟩ := trodAll_cons r1
 obtain ⟨v3, vs3, d3, ds3, p3, q3, rfl, rfl, rfl, h3, r3⟩ := trodAll_cons r2
 obtain ⟨v4, vs4, d4, ds4, p4, q4, rfl, rfl, rfl, h4, r4⟩ := trodAll_cons r3
 obtain ⟨rfl, rfl, rfl⟩ := trodAll_nil r4
 obtain rfl : args = #[v0, v1, v2, v3, v4] := by cases args; simp_all
 obtain ⟨rfl, rfl⟩ := trodVars_none hV
 obtain ⟨a0, rfl, rfl, rfl, w0⟩ := open_int Tryz.underlying3 (hval 0 3 v0 rfl rfl) h0
 obtain ⟨a1, len1, cap1, rfl⟩ := okWide_slice Tryz.underlying37 (hval 1 37 v1 rfl rfl)
 have k1 := h1
 have lt1 : ∀ x ∈ p1, x.block < W.heap.size := by obtain ⟨m, hm⟩ := k1; exact DataW.trod_lt m _ _ _ hm
 obtain ⟨z1, w1, wi1, lc1, cm1⟩ : ∃ z : List (List Value), Go.Vc.RdK W ⟨a1, len1, cap1⟩ 17 z ∧ (∀ r ∈ z, Go.Vc.MixR ks0 r) ∧ len1 ≤ cap1 ∧ cap1 ≤ maxLen := by
  obtain ⟨m, hm⟩ := h1
  exact Go.Vc.mix_of_trod (m := 8) (ks := ks0) Tryz.underlying37 (by kernel_rfl) hm
 obtain ⟨a2, len2, cap2, rfl⟩ := okWide_slice Tryz.underlying37 (hval 2 37 v2 rfl rfl)
 have k2 := h2
 have lt2 : ∀ x ∈ p2, x.block < W.heap.size := by obtain ⟨m, hm⟩ := k2; exact DataW.trod_lt m _ _ _ hm
 obtain ⟨z2, w2, wi2, lc2, cm2⟩ : ∃ z : List (List Value), Go.Vc.RdK W ⟨a2, len2, cap2⟩ 17 z ∧ (∀ r ∈ z, Go.Vc.MixR ks0 r) ∧ len2 ≤ cap2 ∧ cap2 ≤ maxLen := by
  obtain ⟨m, hm⟩ := h2
  exact Go.Vc.mix_of_trod (m := 8) (ks := ks0) Tryz.underlying37 (by kernel_rfl) hm
 obtain ⟨a3, rfl, rfl, rfl, w3⟩ := open_int Tryz.underlying3 (hval 3 3 v3 rfl rfl) h3
 obtain ⟨a4, rfl, rfl, rfl⟩ := open_bool Tryz.underlying4 (hval 4 4 v4 rfl rfl) h4
 clear hA0 hval0
 refine (Go.Proofs.YtkkkfkopcfdmaaaGreatDoor.walk_EngineCrashes a0 a1 len1 cap1 z1 a2 len2 cap2 z2 a3 a4 W (Go.Vc.inI_wf' w0) w1 wi1 lc1 w2 wi2 lc2 (Go.Vc.inI_wf' w3)).mono fun e W' ⟨he, bel⟩ => ?_
 subst he
 exact ⟨_, rfl, _, _, _, [], _, [], hW', trodAll_mk1 (shut_bool Tryz.underlying4 _), (trodAll_cons_mk (shut_int Tryz.underlying3 w0) (trodAll_cons_mk (Below.trod laidOut (by kernel_rfl) (of_decide_eq_true (by kernel_rfl)) k1 bel lt1) (trodAll_cons_mk (Below.trod laidOut (by kernel_rfl) (of_decide_eq_true (by kernel_rfl)) k2 bel lt2) (trodAll_cons_mk (shut_int Tryz.underlying3 w3) (trodAll_cons_mk (shut_bool Tryz.underlying4 _) trodAll_mk0))))), rfl, bel.frame _, fun h => by cases h⟩
theorem fInPlace : Rows.engineCrashesRow.inPlace = Tryz.pinned.checked.prog.inPlace 8 := by kernel_rfl
theorem fUnfollowed : Rows.engineCrashesRow.unfollowed = Tryz.pinned.checked.prog.unfollowed 8 := by kernel_rfl
theorem fNamed : Rows.engineCrashesRow.named = Tryz.pinned.checked.prog.varsNamed 8 := by kernel_rfl
theorem fRecurses : Rows.engineCrashesRow.recurses = Tryz.pinned.checked.prog.recurses 8 := by
 unfold Program.recurses
 rw [← fUnfollowed]
 kernel_rfl
theorem fClosed : joinedFacts Tryz.pinned.checked.prog 8 Tryz.f8 Rows.engineCrashesSpec Rows.engineCrashesRow = true := by
 unfold joinedFacts
 rw [← fInPlace, ← fUnfollowed, ← fRecurses, ← fNamed]
 kernel_rfl
theorem over : Rows.engineCrashesRow.holds Tryz.pinned (OpenSpec.ofChange Rows.engineCrashesSpec) :=
 OpenClaim.holds_of_wide 8 Tryz.f8 rfl rfl rfl rfl rfl rfl rfl ⟨rfl, rfl, rfl, rfl, rfl⟩ rfl rfl rfl rfl rfl (by kernel_rfl) Tryz.func8 fClosed
  (of_decide_eq_true (by kernel_rfl)) (by unfold Func.isWrapper; first | (rw [if_pos (by decide +kernel)]; kernel_rfl) | (rw [if_neg (by decide +kernel)]; exact ⟨rfl, rfl⟩))
  (fun os started H enc _ => lifted os started H enc)
theorem proved : Rows.EngineCrashesSaid := over
theorem card_holds : Rows.EngineCrashesCardSaid :=
 Claim7.holds_tied_plain_at .later [] [.data, .data, .data] true (true, "35e81c0ba926710c2a24f90cf1253485641fd70b533749039624d97ea7e59721") true
  over (fun _ h => by cases h) (by kernel_rfl) (fun _ h => by cases h) engineCrashes_row_tie rfl ⟨rfl, rfl⟩ (by kernel_rfl) rfl
  (fun f fn hf hfn => by
   obtain rfl : f = 8 := Option.some.inj ((show Tryz.prog.funcNamed "breccia/breccialaw21.EngineCrashes" = some 8 by kernel_rfl).symm.trans hf) |>.symm
   obtain rfl : fn = Tryz.f8 := (Option.some.inj (Tryz.func8.symm.trans hfn)).symm
   exact ⟨by kernel_rfl, fun j t ht => by
    rw [Tryz.params8] at ht
    have hm : t ∈ ([3, 37, 37, 3, 4] : List TypeId) := by
     have := Array.mem_of_getElem? ht
     simpa using this
    simp only [List.mem_cons, List.not_mem_nil, or_false] at hm
    rcases hm with rfl | rfl | rfl | rfl | rfl <;> exact (show Tryz.prog.wantsStandIn _ = false by kernel_rfl)⟩)
  (by kernel_rfl)
end Go.Proofs.YtkkkfkopcfdmaaaGreatDoor.engineCrashes
