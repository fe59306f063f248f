import Derived.Test.YtjcnjlaelhdjeaaGreatDoorRows
import Derived.Test.YtjcnjlaelhdjeaaGreatDoorQKP
import Derived.WalkKit
import Derived.ProofKit
import Derived.OpenShut
import Derived.ShutString
import Derived.ChangeOld
import Derived.Below
import Derived.Lib.LaidTab
import Derived.Lib.ItoaNum
import Derived.MakeChecks
import Derived.LaidSub
import Derived.ChangeSame
import Derived.ChangeVars
import Derived.JoinedOf
import Derived.RowKit
import Derived.LaidLaws
import Derived.LaidHandle
import Derived.SevenTiedAt
import Derived.Test.YtjcnjlaelhdjeaaGreatDoorTie
import Derived.Test.YtjcnjlaelhdjeaaGreatDoorCards
namespace Go.Vc
open Go Go.RowKit Go.ChangeShapes Go.WideShapes
section
variable {H : Type} {enc : TypeId × Value → H} {P : Program} {w : World} {base : Nat} {spare : Nat → Bool} {held : Bool}
theorem strs_of_trod {t e : TypeId} {fuel : Nat} {a : Option Addr} {len cap : Nat} {x : DataW H × List MemPlace} (ht : P.underlying t = some (.slice e)) (he : P.underlying e = some .string) (hk : P.cellsOf e = 1)
    (h : DataW.trod enc P w base spare held fuel t [.slice a len cap] = some x) :
    ∃ z : List ByteArray, RdK w ⟨a, len, cap⟩ 1 (z.map fun s => [Value.string s]) ∧ len ≤ cap ∧ cap ≤ maxLen := by
  rcases Go.Deep.open_slice ht h with ⟨hcs, _⟩ | ⟨b, len', cap', m', n, D, Pl, hcs, _, hl, hm, hmm, _, hx⟩
  · simp at hcs
    obtain ⟨rfl, rfl, rfl⟩ := hcs
    exact ⟨[], ⟨rfl, by simp, fun i r hi => by simp at hi⟩, Nat.le_refl _, by decide⟩
  · simp at hcs
    obtain ⟨rfl, rfl, rfl⟩ := hcs
    have hlm : len ≤ m' := by rw [hmm]; split <;> omega
    have each : ∀ i, i < len → ∃ s : ByteArray, w.cell? (b.add i) = some (.string s) := by
      intro i hi
      obtain ⟨cs', h1, h2⟩ := hx i (by omega)
      obtain ⟨s, rfl, -, -⟩ := DataW.trod_string he h2
      rw [hk] at h1
      have := (World.cells?_some h1).2.2 0 (by decide)
      refine ⟨s, ?_⟩
      rw [Nat.mul_one] at this
      have e : (b.add i).add 0 = b.add i := by simp [Addr.add]
      rw [e] at this
      exact this
    have pick : ∃ f : Nat → ByteArray, ∀ i, i < len → w.cell? (b.add i) = some (.string (f i)) := by
      refine ⟨fun i => if hi : i < len then Classical.choose (each i hi) else ByteArray.empty, fun i hi => ?_⟩
      simp only [dif_pos hi]
      exact Classical.choose_spec (each i hi)
    obtain ⟨f, hf⟩ := pick
    refine ⟨(List.range len).map f, ⟨by simp, fun r hr => ?_, fun i r hi j v hj => ?_⟩, hl, hm⟩
    · obtain ⟨r', -, rfl⟩ := List.mem_map.1 hr
      rfl
    · simp only [List.map_map, List.getElem?_map, Option.map_eq_some_iff] at hi
      obtain ⟨q, hq, rfl⟩ := hi
      obtain ⟨hk1, hk2⟩ := List.getElem?_eq_some_iff.1 hq
      simp at hk1 hk2
      subst hk2
      rcases j with _ | j
      · simp at hj
        subst hj
        have := hf i hk1
        show w.cell? (b.add (i * 1 + 0)) = _
        rw [Nat.mul_one, Nat.add_zero]
        exact this
      · simp at hj
end
end Go.Vc
namespace Go.Proofs.YtjcnjlaelhdjeaaGreatDoor.linesOdd
open Go.ChangeShapes Go.WideShapes Go.ChangeAt Go.RowKit
open Go.ChangeMaps (open_string shut_string)
set_option linter.unusedVariables false
theorem own : ownKnob Tryz.prog.godebug = none := by kernel_rfl
theorem laidOut : laidOutB Tryz.prog = true := by kernel_rfl
noncomputable def laidWorld (os : Os) : World := Go.Vc.layAll Tryz.prog Rows.linesOddRow.laid (World.holding Tryz.prog os ⟨#[], #[], []⟩)
theorem laidWorld_met (os : Os) (args : Array Value) : laidMetH Tryz.prog Rows.linesOddRow.laid ((laidWorld os).forCall (fun _ _ => 0) ⟨#[], args, []⟩).memory :=
 laidMetH_of_parts (laidMet_of_run' 8 (by kernel_rfl) (by kernel_rfl)) (by kernel_rfl)
theorem tabOf {W : World} (h : laidMetH Tryz.prog Rows.linesOddRow.laid W) : Lib.TabIs Tryz.prog W "internal/strconv.uint64pow10" .u64 Lib.pow10Tab := by
 have h1 := h.filter fun x => x.1 == "internal/strconv.uint64pow10"
 have h2 : laidMet Tryz.prog [("internal/strconv.uint64pow10", Lib.tabData .u64 Lib.pow10Tab)] W := by
  rw [Go.MakeChecks.laidMetH_plain _ _ _ (by kernel_rfl)] at h1
  exact h1
 exact Lib.tabIs_of_head (g := 3) (by kernel_rfl) (by kernel_rfl) Tryz.underlying407 Tryz.underlying158 (by kernel_rfl) (by kernel_rfl) h2
theorem wrap {H : Type} {enc : TypeId × Value → H} {a : Assume} {C : Checked} {os : Os} {f : FuncId} {fn : Func} {s : ChangeSpec} {conds : List PathCond} {apart fresh handsOn again : Bool} {X : World → Array Value → Prop}
  (hX : ∀ (w w' : World) (args : Array Value), w.heap = w'.heap → X w args → X w' args)
  (own : ownKnob C.prog.godebug = none) (started : os.Started) (noInit : C.prog.inits.idxOf? f = none) (hfn : C.prog.funcs[f]? = some fn)
  (witness : ∃ (w : World) (tape : Tape) (i : Input), w.os = os ∧ (w.forCall tape i).Shaped C.prog ∧ i.vars = [] ∧ Input.okWide C.prog (w.forCall tape i) .any w.heap.size f i ∧
   ((s.pre enc C.prog fn conds apart (w.forCall tape i).memory i.args ∧ X (w.forCall tape i).memory i.args) ∧ sizedMet enc C.prog fn (OpenSpec.ofChange s) apart (w.forCall tape i).memory i.args) ∧ a.holds C.prog (lone (Frame.enter C.prog f i.args .normal) [] (w.forCall tape i)))
  (contract : ∀ (W : World) (base : Nat) (args : Array Value) (ds gs : List (DataW H)) (before : List MemPlace),
   (∀ (j : Nat) t v, fn.params[j]? = some t → args[j]? = some v → Value.okWide C.prog W .any base t v) →
   DataW.Whole enc C.prog fn.params.toList s.vars apart W args.toList ds gs before →
   conds.all (PathCond.test C.prog ⟨fn.params.toList, ds, s.plain.varTypes C.prog, gs⟩) = true →
   (DataW.weightsEach C.prog (fn.params.toList ++ s.plain.varTypes C.prog) (ds ++ gs)).all (· ≤ reachBytes) = true → X W args → W.ShapedOpen C.prog →
   a.holds C.prog (lone (Frame.enter C.prog f args .normal) [] W) →
   Calls C.prog f args W fun e W' => ∃ v, e = .returned v ∧ s.post enc C.prog fn apart fresh handsOn again W args v W') :
  ReturnsInHanded a C os f .any (fun w args => (s.pre enc C.prog fn conds apart w args ∧ X w args) ∧ sizedMet enc C.prog fn (OpenSpec.ofChange s) apart w args) (s.post enc C.prog fn apart fresh handsOn again) := by
 refine returnsInHanded_of_calls own started noInit witness ?_
 intro w tape i _ hsh _ hok hpre hholds
 obtain ⟨_, _, _, fn', hfn', _, _, _, _, hval⟩ := hok
 have e : fn' = fn := Option.some.inj (hfn'.symm.trans hfn)
 subst e
 obtain ⟨⟨⟨ds, gs, before, hw, hc⟩, hx⟩, hz⟩ := hpre
 have hw' := DataW.Whole.of_heap (w' := w.forCall tape i) (by rfl) hw
 refine (contract (w.forCall tape i) w.heap.size i.args ds gs before hval hw' hc (hz.weights hw) (hX _ _ _ (by rfl) hx) hsh hholds).mono fun e W' ⟨v, he, hp⟩ => ?_
 subst he
 exact ChangeSpec.post_blind hp
set_option maxRecDepth 100000 in
theorem lifted (os : Os) (started : os.Started) (H : Type) (enc : TypeId × Value → H) :
  ReturnsInHanded {} Tryz.checked os 8 .any (fun w args => (Rows.linesOddSpec.pre enc Tryz.prog Tryz.f8 [] false w args ∧ laidMetH Tryz.prog Rows.linesOddRow.laid w) ∧ sizedMet enc Tryz.prog Tryz.f8 (OpenSpec.ofChange Rows.linesOddSpec) false w args)
   (Rows.linesOddSpec.post enc Tryz.prog Tryz.f8 false true false false) := by
 refine wrap (C := Tryz.checked) (X := fun w _ => laidMetH Tryz.prog Rows.linesOddRow.laid w) (fun _ _ _ hh h => h.of_heap hh) own started (by kernel_rfl) Tryz.func8
  (ChangeSpec.witness_at (enc := enc) (C := Tryz.checked) (os := os) (X := fun w _ => laidMetH Tryz.prog Rows.linesOddRow.laid w) false (laidWorld os) #[.slice none 0 0, .string ByteArray.empty] 8 rfl (by kernel_rfl) (by kernel_rfl) (by kernel_rfl) (by kernel_rfl) (by kernel_rfl) (laidWorld_met os _)) ?_
 intro W base args ds gs before hval0 hW _ _ hL hsh _
 have hval : ∀ (j : Nat) t v, Tryz.f8.params[j]? = some t → args[j]? = some v → Value.okWide Tryz.prog W .any base t v := hval0
 have hW' := hW
 obtain ⟨p, q, hA0, hV, rfl, hfz, hnd⟩ := hW
 have hA : DataW.TrodAll enc Tryz.prog W 0 (fun _ => true) true Tryz.f8.params.toList args.toList ds p := hA0
 rw [Tryz.params8] at hA hval
 obtain ⟨v0, vs0, d0, ds0, p0, q0, hargs, rfl, rfl, h0, r0⟩ := trodAll_cons hA
 obtain ⟨v1, vs1, d1, ds1, p1, q1, rfl, rfl, rfl, h1, r1⟩ := trodAll_cons r0
 obtain ⟨rfl, rfl, rfl⟩ := trodAll_nil r1
 obtain rfl : args = #[v0, v1] := by cases args; simp_all
 obtain ⟨rfl, rfl⟩ := trodVars_none hV
 obtain ⟨a0, len0, cap0, rfl⟩ := okWide_slice Tryz.underlying34 (hval 0 34 v0 rfl rfl)
 have k0 := h0
 have lt0 : ∀ x ∈ p0, x.block < W.heap.size := by obtain ⟨m, hm⟩ := k0; exact DataW.trod_lt m _ _ _ hm
 obtain ⟨z0, w0, lc0, cm0⟩ : ∃ z : List ByteArray, Go.Vc.RdK W ⟨a0, len0, cap0⟩ 1 (z.map fun s => [Value.string s]) ∧ len0 ≤ cap0 ∧ cap0 ≤ maxLen := by
  obtain ⟨m, hm⟩ := h0
  exact Go.Vc.strs_of_trod Tryz.underlying34 Tryz.underlying9 (by kernel_rfl) hm
 obtain ⟨a1, rfl, rfl, rfl, w1⟩ := open_string Tryz.underlying9 (hval 1 9 v1 rfl rfl) h1
 clear hA0 hval0
 refine (Go.Proofs.YtjcnjlaelhdjeaaGreatDoor.walk_LinesOdd a0 len0 cap0 z0 a1 W w0 lc0 w1 hsh (tabOf hL)).mono fun e W' ⟨he, bel⟩ => ?_
 subst he
 exact ⟨_, rfl, _, _, _, [], _, [], hW', trodAll_mk1 (shut_bool Tryz.underlying4 _), (trodAll_cons_mk (Below.trod laidOut (by kernel_rfl) (of_decide_eq_true (by kernel_rfl)) k0 bel lt0) (trodAll_cons_mk (shut_string Tryz.underlying9 w1) trodAll_mk0)), rfl, bel.frame _, fun h => by cases h⟩
theorem fInPlace : Rows.linesOddRow.inPlace = Tryz.pinned.checked.prog.inPlace 8 := by kernel_rfl
theorem fUnfollowed : Rows.linesOddRow.unfollowed = Tryz.pinned.checked.prog.unfollowed 8 := by kernel_rfl
theorem fNamed : Rows.linesOddRow.named = Tryz.pinned.checked.prog.varsNamed 8 := by kernel_rfl
theorem fRecurses : Rows.linesOddRow.recurses = Tryz.pinned.checked.prog.recurses 8 := by
 unfold Program.recurses
 rw [← fUnfollowed]
 kernel_rfl
theorem fClosed : joinedFacts Tryz.pinned.checked.prog 8 Tryz.f8 Rows.linesOddSpec Rows.linesOddRow = true := by
 unfold joinedFacts
 rw [← fInPlace, ← fUnfollowed, ← fRecurses, ← fNamed]
 kernel_rfl
theorem over : Rows.linesOddRow.holds Tryz.pinned (OpenSpec.ofChange Rows.linesOddSpec) :=
 OpenClaim.holds_of_wide 8 Tryz.f8 rfl rfl rfl rfl rfl rfl rfl ⟨rfl, rfl, rfl, rfl, rfl⟩ rfl rfl rfl rfl rfl (by kernel_rfl) Tryz.func8 fClosed
  (of_decide_eq_true (by kernel_rfl)) (by unfold Func.isWrapper; first | (rw [if_pos (by decide +kernel)]; kernel_rfl) | (rw [if_neg (by decide +kernel)]; exact ⟨rfl, rfl⟩))
  (fun os started H enc _ => lifted os started H enc)
theorem proved : Rows.LinesOddSaid := over
theorem fGoes : false = Rows.linesOddRow.goesBy Tryz.pinned.checked.prog := by kernel_rfl
theorem fText : Rows.linesOddRow.wfByText (OpenSpec.ofChange Rows.linesOddSpec) = true := by kernel_rfl
theorem fLooks : true = Tryz.pinned.checked.prog.looks [] := by kernel_rfl
theorem fFunc : Tryz.prog.funcNamed "breccia/breccialaw22.LinesOdd" = some 8 := by kernel_rfl
theorem card_holds : Rows.LinesOddCardSaid :=
 Claim7.holds_tied_plain_at .later [] [.data, .data, .data, .data, .pinned] true (true, "d96e912f5f54a553d5d6fa8e8c04df458143dc139c129f9c22c3a9b8a2836c2f") true
  over (fun _ h => by cases h) fText (fun _ h => by cases h) linesOdd_row_tie rfl ⟨rfl, rfl⟩ (by kernel_rfl) rfl
  (fun f fn hf hfn => by
   obtain rfl : f = 8 := Option.some.inj (fFunc.symm.trans hf) |>.symm
   obtain rfl : fn = Tryz.f8 := (Option.some.inj (Tryz.func8.symm.trans hfn)).symm
   exact ⟨fLooks, fun j t ht => by
    rw [Tryz.params8] at ht
    have hm : t ∈ ([34, 9] : List TypeId) := by
     have := Array.mem_of_getElem? ht
     simpa using this
    simp only [List.mem_cons, List.not_mem_nil, or_false] at hm
    rcases hm with rfl | rfl <;> exact (show Tryz.prog.wantsStandIn _ = false by kernel_rfl)⟩)
  fGoes
end Go.Proofs.YtjcnjlaelhdjeaaGreatDoor.linesOdd
