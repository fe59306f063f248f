/- The statement TopCrash of the given program is proved: for every input that its type allows it answers true; no further conditions. -/
import Derived.Test.YtjcnjlaelhdjeaaGreatDoorRows
import Derived.Test.YtjcnjlaelhdjeaaGreatDoorQKP
import Derived.WalkKit
import Derived.ProofKit
import Derived.OpenShut
import Derived.ShutString
import Derived.ChangeOld
import Derived.Below
import Derived.Lib.LaidTab
import Derived.Lib.ItoaNum
import Derived.MakeChecks
import Derived.LaidSub
import Derived.ChangeSame
import Derived.ChangeVars
import Derived.JoinedOf
import Derived.RowKit
import Derived.LaidLaws
import Derived.LaidHandle
import Derived.SevenTiedAt
import Derived.Test.YtjcnjlaelhdjeaaGreatDoorTie
import Derived.Test.YtjcnjlaelhdjeaaGreatDoorCards
namespace Go.Proofs.YtjcnjlaelhdjeaaGreatDoor.topCrash
open Go.ChangeShapes Go.WideShapes Go.ChangeAt Go.RowKit
open Go.ChangeMaps (open_string shut_string)
set_option linter.unusedVariables false
theorem own : ownKnob Tryz.prog.godebug = none := by kernel_rfl
theorem laidOut : laidOutB Tryz.prog = true := by kernel_rfl
/-- A world in which the listed variables read as the row says. -/
noncomputable def laidWorld (os : Os) : World := Go.Vc.layAll Tryz.prog Rows.topCrashRow.laid (World.holding Tryz.prog os ⟨#[], #[], []⟩)
theorem laidWorld_met (os : Os) (args : Array Value) : laidMetH Tryz.prog Rows.topCrashRow.laid ((laidWorld os).forCall (fun _ _ => 0) ⟨#[], args, []⟩).memory :=
  laidMetH_of_parts (laidMet_of_run' 8 (by kernel_rfl) (by kernel_rfl)) (by kernel_rfl)
theorem okWide_arr {P : Program} {W : World} {r : Reach} {base : Nat} {t e : TypeId} {n : Nat} {v : Value} (ht : P.underlying t = some (.array n e)) (h : Value.okWide P W r base t v) : ∃ cs, v = .agg cs ∧ cs.size = P.cellsOf t := by
  simp only [Value.okWide, ht] at h
  obtain ⟨cs, h1, h2, _⟩ := h
  exact ⟨cs, h1, h2⟩
/-- Three integers that came in. -/
theorem arr3_of_trod {H : Type} {enc : TypeId × Value → H} {P : Program} {w : World} {base : Nat} {sp : Nat → Bool} {held : Bool} {fuel : Nat} {t e : TypeId} {cs : List Value} {x : DataW H × List MemPlace}
    (ht : P.underlying t = some (.array 3 e)) (he : P.underlying e = some (.int .i64)) (hce : P.cellsOf e = 1) (hct : P.cellsOf t = 3) (h : DataW.trod enc P w base sp held fuel t cs = some x) :
    ∃ a b c, cs = [.int .i64 a, .int .i64 b, .int .i64 c] ∧ Go.Vc.inI a ∧ Go.Vc.inI b ∧ Go.Vc.inI c := by
  cases fuel with
  | zero => simp [DataW.trod] at h
  | succ fuel =>
    simp only [DataW.trod, ht, hce, hct, Nat.mul_one] at h
    split at h
    · rename_i hl
      obtain ⟨xs, hm, hx⟩ := Option.map_eq_some_iff.1 h
      have key : ∀ i, i < 3 → ∃ z, cs[i]? = some (.int .i64 z) ∧ Go.Vc.inI z := fun i hi => by
        obtain ⟨b, hb, hf⟩ := Lib.mapM_at hm i i (by simp [hi])
        obtain ⟨z, hc, rfl, hw⟩ := DataW.trod_int he hf
        refine ⟨z, ?_, Go.Vc.inI_wf' hw⟩
        have := congrArg (·[0]?) hc
        simpa [List.getElem?_take, List.getElem?_drop] using this
      obtain ⟨a, ha, wa⟩ := key 0 (by decide)
      obtain ⟨b, hb, wb⟩ := key 1 (by decide)
      obtain ⟨c, hc, wc⟩ := key 2 (by decide)
      obtain ⟨u0, u1, u2, rfl⟩ : ∃ x y z, cs = [x, y, z] := by
        match cs, hl with
        | [x, y, z], _ => exact ⟨x, y, z, rfl⟩
      simp at ha hb hc
      exact ⟨a, b, c, by rw [ha, hb, hc], wa, wb, wc⟩
    · cases h
/-- The table of the powers of ten, as the row says it. -/
theorem tabOf {W : World} (h : laidMetH Tryz.prog Rows.topCrashRow.laid W) : Lib.TabIs Tryz.prog W "internal/strconv.uint64pow10" .u64 Lib.pow10Tab := by
  have h1 := h.filter fun x => x.1 == "internal/strconv.uint64pow10"
  have h2 : laidMet Tryz.prog [("internal/strconv.uint64pow10", Lib.tabData .u64 Lib.pow10Tab)] W := by
    rw [Go.MakeChecks.laidMetH_plain _ _ _ (by kernel_rfl)] at h1
    exact h1
  exact Lib.tabIs_of_head (g := 3) (by kernel_rfl) (by kernel_rfl) Tryz.underlying407 Tryz.underlying158 (by kernel_rfl) (by kernel_rfl) h2
/-- The wrap for a row that lists variables, the world's shape kept. -/
theorem wrap {H : Type} {enc : TypeId × Value → H} {a : Assume} {C : Checked} {os : Os} {f : FuncId} {fn : Func} {s : ChangeSpec} {conds : List PathCond} {apart fresh handsOn again : Bool} {X : World → Array Value → Prop}
    (hX : ∀ (w w' : World) (args : Array Value), w.heap = w'.heap → X w args → X w' args)
    (own : ownKnob C.prog.godebug = none) (started : os.Started) (noInit : C.prog.inits.idxOf? f = none) (hfn : C.prog.funcs[f]? = some fn)
    (witness : ∃ (w : World) (tape : Tape) (i : Input), w.os = os ∧ (w.forCall tape i).Shaped C.prog ∧ i.vars = [] ∧ Input.okWide C.prog (w.forCall tape i) .any w.heap.size f i ∧
      ((s.pre enc C.prog fn conds apart (w.forCall tape i).memory i.args ∧ X (w.forCall tape i).memory i.args) ∧ sizedMet enc C.prog fn (OpenSpec.ofChange s) apart (w.forCall tape i).memory i.args) ∧ a.holds C.prog (lone (Frame.enter C.prog f i.args .normal) [] (w.forCall tape i)))
    (contract : ∀ (W : World) (base : Nat) (args : Array Value) (ds gs : List (DataW H)) (before : List MemPlace),
      (∀ (j : Nat) t v, fn.params[j]? = some t → args[j]? = some v → Value.okWide C.prog W .any base t v) →
      DataW.Whole enc C.prog fn.params.toList s.vars apart W args.toList ds gs before →
      conds.all (PathCond.test C.prog ⟨fn.params.toList, ds, s.plain.varTypes C.prog, gs⟩) = true →
      (DataW.weightsEach C.prog (fn.params.toList ++ s.plain.varTypes C.prog) (ds ++ gs)).all (· ≤ reachBytes) = true → X W args → W.ShapedOpen C.prog →
      a.holds C.prog (lone (Frame.enter C.prog f args .normal) [] W) →
      Calls C.prog f args W fun e W' => ∃ v, e = .returned v ∧ s.post enc C.prog fn apart fresh handsOn again W args v W') :
    ReturnsInHanded a C os f .any (fun w args => (s.pre enc C.prog fn conds apart w args ∧ X w args) ∧ sizedMet enc C.prog fn (OpenSpec.ofChange s) apart w args) (s.post enc C.prog fn apart fresh handsOn again) := by
  refine returnsInHanded_of_calls own started noInit witness ?_
  intro w tape i _ hsh _ hok hpre hholds
  obtain ⟨_, _, _, fn', hfn', _, _, _, _, hval⟩ := hok
  have e : fn' = fn := Option.some.inj (hfn'.symm.trans hfn)
  subst e
  obtain ⟨⟨⟨ds, gs, before, hw, hc⟩, hx⟩, hz⟩ := hpre
  have hw' := DataW.Whole.of_heap (w' := w.forCall tape i) (by rfl) hw
  refine (contract (w.forCall tape i) w.heap.size i.args ds gs before hval hw' hc (hz.weights hw) (hX _ _ _ (by rfl) hx) hsh hholds).mono fun e W' ⟨v, he, hp⟩ => ?_
  subst he
  exact ChangeSpec.post_blind hp
set_option maxRecDepth 100000 in
theorem lifted (os : Os) (started : os.Started) (H : Type) (enc : TypeId × Value → H) :
    ReturnsInHanded {} Tryz.checked os 3 .any (fun w args => (Rows.topCrashSpec.pre enc Tryz.prog Tryz.f3 [] false w args ∧ laidMetH Tryz.prog Rows.topCrashRow.laid w) ∧ sizedMet enc Tryz.prog Tryz.f3 (OpenSpec.ofChange Rows.topCrashSpec) false w args)
      (Rows.topCrashSpec.post enc Tryz.prog Tryz.f3 false true false false) := by
  refine wrap (C := Tryz.checked) (X := fun w _ => laidMetH Tryz.prog Rows.topCrashRow.laid w) (fun _ _ _ hh h => h.of_heap hh) own started (by kernel_rfl) Tryz.func3
    (ChangeSpec.witness_at (enc := enc) (C := Tryz.checked) (os := os) (X := fun w _ => laidMetH Tryz.prog Rows.topCrashRow.laid w) false (laidWorld os) #[.int .i64 0, .agg #[.int .i64 0, .int .i64 0, .int .i64 0], .agg #[.int .i64 0, .int .i64 0, .int .i64 0], .agg #[.int .i64 0, .int .i64 0, .int .i64 0], .int .i64 0, .int .i64 0] 8 rfl (by kernel_rfl) (by kernel_rfl) (by kernel_rfl) (by kernel_rfl) (by kernel_rfl) (laidWorld_met os _)) ?_
  intro W base args ds gs before hval0 hW _ _ hL hsh _
  have hval : ∀ (j : Nat) t v, Tryz.f3.params[j]? = some t → args[j]? = some v → Value.okWide Tryz.prog W .any base t v := hval0
  have hW' := hW
  obtain ⟨p, q, hA0, hV, rfl, hfz, hnd⟩ := hW
  have hA : DataW.TrodAll enc Tryz.prog W 0 (fun _ => true) true Tryz.f3.params.toList args.toList ds p := hA0
  rw [Tryz.params3] at hA hval
  obtain ⟨v0, vs0, d0, ds0, p0, q0, hargs, rfl, rfl, h0, r0⟩ := trodAll_cons hA
  obtain ⟨v1, vs1, d1, ds1, p1, q1, rfl, rfl, rfl, h1, r1⟩ := trodAll_cons r0
  obtain ⟨v2, vs2, d2, ds2, p2, q2, rfl, rfl, rfl, h2, r2⟩ := trodAll_cons r1
  obtain ⟨v3, vs3, d3, ds3, p3, q3, rfl, rfl, rfl, h3, r3⟩ := trodAll_cons r2
  obtain ⟨v4, vs4, d4, ds4, p4, q4, rfl, rfl, rfl, h4, r4⟩ := trodAll_cons r3
  obtain ⟨v5, vs5, d5, ds5, p5, q5, rfl, rfl, rfl, h5, r5⟩ := trodAll_cons r4
  obtain ⟨rfl, rfl, rfl⟩ := trodAll_nil r5
  obtain rfl : args = #[v0, v1, v2, v3, v4, v5] := by cases args; simp_all
  obtain ⟨rfl, rfl⟩ := trodVars_none hV
  obtain ⟨a0, rfl, rfl, rfl, w0⟩ := open_int Tryz.underlying3 (hval 0 3 v0 rfl rfl) h0
  obtain ⟨cs1, rfl, hsz1⟩ := okWide_struct Tryz.underlying23 (hval 1 23 v1 rfl rfl)
  have k1 := h1
  have lt1 : ∀ x ∈ p1, x.block < W.heap.size := by obtain ⟨m, hm⟩ := k1; exact DataW.trod_lt m _ _ _ hm
  obtain ⟨b1, c1, d1, eq1, wb1, wc1, wd1⟩ : ∃ a b c, cs1.toList = [.int .i64 a, .int .i64 b, .int .i64 c] ∧ Go.Vc.inI a ∧ Go.Vc.inI b ∧ Go.Vc.inI c := by
    obtain ⟨m, hm⟩ := h1
    exact Go.Vc.flat3_of_trod (n := 8) (by kernel_rfl) (by kernel_rfl) hm
  obtain rfl : cs1 = #[.int .i64 b1, .int .i64 c1, .int .i64 d1] := by cases cs1; simp_all
  obtain ⟨cs2, rfl, hsz2⟩ := okWide_struct Tryz.underlying23 (hval 2 23 v2 rfl rfl)
  have k2 := h2
  have lt2 : ∀ x ∈ p2, x.block < W.heap.size := by obtain ⟨m, hm⟩ := k2; exact DataW.trod_lt m _ _ _ hm
  obtain ⟨b2, c2, d2, eq2, wb2, wc2, wd2⟩ : ∃ a b c, cs2.toList = [.int .i64 a, .int .i64 b, .int .i64 c] ∧ Go.Vc.inI a ∧ Go.Vc.inI b ∧ Go.Vc.inI c := by
    obtain ⟨m, hm⟩ := h2
    exact Go.Vc.flat3_of_trod (n := 8) (by kernel_rfl) (by kernel_rfl) hm
  obtain rfl : cs2 = #[.int .i64 b2, .int .i64 c2, .int .i64 d2] := by cases cs2; simp_all
  obtain ⟨cs3, rfl, hsz3⟩ := okWide_arr Tryz.underlying24 (hval 3 24 v3 rfl rfl)
  have k3 := h3
  have lt3 : ∀ x ∈ p3, x.block < W.heap.size := by obtain ⟨m, hm⟩ := k3; exact DataW.trod_lt m _ _ _ hm
  obtain ⟨b3, c3, d3, eq3, wb3, wc3, wd3⟩ : ∃ a b c, cs3.toList = [.int .i64 a, .int .i64 b, .int .i64 c] ∧ Go.Vc.inI a ∧ Go.Vc.inI b ∧ Go.Vc.inI c := by
    obtain ⟨m, hm⟩ := h3
    exact arr3_of_trod Tryz.underlying24 Tryz.underlying3 (by kernel_rfl) (by kernel_rfl) hm
  obtain rfl : cs3 = #[.int .i64 b3, .int .i64 c3, .int .i64 d3] := by cases cs3; simp_all
  obtain ⟨a4, rfl, rfl, rfl, w4⟩ := open_int Tryz.underlying3 (hval 4 3 v4 rfl rfl) h4
  obtain ⟨a5, rfl, rfl, rfl, w5⟩ := open_int Tryz.underlying3 (hval 5 3 v5 rfl rfl) h5
  clear hA0 hval0
  refine (Go.Proofs.YtjcnjlaelhdjeaaGreatDoor.walk_TopCrash a0 b1 c1 d1 b2 c2 d2 b3 c3 d3 a4 a5 W (Go.Vc.inI_wf' w0) wb1 wc1 wd1 wb2 wc2 wd2 wb3 wc3 wd3 (Go.Vc.inI_wf' w4) (Go.Vc.inI_wf' w5) hsh (tabOf hL)).mono fun e W' ⟨he, bel⟩ => ?_
  subst he
  exact ⟨_, rfl, _, _, _, [], _, [], hW', trodAll_mk1 (shut_bool Tryz.underlying4 _), (trodAll_cons_mk (shut_int Tryz.underlying3 w0) (trodAll_cons_mk (Below.trod laidOut (by kernel_rfl) (of_decide_eq_true (by kernel_rfl)) k1 bel lt1) (trodAll_cons_mk (Below.trod laidOut (by kernel_rfl) (of_decide_eq_true (by kernel_rfl)) k2 bel lt2) (trodAll_cons_mk (Below.trod laidOut (by kernel_rfl) (of_decide_eq_true (by kernel_rfl)) k3 bel lt3) (trodAll_cons_mk (shut_int Tryz.underlying3 w4) (trodAll_cons_mk (shut_int Tryz.underlying3 w5) trodAll_mk0)))))), rfl, bel.frame _, fun h => by cases h⟩
theorem fInPlace : Rows.topCrashRow.inPlace = Tryz.pinned.checked.prog.inPlace 3 := by kernel_rfl
theorem fUnfollowed : Rows.topCrashRow.unfollowed = Tryz.pinned.checked.prog.unfollowed 3 := by kernel_rfl
theorem fNamed : Rows.topCrashRow.named = Tryz.pinned.checked.prog.varsNamed 3 := by kernel_rfl
theorem fRecurses : Rows.topCrashRow.recurses = Tryz.pinned.checked.prog.recurses 3 := by
  unfold Program.recurses
  rw [← fUnfollowed]
  kernel_rfl
theorem fClosed : joinedFacts Tryz.pinned.checked.prog 3 Tryz.f3 Rows.topCrashSpec Rows.topCrashRow = true := by
  unfold joinedFacts
  rw [← fInPlace, ← fUnfollowed, ← fRecurses, ← fNamed]
  kernel_rfl
theorem over : Rows.topCrashRow.holds Tryz.pinned (OpenSpec.ofChange Rows.topCrashSpec) :=
  OpenClaim.holds_of_wide 3 Tryz.f3 rfl rfl rfl rfl rfl rfl rfl ⟨rfl, rfl, rfl, rfl, rfl⟩ rfl rfl rfl rfl rfl (by kernel_rfl) Tryz.func3 fClosed
    (of_decide_eq_true (by kernel_rfl)) (by unfold Func.isWrapper; first | (rw [if_pos (by decide +kernel)]; kernel_rfl) | (rw [if_neg (by decide +kernel)]; exact ⟨rfl, rfl⟩))
    (fun os started H enc _ => lifted os started H enc)
theorem proved : Rows.TopCrashSaid := over
theorem fGoes : false = Rows.topCrashRow.goesBy Tryz.pinned.checked.prog := by kernel_rfl
theorem fText : Rows.topCrashRow.wfByText (OpenSpec.ofChange Rows.topCrashSpec) = true := by kernel_rfl
theorem fLooks : true = Tryz.pinned.checked.prog.looks [] := by kernel_rfl
theorem fFunc : Tryz.prog.funcNamed "breccia/brecciatop.TopCrash" = some 3 := by kernel_rfl
theorem card_holds : Rows.TopCrashCardSaid :=
  Claim7.holds_tied_plain_at .later [] [.data, .data, .data, .data, .pinned] true (true, "d96e912f5f54a553d5d6fa8e8c04df458143dc139c129f9c22c3a9b8a2836c2f") true
    over (fun _ h => by cases h) fText (fun _ h => by cases h) topCrash_row_tie rfl ⟨rfl, rfl⟩ (by kernel_rfl) rfl
    (fun f fn hf hfn => by
      obtain rfl : f = 3 := Option.some.inj (fFunc.symm.trans hf) |>.symm
      obtain rfl : fn = Tryz.f3 := (Option.some.inj (Tryz.func3.symm.trans hfn)).symm
      exact ⟨fLooks, fun j t ht => by
        rw [Tryz.params3] at ht
        have hm : t ∈ ([3, 23, 23, 24, 3, 3] : List TypeId) := by
          have := Array.mem_of_getElem? ht
          simpa using this
        simp only [List.mem_cons, List.not_mem_nil, or_false] at hm
        rcases hm with rfl | rfl | rfl | rfl | rfl | rfl <;> exact (show Tryz.prog.wantsStandIn _ = false by kernel_rfl)⟩)
    fGoes
end Go.Proofs.YtjcnjlaelhdjeaaGreatDoor.topCrash
