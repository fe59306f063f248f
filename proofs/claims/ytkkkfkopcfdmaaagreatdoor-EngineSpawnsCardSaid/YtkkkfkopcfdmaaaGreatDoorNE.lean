import Derived.Test.YtkkkfkopcfdmaaaGreatDoorNA
set_option linter.all false
namespace Go.Proofs.YtkkkfkopcfdmaaaGreatDoor
open Go Go.Vc Go.RowKit Go.Proofs Go.Chk Go.Runs Go.Code Go.Que Go.Flw Go.Eng
set_option maxRecDepth 100000
abbrev tEng : TypeId := 56
abbrev tLfe : TypeId := 111
abbrev Lfe := Bdy × (Int × Int × Bool)
abbrev lfL (x : Lfe) : List Value := [.int .i64 x.1.foot.1, .int .i64 x.1.foot.2.1, .int .i64 x.1.foot.2.2, .int .i64 x.1.speed.1, .int .i64 x.1.speed.2.1, .int .i64 x.1.speed.2.2, .int .i64 x.1.wd, .int .i64 x.1.ht, .bool x.1.stands, .int .i64 x.2.1, .int .i64 x.2.2.1, .bool x.2.2.2]
abbrev pA (a : Option Nat) : Value := .pointer (a.map fun b => ⟨b, 0, none⟩)
structure EL (w : World) (av : List (Option Nat)) (L : List (Option Lfe)) : Prop where
 n : av.length = 16
 m : L.length = 16
 s : ∀ (i a : Nat), av[i]? = some (some a) → ∃ x, L[i]? = some (some x) ∧ Row w a (lfL x) tLfe
 z : ∀ i : Nat, av[i]? = some none → L[i]? = some none
 d : ∀ (i j a : Nat), av[i]? = some (some a) → av[j]? = some (some a) → i = j
def EF (F : Nat → Prop) (w : World) (g s o t : Nat) (M : Sm) (occ : Value) (L : List (Option Lfe)) : Prop :=
 ∃ (Fs : Nat → Prop) (av : List (Option Nat)), Row w g (.pointer (some ⟨s, 0, none⟩) :: av.map pA) tEng ∧ SF Fs w s o t M occ ∧ EL w av L ∧ F = fun i => i = g ∨ Fs i ∨ some i ∈ av
abbrev ERes (F : Nat → Prop) (w : World) (g s o t : Nat) (M : Sm) (occ : Value) (L : List (Option Lfe)) (w' : World) : Prop := ∃ F', EF F' w' g s o t M occ L ∧ Turned F F' w w'
theorem ode : (offT tEng ∧ tEng ≠ tWorld ∧ tEng ≠ tChg ∧ tEng ≠ tSim ∧ tEng ≠ Q.tQueue ∧ tEng ≠ Q.tItem ∧ tEng ≠ tCe) ∧ (offT tLfe ∧ tLfe ≠ tWorld ∧ tLfe ≠ tChg ∧ tLfe ≠ tSim ∧ tLfe ≠ Q.tQueue ∧ tLfe ≠ Q.tItem ∧ tLfe ≠ tCe) ∧ tEng ≠ tLfe := by decide
theorem mem_at {av : List (Option Nat)} {a : Nat} (h : some a ∈ av) : ∃ i : Nat, av[i]? = some (some a) := List.mem_iff_getElem?.1 h
section
variable {F F' : Nat → Prop} {w w' : World} {g s o t : Nat} {M M' : Sm} {occ : Value} {L : List (Option Lfe)}
theorem EL.same {av : List (Option Nat)} (h : EL w av L) (hk : ∀ a, some a ∈ av → w'.heap[a]? = w.heap[a]?) : EL w' av L :=
 ⟨h.n, h.m, fun i a hi => by
  obtain ⟨x, h1, h2⟩ := h.s i a hi
  exact ⟨x, h1, h2.same (hk a (List.mem_of_getElem? hi))⟩, h.z, h.d⟩
theorem EL.lt {av : List (Option Nat)} (h : EL w av L) {a : Nat} (ha : some a ∈ av) : a < w.heap.size := by
 obtain ⟨i, hi⟩ := mem_at ha
 obtain ⟨x, -, h2⟩ := h.s i a hi
 exact h2.lt
theorem EF.lt (h : EF F w g s o t M occ L) {i : Nat} (hi : F i) : i < w.heap.size := by
 obtain ⟨Fs, av, h1, h2, h3, rfl⟩ := h
 rcases hi with rfl | hi | hi
 ·exact h1.lt
 ·exact h2.lt hi
 ·exact h3.lt hi
theorem EF.same (h : EF F w g s o t M occ L) (hk : ∀ i, F i → w'.heap[i]? = w.heap[i]?) : EF F w' g s o t M occ L := by
 obtain ⟨Fs, av, h1, h2, h3, rfl⟩ := h
 exact ⟨Fs, av, h1.same (hk _ (.inl rfl)), h2.same fun i hi => hk i (.inr (.inl hi)), h3.same fun a ha => hk a (.inr (.inr ha)), rfl⟩
theorem EF.ext (h : EF F w g s o t M occ L) (x : Ext w w') : EF F w' g s o t M occ L := h.same fun _ hi => x.heap (h.lt hi)
theorem EF.sim (h : EF F w g s o t M occ L) : ∃ Fs, SF Fs w s o t M occ ∧ Vc.ld w (padd (some ⟨g, 0, none⟩) 0) = some (.pointer (some ⟨s, 0, none⟩)) ∧ (∀ i, Fs i → F i) ∧ ∀ {w' : World} {M' : Sm} {occ' : Value}, SmRes Fs w s o t M' occ' w' → ERes F w g s o t M' occ' L w' := by
 obtain ⟨Fs, av, h1, h2, h3, rfl⟩ := h
 refine ⟨Fs, h2, h1.at 0 rfl, fun i hi => .inr (.inl hi), ?_⟩
 rintro w' M' occ' ⟨F', h', ht⟩
 have ng : ¬ Fs g := h2.no_row2 h1 ode.1.1 ode.1.2.1 ode.1.2.2.1 ode.1.2.2.2.1 ode.1.2.2.2.2.1 ode.1.2.2.2.2.2.1 ode.1.2.2.2.2.2.2
 have na : ∀ a, some a ∈ av → ¬ Fs a := fun a ha => by
  obtain ⟨i, hi⟩ := mem_at ha
  obtain ⟨x, -, hr⟩ := h3.s i a hi
  exact h2.no_row2 hr ode.2.1.1 ode.2.1.2.1 ode.2.1.2.2.1 ode.2.1.2.2.2.1 ode.2.1.2.2.2.2.1 ode.2.1.2.2.2.2.2.1 ode.2.1.2.2.2.2.2.2
 refine ⟨_, ⟨F', av, ht.mod.row h1 ng, h', h3.same fun a ha => ht.mod.same a (h3.lt ha) (na a ha), rfl⟩, ht.mod.mono fun i _ hi => .inr (.inl hi), fun i hi => ?_⟩
 rcases hi with hi | hi | hi
 ·exact .inl (.inl hi)
 ·exact (ht.sub i hi).imp (fun q => .inr (.inl q)) id
 ·exact .inl (.inr (.inr hi))
theorem EF.row (h : EF F w g s o t M occ L) : ∃ av, Row w g (.pointer (some ⟨s, 0, none⟩) :: av.map pA) tEng ∧ EL w av L ∧ F g ∧ (∀ a, some a ∈ av → F a) ∧ ∀ {w' : World} {av' : List (Option Nat)} {L' : List (Option Lfe)}, Mod (fun i => i = g ∨ some i ∈ av) w w' → Row w' g (.pointer (some ⟨s, 0, none⟩) :: av'.map pA) tEng → EL w' av' L' → (∀ a, some a ∈ av' → some a ∈ av ∨ w.heap.size ≤ a) → ERes F w g s o t M occ L' w' := by
 obtain ⟨Fs, av, h1, h2, h3, rfl⟩ := h
 refine ⟨av, h1, h3, .inl rfl, fun a ha => .inr (.inr ha), ?_⟩
 intro w' av' L' hm hr he hsub
 have ng : ¬ Fs g := h2.no_row2 h1 ode.1.1 ode.1.2.1 ode.1.2.2.1 ode.1.2.2.2.1 ode.1.2.2.2.2.1 ode.1.2.2.2.2.2.1 ode.1.2.2.2.2.2.2
 have na : ∀ a, some a ∈ av → ¬ Fs a := fun a ha => by
  obtain ⟨i, hi⟩ := mem_at ha
  obtain ⟨x, -, hr⟩ := h3.s i a hi
  exact h2.no_row2 hr ode.2.1.1 ode.2.1.2.1 ode.2.1.2.2.1 ode.2.1.2.2.2.1 ode.2.1.2.2.2.2.1 ode.2.1.2.2.2.2.2.1 ode.2.1.2.2.2.2.2.2
 refine ⟨_, ⟨Fs, av', hr, h2.same fun i hi => hm.same i (h2.lt hi) fun q => ?_, he, rfl⟩, hm.mono fun i _ hi => hi.elim .inl fun q => .inr (.inr q), fun i hi => ?_⟩
 ·rcases q with rfl | q
  ·exact ng hi
  ·exact na i q hi
 ·rcases hi with hi | hi | hi
  ·exact .inl (.inl hi)
  ·exact .inl (.inr (.inl hi))
  ·exact (hsub i hi).imp (fun q => .inr (.inr q)) id
theorem EF.tl (h : EF F w g s o t M occ L) : Tl (.func (.func n_table_Table_At) #[.pointer (some ⟨t, 0, none⟩)] #[]) (atE M.T.2) w := by
 obtain ⟨Fs, h1, -, -⟩ := h.sim
 exact h1.tl
theorem eView_spec (h : EF F w g s o t M occ L) : Calls Tryz.prog n_engine_Engine_view #[.pointer (some ⟨g, 0, none⟩)] w fun e w' => e = .returned (.func (.func n_table_Table_At) #[.pointer (some ⟨t, 0, none⟩)] #[]) ∧ w' = w := by
 obtain ⟨Fs, h1, h2, -, -⟩ := h.sim
 obtain ⟨Fw, hW, -, -⟩ := h1.world
 apply engine_Engine_view.vc
 refine ⟨_, h2, (sWorld_spec h1).mono ?_⟩
 rintro e w1 ⟨rfl, rfl⟩
 refine ⟨_, rfl, (wView_spec hW).mono ?_⟩
 rintro e w2 ⟨rfl, rfl⟩
 exact ⟨_, rfl, rfl, rfl⟩
theorem eSim_spec (h : EF F w g s o t M occ L) : Calls Tryz.prog n_engine_Engine_Sim #[.pointer (some ⟨g, 0, none⟩)] w fun e w' => e = .returned (.pointer (some ⟨s, 0, none⟩)) ∧ w' = w := by
 obtain ⟨Fs, h1, h2, -, -⟩ := h.sim
 apply engine_Engine_Sim.vc
 exact ⟨_, h2, rfl, rfl⟩
theorem cellF_ok (v : Ce) : okC (cellF v) ∧ okP (pos (cellF v)) := by
 have h := cell_in v
 unfold okC inI okP Go.Chk.pos
 simp only
 omega
abbrev awakeM (M : Sm) (b : Bdy) : Bool := readyE M.T.2 (cellF b.foot)
theorem eAwake_spec (h : EF F w g s o t M occ L) (b : Bdy) : Calls Tryz.prog n_engine_Engine_awake #[.pointer (some ⟨g, 0, none⟩), bdv b] w fun e w' => e = .returned (.bool (awakeM M b)) ∧ Ext w w' := by
 apply engine_Engine_awake.vc
 intro w0 e0
 have x0 : Ext w w0.drew := ((Ext.rfl' _).of_alloc e0).drew
 have z0 : w0.drew.heap.size = w.heap.size + 1 := by show w0.heap.size = _; rw [e0]; simp
 have r0 : Row w0.drew w.heap.size (bdL b) tBd := by rw [e0]; exact (Row.new w [_, _, _, _, _, _, _, _, _] _).ext (Ext.dr _)
 clear e0
 obtain ⟨Fs, h1, h2, -, -⟩ := (h.ext x0).sim
 refine ⟨_, h2, (sWorld_spec h1).mono ?_⟩
 rintro e w2 ⟨rfl, hw⟩
 subst hw
 refine ⟨_, rfl, rfl, ld3 r0 rfl rfl rfl, (cOf_spec b.foot w0.drew).mono ?_⟩
 rintro e w4 ⟨rfl, x4⟩
 obtain ⟨Fw, hW, -, -⟩ := (h1.ext x4).world
 refine ⟨_, _, _, rfl, x4.heap (by omega), (wReady_spec hW (cellF b.foot) (cellF_ok _).1 (cellF_ok _).2).mono ?_⟩
 rintro e w8 ⟨rfl, x8⟩
 have z4 := x4.size
 exact ⟨_, rfl, x8.heap (by omega), rfl, x0.tr (x4.tr x8)⟩
end
def within (v : Ce) (m : Int) : Bool := decide (-m ≤ min (min v.1 v.2.1) v.2.2) && decide (max (max v.1 v.2.1) v.2.2 ≤ m)
def Bdy.may (b : Bdy) : Bool := decide (2 ≤ b.wd) && (decide (b.wd ≤ 131072) && (decide (1 ≤ b.ht) && (decide (b.ht ≤ 262144) && (within b.foot 70368744177664 && within b.speed 262144))))
theorem within_spec (v : Ce) (m : Int) (hm : 0 ≤ m ∧ m ≤ 140737488355328) (w : World) : Calls Tryz.prog n_body_within #[cev v, .int .i64 m] w fun e w' => e = .returned (.bool (within v m)) ∧ Ext w w' := by
 apply body_within.vc
 intro w0 e0
 have x0 : Ext w w0 := (Ext.rfl' _).of_alloc e0
 have e1 : (if v.2.2 < (if v.2.1 < v.1 then v.2.1 else v.1) then v.2.2 else (if v.2.1 < v.1 then v.2.1 else v.1)) = min (min v.1 v.2.1) v.2.2 := by
  repeat' split
  all_goals omega
 have e2 : (if v.2.2 > (if v.2.1 > v.1 then v.2.1 else v.1) then v.2.2 else (if v.2.1 > v.1 then v.2.1 else v.1)) = max (max v.1 v.2.1) v.2.2 := by
  repeat' split
  all_goals omega
 have e3 : IntKind.wrap .i64 (0 - m) = -m := by rw [wrap_in (by unfold inI; omega)]; omega
 rw [e1, e2, e3]
 unfold within
 refine Br.mk (fun h => ?_) (fun h => ?_)
 ·have h : -m ≤ min (min v.1 v.2.1) v.2.2 := by simpa using h
  exact ⟨by rw [decide_eq_true h, Bool.true_and], x0⟩
 ·have h : ¬ -m ≤ min (min v.1 v.2.1) v.2.2 := by simpa using h
  exact ⟨by rw [decide_eq_false h, Bool.false_and], x0⟩
theorem May_spec (b : Bdy) (w : World) : Calls Tryz.prog n_body_May #[bdv b] w fun e w' => e = .returned (.bool b.may) ∧ Ext w w' := by
 apply body_May.vc
 intro w0 e0
 have x0 : Ext w w0 := (Ext.rfl' _).of_alloc e0
 have z0 : w0.heap.size = w.heap.size + 1 := by rw [e0]; simp
 clear e0
 unfold Bdy.may
 refine Br.mk (fun h1 => Br.mk (fun h2 => Br.mk (fun h3 => Br.mk (fun h4 => (within_spec b.foot _ (by decide) w0).mono ?_) (fun h4 => ?_)) (fun h3 => ?_)) (fun h2 => ?_)) (fun h1 => ?_)
 ·rintro e w1 ⟨rfl, x1⟩
  have z1 := x1.size
  have h1 : 2 ≤ b.wd := by simpa using h1
  have h2 : b.wd ≤ 131072 := by simpa using h2
  have h3 : 1 ≤ b.ht := by simpa using h3
  have h4 : b.ht ≤ 262144 := by simpa using h4
  rw [decide_eq_true h1, decide_eq_true h2, decide_eq_true h3, decide_eq_true h4]
  refine ⟨_, rfl, x1.heap (by omega), Br.mk (fun h5 => (within_spec b.speed _ (by decide) w1).mono ?_) (fun h5 => ⟨by rw [h5]; rfl, x0.tr x1⟩)⟩
  rintro e w3 ⟨rfl, x3⟩
  exact ⟨_, rfl, x3.heap (by omega), by rw [h5]; rfl, x0.tr (x1.tr x3)⟩
 ·have h4 : ¬ b.ht ≤ 262144 := by simpa using h4
  exact ⟨by rw [decide_eq_false h4]; simp, x0⟩
 ·have h3 : ¬ 1 ≤ b.ht := by simpa using h3
  exact ⟨by rw [decide_eq_false h3]; simp, x0⟩
 ·have h2 : ¬ b.wd ≤ 131072 := by simpa using h2
  exact ⟨by rw [decide_eq_false h2]; simp, x0⟩
 ·have h1 : ¬ 2 ≤ b.wd := by simpa using h1
  exact ⟨by rw [decide_eq_false h1]; simp, x0⟩
end Go.Proofs.YtkkkfkopcfdmaaaGreatDoor
namespace Go.Proofs.YtkkkfkopcfdmaaaGreatDoor
open Go Go.Vc Go.RowKit Go.Proofs Go.Chk Go.Runs Go.Code Go.Que Go.Flw Go.Eng
set_option maxRecDepth 100000
theorem one_at {w : World} {g : Nat} {p : Value} {av : List (Option Nat)} {τ : TypeId} (hr : Row w g (p :: av.map pA) τ) {k : Nat} {a : Option Nat} (ha : av[k]? = some a) : Vc.ld w (padd (padd (some ⟨g, 0, none⟩) 1) (((k : Nat) : Int).toNat * 1)) = some (pA a) := by
 rw [padd_padd, Int.toNat_natCast, Nat.mul_one]
 refine hr.at (1 + k) ?_
 rw [Nat.add_comm, List.getElem?_cons_succ, List.getElem?_map, ha]
 rfl
theorem Index_spec {w : World} {g : Nat} {p : Value} {av : List (Option Nat)} {τ : TypeId} (hr : Row w g (p :: av.map pA) τ) (hn : av.length = 16) :
  Calls Tryz.prog n_slices_Index_life #[.slice (slBase (padd (some ⟨g, 0, none⟩) 1) 0 16 1) (16 - 0) (16 - 0), .pointer none] w fun e w' => e = .returned (.int .i64 (firstI (fun a : Option Nat => a.isNone) av)) ∧ w' = w := by
 apply (slices_Index_life.vc (a0 := ⟨slBase (padd (some ⟨g, 0, none⟩) 1) 0 16 1, 16 - 0, 16 - 0⟩))
 unfold slices_Index_life.pre
 rw [slBase_zero]
 refine ⟨fun n x wr => ∃ k : Nat, x = k ∧ k + n = 16 ∧ wr = w ∧ ∀ j, j < k → ∀ y, av[j]? = some y → y.isNone = false, ⟨16, 0, rfl, rfl, rfl, fun j hj => by omega⟩, ?_⟩
 rintro n us x wr ⟨k, rfl, hk, rfl, hno⟩
 refine Br.mk (fun hb => ?_) (fun hb => ?_)
 ·have hb : (k : Int) < ((16 - 0 : Nat) : Int) := by simpa using hb
  obtain ⟨a, ha⟩ := get_lt (l := av) (i := k) (by omega)
  refine ⟨⟨rfl, by omega, hb⟩, _, one_at hr ha, ?_⟩
  cases a with
  | none => exact ⟨congrArg (fun n => Ending.returned (.int .i64 n)) (firstI_at ha rfl hno).symm, rfl⟩
  | some b =>
    refine AndL_iff.2 ⟨fun p hp => by rw [List.mem_singleton.1 hp], ?_⟩
    have wk : IntKind.wrap .i64 ((k : Int) + 1) = ((k + 1 : Nat) : Int) := by rw [wrap_in (by unfold inI; omega)]; omega
    refine nope rfl ⟨n - 1, by omega, k + 1, wk, by omega, rfl, fun j hj y hy => ?_⟩
    by_cases q : j < k
    ·exact hno j q y hy
    ·rw [show j = k from by omega, ha] at hy
     rw [← Option.some.inj hy]
     rfl
 ·have hb : ¬ (k : Int) < ((16 - 0 : Nat) : Int) := by simpa using hb
  refine ⟨congrArg (fun n => Ending.returned (.int .i64 n)) (firstI_none fun y hy => ?_).symm, rfl⟩
  obtain ⟨j, hj⟩ := List.mem_iff_getElem?.1 hy
  have := (List.getElem?_eq_some_iff.1 hj).1
  exact hno j (by omega) y hj
abbrev freeK (L : List (Option Lfe)) : Int := firstI (fun x : Option Lfe => x.isNone) L
section
variable {F F' : Nat → Prop} {w w' : World} {g s o t : Nat} {M M' : Sm} {occ : Value} {L : List (Option Lfe)}
theorem EL.none_iff {av : List (Option Nat)} (h : EL w av L) (i : Nat) : (av[i]? = some none ↔ L[i]? = some none) := by
 refine ⟨h.z i, fun hl => ?_⟩
 have hi : i < 16 := by rw [← h.m]; exact (List.getElem?_eq_some_iff.1 hl).1
 obtain ⟨a, ha⟩ := get_lt (l := av) (i := i) (by rw [h.n]; exact hi)
 cases a with
 | none => exact ha
 | some a =>
   obtain ⟨x, hx, -⟩ := h.s i a ha
   rw [hx] at hl
   cases hl
theorem EL.free {av : List (Option Nat)} (h : EL w av L) : firstI (fun a : Option Nat => a.isNone) av = freeK L := by
 rcases firstI_cases (fun a : Option Nat => a.isNone) av with ⟨e, hno⟩ | ⟨k, x, hx, hq, e, hlt⟩
 ·rw [e]
  refine (firstI_none fun y hy => ?_).symm
  obtain ⟨i, hi⟩ := List.mem_iff_getElem?.1 hy
  cases y with
  | some y => rfl
  | none =>
    have := hno none (List.mem_of_getElem? ((h.none_iff i).2 hi))
    cases this
 ·rw [e]
  cases x with
  | some x => cases hq
  | none =>
    refine (firstI_at ((h.none_iff k).1 hx) rfl fun j hj y hy => ?_).symm
    cases y with
    | some y => rfl
    | none => exact absurd (hlt j hj none ((h.none_iff j).2 hy)) (by simp)
def spawnE (M : Sm) (L : List (Option Lfe)) (b : Bdy) : Int × Int × List (Option Lfe) :=
 if b.may = false then (-1, 1, L) else if freeK L < 0 then (-1, 8, L) else if awakeM M b = false then (-1, 11, L) else if anyK (atE M.T.2) b.box bSolid = true then (-1, 12, L)
 else (freeK L, 0, L.set (freeK L).toNat (some ({ b with stands := anyK (atE M.T.2) (underK b.box) bSolid }, (0, 0, false))))
abbrev newB (foot : Ce) (wd ht : Int) : Bdy := ⟨foot, (0, 0, 0), wd, ht, false⟩
theorem EF.res (h : EF F w g s o t M occ L) (x : Ext w w') : ERes F w g s o t M occ L w' := ⟨F, h.ext x, Turned.of_ext x⟩
set_option maxHeartbeats 1000000 in
theorem Spawn_spec (h : EF F w g s o t M occ L) (foot : Ce) (wd ht : Int) (hw : inI wd) : Calls Tryz.prog n_engine_Engine_Spawn #[.pointer (some ⟨g, 0, none⟩), cev foot, .int .i64 wd, .int .i64 ht] w fun e w' =>
  e = .returned (.tuple #[.int .i64 (spawnE M L (newB foot wd ht)).1, .int .i64 (spawnE M L (newB foot wd ht)).2.1]) ∧ ERes F w g s o t M occ (spawnE M L (newB foot wd ht)).2.2 w' := by
 apply engine_Engine_Spawn.vc
 intro w0 e0 w1 e1 w2 e2
 have x0 : Ext w w0 := (Ext.rfl' _).of_alloc e0
 have z0 : w0.heap.size = w.heap.size + 1 := by rw [e0]; simp
 have x2 : Ext w0 w2 := ((Ext.rfl' _).of_alloc e1).of_setRow e2 (Nat.le_refl _)
 have z2 : w2.heap.size = w0.heap.size + 1 := by rw [e2, e1]; simp
 have r2 : Row w2 w0.heap.size (bdL (newB foot wd ht)) tBd := by rw [e2]; exact Row.set (by rw [e1]; exact Row.new w0 [_, _, _, _, _, _, _, _, _] _) _
 clear e0 e1 e2
 have x02 := x0.tr x2
 obtain ⟨av, hrow, hel, -⟩ := (h.ext x02).row
 refine (Index_spec hrow hel.n).mono ?_
 rintro e w3 ⟨rfl, hw3⟩
 subst hw3
 rw [hel.free]
 clear hrow hel
 refine ⟨_, rfl, rfl, rfl, (May_spec (newB foot wd ht) w3).mono ?_⟩
 rintro e w5 ⟨rfl, x5⟩
 have z5 := x5.size
 refine ⟨_, rfl, x5.heap (by omega), x5.heap (by omega), Br.mk (fun q => ?_) (fun q => Br.mk (fun q2 => ?_) (fun q2 => (eAwake_spec (h.ext (x02.tr x5)) (newB foot wd ht)).mono ?_))⟩
 ·have q : (newB foot wd ht).may = false := by simpa using q
  unfold spawnE
  rw [if_pos q]
  exact ⟨rfl, h.res (x02.tr x5)⟩
 ·have q : ¬ (newB foot wd ht).may = false := by simpa using q
  have q2 : freeK L < 0 := by simpa using q2
  unfold spawnE
  rw [if_neg q, if_pos q2]
  exact ⟨rfl, h.res (x02.tr x5)⟩
 have q : ¬ (newB foot wd ht).may = false := by simpa using q
 have q2 : ¬ freeK L < 0 := by simpa using q2
 unfold spawnE
 rw [if_neg q, if_neg q2]
 rintro e w7 ⟨rfl, x7⟩
 have z7 := x7.size
 have zd7 : w7.drew.heap.size = w7.heap.size := rfl
 have x07 := x02.tr (x5.tr x7)
 refine ⟨_, rfl, x7.heap (by omega), x7.heap (by omega), Br.mk (fun q3 => ?_) (fun q3 => (eView_spec (h.ext (x07.drew))).mono ?_)⟩
 ·have q3 : awakeM M (newB foot wd ht) = false := by simpa using q3
  rw [if_pos q3]
  exact ⟨rfl, h.res x07⟩
 have q3 : ¬ awakeM M (newB foot wd ht) = false := by simpa using q3
 rw [if_neg q3]
 rintro e w9 ⟨rfl, hw9⟩
 subst hw9
 have r9 := r2.ext ((x5.tr x7).drew)
 have h9 := h.ext x07.drew
 refine ⟨_, rfl, rfl, rfl, Lo.wv r9, (bBox_spec (newB foot wd ht) hw w7.drew).mono ?_⟩
 rintro e w11 ⟨rfl, x11⟩
 have z11 := x11.size
 refine ⟨_, _, _, _, _, _, rfl, x11.heap (by omega), x11.heap (by omega), (Blocked_spec (h9.ext x11).tl rfl (newB foot wd ht).box).mono ?_⟩
 rintro e w18 ⟨rfl, x18⟩
 have z18 := x18.size
 have x018 := x07.drew.tr (x11.tr x18)
 refine ⟨_, rfl, x18.heap (by omega), x18.heap (by omega), Br.mk (fun q4 => ?_) (fun q4 => (eView_spec (h.ext x018.drew)).mono ?_)⟩
 ·rw [if_pos q4]
  exact ⟨rfl, h.res x018⟩
 rw [if_neg (by rw [q4]; decide)]
 rintro e w20 ⟨rfl, hw20⟩
 subst hw20
 have r20 := r9.ext ((x11.tr x18).drew)
 have h20 := h.ext x018.drew
 have zd18 : w18.drew.heap.size = w18.heap.size := rfl
 refine ⟨_, rfl, rfl, rfl, Lo.wv r20, (bBox_spec (newB foot wd ht) hw w18.drew).mono ?_⟩
 rintro e w22 ⟨rfl, x22⟩
 have z22 := x22.size
 refine ⟨_, _, _, _, _, _, rfl, x22.heap (by omega), x22.heap (by omega), (Stands_spec (h20.ext x22).tl rfl (newB foot wd ht).box).mono ?_⟩
 rintro e w29 ⟨rfl, x29⟩
 have z29 := x29.size
 have x029 := x018.drew.tr (x22.tr x29)
 refine ⟨_, rfl, x29.heap (by omega), x29.heap (by omega), fun w31 e31 w32 e32 => ?_⟩
 generalize hst : anyK (atE M.T.2) (underK (newB foot wd ht).box) bSolid = st at *
 have x31 : Ext w w31.drew := (x029.of_setRow e31 (by omega)).drew
 have z31 : w31.drew.heap.size = w29.heap.size := by show w31.heap.size = _; rw [e31, setRow_size]
 have x32 : Ext w w32 := x31.of_alloc e32
 have z32 : w32.heap.size = w29.heap.size + 1 := by rw [e32]; simp [z31]
 have r32 : Row w32 w31.drew.heap.size (lfL ({ newB foot wd ht with stands := st }, (0, 0, false))) tLfe := by rw [e32]; exact Row.new w31.drew [_, _, _, _, _, _, _, _, _, _, _, _] _
 clear e31 e32
 obtain ⟨av, hrow0, hel0, hFg, hFa, hres⟩ := h.row
 have hrow := hrow0.ext x32
 have hel := hel0.same (w' := w32) fun a ha => x32.heap (hel0.lt ha)
 clear hrow0 hel0
 have hgl := h.lt hFg
 have hfr := hel.free
 obtain ⟨k, hk, hkL, hka⟩ : ∃ k : Nat, freeK L = k ∧ L[k]? = some none ∧ av[k]? = some none := by
  rcases firstI_cases (fun x : Option Lfe => x.isNone) L with ⟨e, -⟩ | ⟨k, x, hx, hq, e, -⟩
  ·exact absurd (show freeK L = -1 from e) (by omega)
  ·cases x with
   | some x => cases hq
   | none => exact ⟨k, e, hx, (hel.none_iff k).2 hx⟩
 have hk16 : k < 16 := by rw [← hel.m]; exact (List.getElem?_eq_some_iff.1 hkL).1
 rw [hk]
 have hpb : pblk (padd (padd (some ⟨g, 0, none⟩) 1) (((k : Nat) : Int).toNat * 1)) = some g := by rw [pblk_padd, pblk_padd]; rfl
 obtain ⟨p1, p2⟩ := hrow.put1 (j := 1 + k) (v := .pointer (some ⟨w31.drew.heap.size, 0, none⟩)) (by simp [hel.n]; omega) rfl
 have hpp : padd (padd (some ⟨g, 0, none⟩) 1) (((k : Nat) : Int).toNat * 1) = padd (some ⟨g, 0, none⟩) (1 + k) := by rw [padd_padd, Int.toNat_natCast, Nat.mul_one]
 have hgn : g < w.heap.size := hgl
 rw [hpb]
 refine ⟨by omega, by omega, ⟨rfl, by rw [hpp]; exact p1⟩, fun q => by have := Option.some.inj q; omega, fun q => by have := Option.some.inj q; omega, fun q => by have := Option.some.inj q; omega, fun w33 e33 => ⟨rfl, ?_⟩⟩
 rw [hpp] at e33
 obtain ⟨q1, q2⟩ := p2 w33 e33
 have q1 : Row w33 g (.pointer (some ⟨s, 0, none⟩) :: (av.set k (some w31.drew.heap.size)).map pA) tEng := by
  have e : putCells (Value.pointer (some ⟨s, 0, none⟩) :: av.map pA) (1 + k) [.pointer (some ⟨w31.drew.heap.size, 0, none⟩)] = .pointer (some ⟨s, 0, none⟩) :: (av.set k (some w31.drew.heap.size)).map pA := by
   show (Value.pointer (some ⟨s, 0, none⟩) :: av.map pA).set (1 + k) _ = _
   rw [Nat.add_comm, List.set_cons_succ, List.map_set]
   rfl
  rw [← e]
  exact q1
 have halt : ∀ a, some a ∈ av → a < w.heap.size := fun a ha => h.lt (hFa a ha)
 have hne : ∀ a, some a ∈ av → a ≠ g := fun a ha q => by
  subst q
  obtain ⟨i, hi⟩ := mem_at ha
  obtain ⟨x, -, hr⟩ := hel.s i a hi
  exact hrow.ne hr ode.2.2 rfl
 have hset : ∀ (i a : Nat), (av.set k (some w31.drew.heap.size))[i]? = some (some a) → (i = k ∧ a = w31.drew.heap.size) ∨ (i ≠ k ∧ av[i]? = some (some a)) := fun i a hi => by
  by_cases q : i = k
  ·subst q
   rw [List.getElem?_set_self (by rw [hel.n]; exact hk16)] at hi
   exact .inl ⟨rfl, (Option.some.inj (Option.some.inj hi)).symm⟩
  ·rw [List.getElem?_set_ne (Ne.symm q)] at hi
   exact .inr ⟨q, hi⟩
 have hE : EL w33 (av.set k (some w31.drew.heap.size)) (L.set k (some ({ newB foot wd ht with stands := st }, (0, 0, false)))) := by
  refine ⟨by rw [List.length_set]; exact hel.n, by rw [List.length_set]; exact hel.m, fun i a hi => ?_, fun i hi => ?_, fun i j a hi hj => ?_⟩
  ·rcases hset i a hi with ⟨rfl, rfl⟩ | ⟨q, hi'⟩
   ·refine ⟨_, List.getElem?_set_self (by rw [hel.m]; exact hk16), r32.same (q2.same _ (by omega) (by omega))⟩
   ·obtain ⟨x, hx, hr⟩ := hel.s i a hi'
    exact ⟨x, by rw [List.getElem?_set_ne (Ne.symm q)]; exact hx, hr.same (q2.same _ hr.lt (hne a (List.mem_of_getElem? hi')))⟩
  ·by_cases q : i = k
   ·subst q
    rw [List.getElem?_set_self (by rw [hel.n]; exact hk16)] at hi
    cases hi
   ·rw [List.getElem?_set_ne (Ne.symm q)] at hi ⊢
    exact hel.z i hi
  ·rcases hset i a hi with ⟨rfl, rfl⟩ | ⟨q, hi'⟩
   ·rcases hset j _ hj with ⟨rfl, -⟩ | ⟨q', hj'⟩
    ·rfl
    ·have := halt _ (List.mem_of_getElem? hj'); omega
   ·rcases hset j a hj with ⟨rfl, rfl⟩ | ⟨q', hj'⟩
    ·have := halt _ (List.mem_of_getElem? hi'); omega
    ·exact hel.d i j a hi' hj'
 exact hres ((Mod.of_ext x32).trans (q2.mono fun i _ hi => .inl hi)) q1 hE fun a ha => by
  obtain ⟨i, hi⟩ := mem_at ha
  rcases hset i a hi with ⟨-, rfl⟩ | ⟨-, hi'⟩
  ·have := x029.size
   exact .inr (by omega)
  ·exact .inl (List.mem_of_getElem? hi')
end
end Go.Proofs.YtkkkfkopcfdmaaaGreatDoor
namespace Go.Proofs.YtkkkfkopcfdmaaaGreatDoor
open Go Go.Vc Go.RowKit Go.Proofs Go.Chk Go.Runs Go.Code Go.Que Go.Flw Go.Eng
set_option maxRecDepth 100000
section
variable {F F' : Nat → Prop} {w w' : World} {g s o t : Nat} {M M' : Sm} {occ : Value} {L : List (Option Lfe)}
theorem at_spec {p : Value} {av : List (Option Nat)} {τ : TypeId} (hr : Row w g (p :: av.map pA) τ) (hn : av.length = 16) (n : Int) :
  Calls Tryz.prog n_engine_Engine_at #[.pointer (some ⟨g, 0, none⟩), .int .i64 n] w fun e w' => ∃ a : Option Nat, e = .returned (pA a) ∧ w' = w ∧ ((∃ k : Nat, n = k ∧ k < 16 ∧ av[k]? = some a) ∨ ¬ (0 ≤ n ∧ n < 16) ∧ a = none) := by
 apply engine_Engine_at.vc
 refine Br.mk (fun h => ⟨none, rfl, rfl, .inr ⟨?_, rfl⟩⟩) (fun h => Br.mk (fun h2 => ⟨none, rfl, rfl, .inr ⟨?_, rfl⟩⟩) (fun h2 => ?_))
 ·have h : n < 0 := by simpa using h
  omega
 ·have h2 : n ≥ 16 := by simpa using h2
  omega
 ·have h : ¬ n < 0 := by simpa using h
  have h2 : ¬ n ≥ 16 := by simpa using h2
  obtain ⟨k, rfl⟩ : ∃ k : Nat, n = k := ⟨n.toNat, by omega⟩
  obtain ⟨a, ha⟩ := get_lt (l := av) (i := k) (by omega)
  exact ⟨by omega, by omega, _, one_at hr ha, a, rfl, rfl, .inl ⟨k, rfl, by omega, ha⟩⟩
def lifeK (L : List (Option Lfe)) (n : Int) : Option Lfe := if 0 ≤ n then (L[n.toNat]?).join else none
def killE (L : List (Option Lfe)) (n : Int) : Int × List (Option Lfe) := if (lifeK L n).isNone then (6, L) else (0, L.set n.toNat none)
theorem EL.life {av : List (Option Nat)} (h : EL w av L) {k : Nat} {a : Option Nat} (ha : av[k]? = some a) : (lifeK L k).isNone = a.isNone := by
 unfold lifeK
 rw [if_pos (by omega), Int.toNat_natCast]
 cases a with
 | none => rw [h.z k ha]; rfl
 | some a =>
   obtain ⟨x, hx, -⟩ := h.s k a ha
   rw [hx]
   rfl
theorem lifeK_out (hL : L.length = 16) {n : Int} (h : ¬ (0 ≤ n ∧ n < 16)) : lifeK L n = none := by
 unfold lifeK
 split
 ·rw [List.getElem?_eq_none (by omega)]
  rfl
 ·rfl
theorem Kill_spec (h : EF F w g s o t M occ L) (n : Int) : Calls Tryz.prog n_engine_Engine_Kill #[.pointer (some ⟨g, 0, none⟩), .int .i64 n] w fun e w' => e = .returned (.int .i64 (killE L n).1) ∧ ERes F w g s o t M occ (killE L n).2 w' := by
 obtain ⟨av, hrow, hel, hFg, hFa, hres⟩ := h.row
 apply engine_Engine_Kill.vc
 refine (at_spec hrow hel.n n).mono ?_
 rintro e w0 ⟨a, rfl, rfl, hc⟩
 refine ⟨_, rfl, ?_⟩
 unfold killE
 rcases hc with ⟨k, rfl, hk, ha⟩ | ⟨hout, rfl⟩
 ·rw [hel.life ha]
  cases a with
  | none => exact yes rfl ⟨rfl, h.res (Ext.rfl' _)⟩
  | some a =>
    refine nope rfl ?_
    have hpp : padd (padd (some ⟨g, 0, none⟩) 1) (((k : Nat) : Int).toNat * 1) = padd (some ⟨g, 0, none⟩) (1 + k) := by rw [padd_padd, Int.toNat_natCast, Nat.mul_one]
    obtain ⟨p1, p2⟩ := hrow.put1 (j := 1 + k) (v := .pointer none) (by simp [hel.n]; omega) rfl
    refine ⟨by omega, by omega, ⟨rfl, by rw [hpp]; exact p1⟩, fun w2 e2 => ⟨rfl, ?_⟩⟩
    rw [hpp] at e2
    obtain ⟨q1, q2⟩ := p2 w2 e2
    have q1 : Row w2 g (.pointer (some ⟨s, 0, none⟩) :: (av.set k none).map pA) tEng := by
     have e : putCells (Value.pointer (some ⟨s, 0, none⟩) :: av.map pA) (1 + k) [.pointer none] = .pointer (some ⟨s, 0, none⟩) :: (av.set k none).map pA := by
      show (Value.pointer (some ⟨s, 0, none⟩) :: av.map pA).set (1 + k) _ = _
      rw [Nat.add_comm, List.set_cons_succ, List.map_set]
      rfl
     rw [← e]
     exact q1
    have hne : ∀ a, some a ∈ av → a ≠ g := fun a ha q => by
     subst q
     obtain ⟨i, hi⟩ := mem_at ha
     obtain ⟨x, -, hr⟩ := hel.s i a hi
     exact hrow.ne hr ode.2.2 rfl
    have hset : ∀ (i a : Nat), (av.set k none)[i]? = some (some a) → i ≠ k ∧ av[i]? = some (some a) := fun i a hi => by
     by_cases q : i = k
     ·subst q
      rw [List.getElem?_set_self (by rw [hel.n]; exact hk)] at hi
      cases hi
     ·rw [List.getElem?_set_ne (Ne.symm q)] at hi
      exact ⟨q, hi⟩
    show ERes F w0 g s o t M occ (L.set ((k : Nat) : Int).toNat none) w2
    refine hres (q2.mono fun i _ hi => .inl hi) q1 ⟨by rw [List.length_set]; exact hel.n, by rw [List.length_set]; exact hel.m, fun i a hi => ?_, fun i hi => ?_, fun i j a hi hj => ?_⟩ fun a ha => ?_
    ·obtain ⟨q, hi'⟩ := hset i a hi
     obtain ⟨x, hx, hr⟩ := hel.s i a hi'
     exact ⟨x, by rw [Int.toNat_natCast, List.getElem?_set_ne (Ne.symm q)]; exact hx, hr.same (q2.same _ hr.lt (hne a (List.mem_of_getElem? hi')))⟩
    ·rw [Int.toNat_natCast]
     by_cases q : i = k
     ·subst q
      exact List.getElem?_set_self (by rw [hel.m]; exact hk)
     ·rw [List.getElem?_set_ne (Ne.symm q)] at hi ⊢
      exact hel.z i hi
    ·exact hel.d i j a (hset i a hi).2 (hset j a hj).2
    ·obtain ⟨i, hi⟩ := mem_at ha
     exact .inl (List.mem_of_getElem? (hset i a hi).2)
 ·rw [lifeK_out hel.m hout]
  exact yes rfl ⟨rfl, h.res (Ext.rfl' _)⟩
def liveK (L : List (Option Lfe)) : List Int := ((List.range 16).filter fun i => (lifeK L (i : Nat)).isSome).map fun i : Nat => (i : Int)
theorem sixteen {α : Type} {l : List α} (h : l.length = 16) : ∃ a b c d e f g h i j k m n o p q, l = [a, b, c, d, e, f, g, h, i, j, k, m, n, o, p, q] := by
 match l, h with
 | [a, b, c, d, e, f, g, h, i, j, k, m, n, o, p, q], _ => exact ⟨a, b, c, d, e, f, g, h, i, j, k, m, n, o, p, q, rfl⟩
set_option maxHeartbeats 1000000 in
theorem Live_spec (h : EF F w g s o t M occ L) : Calls Tryz.prog n_engine_Engine_Live #[.pointer (some ⟨g, 0, none⟩)] w fun e w' => ∃ sl : Sl, e = .returned (.slice sl.a sl.n sl.c) ∧ OwnK w.heap.size 3 1 w' sl ((liveK L).map fun i => [.int .i64 i]) ∧ Ext w w' := by
 obtain ⟨av, hrow, hel, -⟩ := h.row
 apply engine_Engine_Live.vc
 have hld : LoadL w (padd (some ⟨g, 0, none⟩) 1) 0 (av.map pA) := by
  rw [padd_row]
  exact hrow.loadL fun j hj => by rw [show 0 + 1 + j = j + 1 from by omega, List.getElem?_cons_succ]
 have hget : ∀ k : Nat, k < 16 → ∃ a : Option Nat, (av.map pA)[((k : Nat) : Int).toNat * 1]? = some (pA a) ∧ (lifeK L k).isNone = a.isNone := fun k hk => by
  obtain ⟨a, ha⟩ := get_lt (l := av) (i := k) (by rw [hel.n]; exact hk)
  exact ⟨a, by rw [Int.toNat_natCast, Nat.mul_one, List.getElem?_map, ha]; rfl, hel.life ha⟩
 obtain ⟨b0, b1, b2, b3, b4, b5, b6, b7, b8, b9, b10, b11, b12, b13, b14, b15, rfl⟩ := sixteen hel.n
 clear hel hrow
 refine ⟨_, _, _, _, _, _, _, _, _, _, _, _, _, _, _, _, hld, fun n x sl wr => ∃ k : Nat, x = k ∧ k + n = 16 ∧ OwnK w.heap.size 3 1 wr sl ((((List.range k).filter fun i => (lifeK L (i : Nat)).isSome).map fun i : Nat => (i : Int)).map fun i => [.int .i64 i]) ∧ Ext w wr, ⟨16, 0, rfl, rfl, OwnK.nil, Ext.rfl' _⟩, ?_⟩
 rintro n us x sl wr ⟨k, rfl, hk, ho, xr⟩
 have zr := xr.size
 refine Br.mk (fun hb => ?_) (fun hb => ?_)
 ·simp only [decide_eq_true_eq] at hb
  obtain ⟨a, ha, hl⟩ := hget k (by omega)
  have wk : IntKind.wrap .i64 ((k : Int) + 1) = ((k + 1 : Nat) : Int) := by rw [wrap_in (by unfold inI; omega)]; omega
  have hlen : sl.n ≤ 16 := by
   have h1 := (ho.rd (show 0 < 1 by decide)).n
   have h2 := List.length_filter_le (fun i => (lifeK L (i : Nat)).isSome) (List.range k)
   rw [List.length_map, List.length_map] at h1
   rw [List.length_range] at h2
   omega
  refine ⟨⟨by omega, by omega⟩, _, ha, Br.mk (fun hq => fun w24 e24 => ?_) (fun hq => ?_)⟩
  ·subst e24
   have hsome : (lifeK L (k : Nat)).isSome = true := by
    cases a with
    | none => exact absurd hq (by simp)
    | some a =>
      cases hL : lifeK L k with
      | none => rw [hL] at hl; cases hl
      | some y => rfl
   obtain ⟨hp8, hres8⟩ := ho.app1 (bytes := 8) (news := [.int .i64 (k : Int)]) (.cells #[.int .i64 (k : Int)] 3) (by omega) rfl (one_i _ _) (by omega) (by omega)
   refine ⟨hp8, fun s25 w26 hr26 => ?_⟩
   obtain ⟨f8, ho8, hn8, x8, hk8, -⟩ := hres8 s25 w26 hr26
   refine ⟨f8, n - 1, by omega, k + 1, wk, by omega, ?_, (Below.trans xr x8 : Below w.heap.size w w26)⟩
   rw [List.range_succ, List.filter_append, List.map_append, List.map_append, List.filter_cons_of_pos (by simpa using hsome)]
   exact ho8
  ·have hnone : (lifeK L (k : Nat)).isSome = false := by
    cases a with
    | some a => exact absurd hq (by simp)
    | none =>
      cases hL : lifeK L k with
      | none => rfl
      | some y => rw [hL] at hl; cases hl
   refine ⟨n - 1, by omega, k + 1, wk, by omega, ?_, xr⟩
   rw [List.range_succ, List.filter_append, List.map_append, List.map_append, List.filter_cons_of_neg (by rw [hnone]; decide)]
   simpa using ho
 ·simp only [decide_eq_false_iff_not] at hb
  have hk16 : k = 16 := by omega
  subst hk16
  exact ⟨sl, rfl, ho, xr⟩
end
abbrev M0e (seed cap room bud : Int) : Sm := ⟨seed, min (max cap 1) 16, (dk0 room, []), [], ⟨4096, 0, []⟩, min (max bud 1) 64, 0, []⟩
abbrev noL : List (Option Lfe) := List.replicate 16 none
theorem eNew_spec (seed cap room bud : Int) (w : World) : Calls Tryz.prog n_engine_New #[.agg #[.int .i64 seed, .int .i64 cap, .int .i64 room, .int .i64 bud]] w fun e w' =>
  ∃ (g s o t : Nat) (F : Nat → Prop), e = .returned (.pointer (some ⟨g, 0, none⟩)) ∧ EF F w' g s o t (M0e seed cap room bud) (.func (.func n_sim_New_1) #[] #[]) noL ∧ Ext w w' ∧ ∀ i, F i → w.heap.size ≤ i := by
 apply engine_New.vc
 intro w0 e0
 have x0 : Ext w w0.drew := ((Ext.rfl' _).of_alloc e0).drew
 have z0 : w0.drew.heap.size = w.heap.size + 1 := by show w0.heap.size = _; rw [e0]; simp
 have r0 : ∃ τ, Row w0.drew w.heap.size [.int .i64 seed, .int .i64 cap, .int .i64 room, .int .i64 bud] τ := ⟨_, by rw [e0]; exact (Row.new w [_, _, _, _] _).ext (Ext.dr _)⟩
 clear e0
 obtain ⟨τ, r0⟩ := r0
 refine (wNew_spec seed cap room w0.drew).mono ?_
 rintro e w1 ⟨o, t, Fw, rfl, hW, x1, fW⟩
 have z1 := x1.size
 refine ⟨_, rfl, x1.heap (by omega), ld1 (r0.ext x1) rfl, (simNew_spec hW bud).mono ?_⟩
 rintro e w3 ⟨s, F, rfl, hS, x3, fS⟩
 have z3 := x3.size
 refine ⟨_, rfl, x3.heap (by omega), fun w5 e5 => ?_⟩
 have x5 : Ext w3 w5 := (Ext.rfl' _).of_alloc e5
 have r5 : Row w5 w3.heap.size (.pointer (some ⟨s, 0, none⟩) :: (List.replicate 16 none).map pA) tEng := by rw [e5]; exact Row.new w3 [_, _, _, _, _, _, _, _, _, _, _, _, _, _, _, _, _] _
 clear e5
 have hno : ∀ (i a : Nat), (List.replicate 16 (none : Option Nat))[i]? = some (some a) → False := fun i a hi => by
  have := List.eq_of_mem_replicate (List.mem_of_getElem? hi)
  cases this
 have hel : EL w5 (List.replicate 16 none) noL := ⟨rfl, rfl, fun i a hi => (hno i a hi).elim, fun i hi => List.getElem?_replicate_of_lt (by
  have hi16 := (List.getElem?_eq_some_iff.1 hi).1
  rw [List.length_replicate] at hi16
  exact hi16), fun i j a hi => (hno i a hi).elim⟩
 refine ⟨w3.heap.size, s, o, t, _, rfl, ⟨F, _, r5, hS.ext x5, hel, rfl⟩, x0.tr (x1.tr (x3.tr x5)), fun i hi => ?_⟩
 rcases hi with rfl | hi | hi
 ·omega
 ·rcases fS i hi with q | q
  ·have := fW i q; omega
  ·omega
 ·cases List.eq_of_mem_replicate hi
end Go.Proofs.YtkkkfkopcfdmaaaGreatDoor
namespace Go.Proofs.YtkkkfkopcfdmaaaGreatDoor
open Go Go.Vc Go.RowKit Go.Proofs Go.Chk Go.Runs Go.Code Go.Que Go.Flw Go.Eng
set_option maxRecDepth 100000
theorem ld_new (seed limit room : Int) {l : List En} (hl : (l.length : Int) < limit) {p : Po} (hp : inT p) (hn : ∀ e ∈ l, e.1 ≠ p) : ldE seed limit (dk0 room) l p = ((dk0 room, l ++ [(p, made seed p, false, 0)]), 0) := by
 have hr : roomE limit (dk0 room) l = ((dk0 room, l), 0) := by unfold roomE; rw [if_pos hl]
 have hd : (ldS (dk0 room) (idK p)).1 = [] := by unfold dk0; rw [ldS_new]
 have hf : firstI (fun e : En => e.1 == p) l = -1 := firstI_none fun y hy => by simpa using hn y hy
 unfold ldE
 rw [if_neg (by simpa using hp), if_neg (by rw [hf]; decide), hr, if_neg (by simp)]
 simp only [hd, cellsB_nil]
def nineK : List Po := [(-1, -1), (-1, 0), (-1, 1), (0, -1), (0, 0), (0, 1), (1, -1), (1, 0), (1, 1)]
def l9 (seed : Int) (k : Nat) : List En := (nineK.take k).map fun p => (p, made seed p, false, 0)
theorem l9_len (seed : Int) {k : Nat} (hk : k ≤ 9) : (l9 seed k).length = k := by
 unfold l9
 rw [List.length_map, List.length_take]
 have : nineK.length = 9 := rfl
 omega
theorem nine_in {k : Nat} {p : Po} (hp : nineK[k]? = some p) : inT p ∧ p ∉ nineK.take k := by
 have hk : k < 9 := (List.getElem?_eq_some_iff.1 hp).1
 have : k = 0 ∨ k = 1 ∨ k = 2 ∨ k = 3 ∨ k = 4 ∨ k = 5 ∨ k = 6 ∨ k = 7 ∨ k = 8 := by omega
 rcases this with rfl | rfl | rfl | rfl | rfl | rfl | rfl | rfl | rfl <;> (cases hp; decide)
theorem l9_next (seed : Int) {k : Nat} {p : Po} (hp : nineK[k]? = some p) : l9 seed (k + 1) = l9 seed k ++ [(p, made seed p, false, 0)] := by
 unfold l9
 rw [List.take_add_one, hp, List.map_append]
 rfl
theorem l9_ld (seed cap room : Int) (hc : 9 ≤ cap) {k : Nat} {p : Po} (hp : nineK[k]? = some p) : ldE seed cap (dk0 room) (l9 seed k) p = ((dk0 room, l9 seed (k + 1)), 0) := by
 have hk : k < 9 := (List.getElem?_eq_some_iff.1 hp).1
 rw [ld_new seed cap room (by rw [l9_len seed (by omega)]; omega) (nine_in hp).1 (fun e he q => by
  obtain ⟨x, hx, rfl⟩ := List.mem_map.1 he
  exact (nine_in hp).2 (q ▸ hx)), l9_next seed hp]
theorem nine_at {i j : Nat} (hi : i < 3) (hj : j < 3) : nineK[3 * i + j]? = some (-1 + (i : Int), -1 + (j : Int)) := by
 have h1 : i = 0 ∨ i = 1 ∨ i = 2 := by omega
 have h2 : j = 0 ∨ j = 1 ∨ j = 2 := by omega
 rcases h1 with rfl | rfl | rfl <;> rcases h2 with rfl | rfl | rfl <;> rfl
theorem load9_spec {F : Nat → Prop} {w : World} {o t : Nat} {seed cap room : Int} (h : WF F w o t seed cap (dk0 room, l9 seed 0) []) (hc : 9 ≤ cap) :
  Calls Tryz.prog n_law21_load #[.pointer (some ⟨o, 0, none⟩)] w fun e w' => e = .returned (.bool true) ∧ WRes F w o t seed cap (dk0 room, l9 seed 9) [] w' := by
 apply law21_load.vc
 refine (wTable_spec h).mono ?_
 rintro e w0 ⟨rfl, rfl⟩
 refine ⟨_, rfl, nope rfl ⟨fun n x wr => ∃ (i : Nat) (F' : Nat → Prop), x = -1 + i ∧ i + n = 3 ∧ WF F' wr o t seed cap (dk0 room, l9 seed (3 * i)) [] ∧ Turned F F' w0 wr, ⟨3, 0, F, rfl, rfl, h, Turned.refl _ _⟩, ?_⟩⟩
 rintro n us x wr ⟨i, F1, rfl, hi, h1, t1⟩
 refine Br.mk (fun hb => ?_) (fun hb => ?_)
 ·have hb : -1 + (i : Int) < 2 := by simpa using hb
  refine ⟨fun m y wr => ∃ (j : Nat) (F' : Nat → Prop), y = -1 + j ∧ j + m = 3 ∧ WF F' wr o t seed cap (dk0 room, l9 seed (3 * i + j)) [] ∧ Turned F F' w0 wr, ⟨3, 0, F1, rfl, rfl, h1, t1⟩, ?_⟩
  rintro m us2 y wr2 ⟨j, F2, rfl, hj, h2, t2⟩
  refine Br.mk (fun hb2 => ?_) (fun hb2 => ?_)
  ·have hb2 : -1 + (j : Int) < 2 := by simpa using hb2
   have hp := nine_at (i := i) (j := j) (by omega) (by omega)
   have hld := l9_ld seed cap room hc hp
   refine (wfLoad_spec h2 (Nat.zero_le _) (-1 + (i : Int), -1 + (j : Int))).mono ?_
   rintro e w14 ⟨rfl, hr⟩
   rw [hld] at hr
   obtain ⟨F3, h3, t3⟩ := hr
   refine ⟨_, rfl, ?_⟩
   have wk : IntKind.wrap .i64 (-1 + (j : Int) + 1) = -1 + ((j + 1 : Nat) : Int) := by rw [wrap_in (by unfold inI; omega)]; omega
   refine nope (by rw [hld]; rfl) ⟨m - 1, by omega, j + 1, F3, wk, by omega, h3, t2.trans t3⟩
  ·have hb2 : ¬ -1 + (j : Int) < 2 := by simpa using hb2
   have hj3 : j = 3 := by omega
   subst hj3
   have wk : IntKind.wrap .i64 (-1 + (i : Int) + 1) = -1 + ((i + 1 : Nat) : Int) := by rw [wrap_in (by unfold inI; omega)]; omega
   exact ⟨n - 1, by omega, i + 1, F2, wk, by omega, by rw [show 3 * (i + 1) = 3 * i + 3 from by omega]; exact h2, t2⟩
 ·have hb : ¬ -1 + (i : Int) < 2 := by simpa using hb
  have hi3 : i = 3 := by omega
  subst hi3
  exact ⟨rfl, F1, h1, t1⟩
abbrev M9e (seed cap bud : Int) : Sm := ⟨seed, min (max cap 1) 16, (dk0 1000000, l9 seed 9), [], ⟨4096, 0, []⟩, min (max bud 1) 64, 0, []⟩
abbrev tMod : TypeId := 101
abbrev tMl : TypeId := 117
abbrev zl : List Value := [.bool false, .int .i64 0, .int .i64 0, .int .i64 0, .int .i64 0, .int .i64 0, .int .i64 0, .int .i64 0, .int .i64 0, .bool false, .int .i64 0, .int .i64 0, .bool false]
abbrev occ0 : Value := .func (.func n_sim_New_1) #[] #[]
set_option maxHeartbeats 1000000 in
theorem begin21_spec (seed bud cap : Int) (hc : 9 ≤ cap) (w : World) : Calls Tryz.prog n_law21_begin #[.int .i64 seed, .int .i64 bud, .int .i64 cap] w fun e w' =>
  ∃ (g s o t : Nat) (F : Nat → Prop) (m b s' o' t' : Nat) (F' : Nat → Prop), e = .returned (.tuple #[.pointer (some ⟨g, 0, none⟩), .pointer (some ⟨m, 0, none⟩)]) ∧ EF F w' g s o t (M9e seed cap bud) occ0 noL ∧
   SF F' w' s' o' t' (M9e seed cap bud) occ0 ∧ Row w' m [.pointer (some ⟨o', 0, none⟩), .pointer (some ⟨s', 0, none⟩), .slice (some ⟨b, 0, none⟩) 16 16] tMod ∧ Row w' b (zeroRows zl 16) tMl ∧
   (∀ i, F i → ¬ F' i) ∧ (∀ i, F i → w.heap.size ≤ i) ∧ (∀ i, F' i → w.heap.size ≤ i) ∧ w.heap.size ≤ m ∧ w.heap.size ≤ b ∧ Ext w w' := by
 have hcap : 9 ≤ min (max cap 1) 16 := by omega
 apply law21_begin.vc
 refine (eNew_spec seed cap 1000000 bud w).mono ?_
 rintro e w0 ⟨g, s, o, t, F, rfl, hE, x0, fF⟩
 have z0 := x0.size
 refine ⟨_, rfl, (wNew_spec seed cap 1000000 w0).mono ?_⟩
 rintro e w2 ⟨o', t', Fw, rfl, hW, x2, fW⟩
 have z2 := x2.size
 refine ⟨_, rfl, nope rfl (nope rfl ((simNew_spec hW bud).mono ?_))⟩
 rintro e w4 ⟨s', Fm, rfl, hS, x4, fS⟩
 have z4 := x4.size
 have x04 := x0.tr (x2.tr x4)
 have hE4 := hE.ext (x2.tr x4)
 have hdj : ∀ i, F i → ¬ Fm i := fun i hi hm => by
  have := hE.lt hi
  rcases fS i hm with q | q
  ·have := fW i q; omega
  ·omega
 have fM : ∀ i, Fm i → w.heap.size ≤ i := fun i hi => by
  rcases fS i hi with q | q
  ·have := fW i q; omega
  ·omega
 clear hW fW fS hE
 refine ⟨_, rfl, nope rfl (nnP rfl (nnP rfl ?_))⟩
 obtain ⟨Fs, hs, hld, -, -⟩ := hE4.sim
 obtain ⟨Fv, hV, -, -⟩ := hs.world
 refine ⟨_, hld, (sWorld_spec hs).mono ?_⟩
 rintro e w7 ⟨rfl, hw7⟩
 subst hw7
 refine ⟨_, rfl, nope rfl ((eSim_spec hE4).mono ?_)⟩
 rintro e w9 ⟨rfl, hw9⟩
 subst hw9
 obtain ⟨Fu, hU, -, hres⟩ := hS.world
 refine ⟨_, rfl, nope rfl ((wView_spec hU).mono ?_)⟩
 rintro e w11 ⟨rfl, hw11⟩
 subst hw11
 refine ⟨_, rfl, ?_⟩
 rw [fnC_func, isNilF_func, AndL_nil]
 refine nope rfl (nnP rfl (nnP rfl ⟨_, hld, (sWorld_spec hs).mono ?_⟩))
 rintro e w14 ⟨rfl, hw14⟩
 subst hw14
 refine ⟨_, rfl, (wView_spec hV).mono ?_⟩
 rintro e w16 ⟨rfl, hw16⟩
 subst hw16
 refine ⟨_, rfl, ?_⟩
 rw [fnC_func, isNilF_func, AndL_nil]
 refine nope rfl ((load9_spec (room := 1000000) hU hcap).mono ?_)
 rintro e w18 ⟨rfl, hr⟩
 obtain ⟨F2, hS2, t2⟩ := hres hr
 have hE18 : EF F w18 g s o t _ occ0 noL := hE4.same fun i hi => t2.mod.same i (hE4.lt hi) (hdj i hi)
 have hdj2 : ∀ i, F i → ¬ F2 i := fun i hi hm => by
  rcases t2.sub i hm with q | q
  ·exact hdj i hi q
  ·have := hE4.lt hi; omega
 obtain ⟨xw18, fM2⟩ := t2.fresh x04 fM
 clear hs hld hV hU hres hr
 refine ⟨_, rfl, nope rfl (nnP rfl (nnP rfl ?_))⟩
 obtain ⟨Fs, hs, hld, -, hresE⟩ := hE18.sim
 obtain ⟨Fv, hV, -, hresS⟩ := hs.world
 refine ⟨_, hld, (sWorld_spec hs).mono ?_⟩
 rintro e w21 ⟨rfl, hw21⟩
 subst hw21
 refine ⟨_, rfl, (load9_spec (room := 1000000) hV hcap).mono ?_⟩
 rintro e w23 ⟨rfl, hr⟩
 obtain ⟨F3, hE3, t3⟩ := hresE (hresS hr)
 have hS23 : SF F2 w23 s' o' t' (M9e seed cap bud) occ0 := hS2.same fun i hi => t3.mod.same i (hS2.lt hi) fun q => hdj2 i q hi
 have hdj3 : ∀ i, F3 i → ¬ F2 i := fun i hi hm => by
  rcases t3.sub i hi with q | q
  ·exact hdj2 i q hm
  ·have := hS2.lt hm; omega
 obtain ⟨xw23, fF3⟩ := t3.fresh xw18 fF
 have z23 := xw23.size
 refine ⟨_, rfl, nope rfl ?_⟩
 have last : ∀ w25 : World, w25 = w23.drew.alloc (.cells (zeroRows zl (16 : Int).toNat).toArray tMl) → ∀ w26 : World, w26 = w25.alloc (.cells #[.pointer (some ⟨o', 0, none⟩), .pointer (some ⟨s', 0, none⟩), .slice (some ⟨w23.drew.heap.size, 0, none⟩) (16 : Int).toNat (16 : Int).toNat] tMod) →
   ∃ (g2 s2 o2 t2 : Nat) (F : Nat → Prop) (m b s' o' t' : Nat) (F' : Nat → Prop), Ending.returned (.tuple #[.pointer (some ⟨g, 0, none⟩), .pointer (some ⟨w25.heap.size, 0, none⟩)]) = .returned (.tuple #[.pointer (some ⟨g2, 0, none⟩), .pointer (some ⟨m, 0, none⟩)]) ∧ EF F w26 g2 s2 o2 t2 (M9e seed cap bud) occ0 noL ∧
   SF F' w26 s' o' t' (M9e seed cap bud) occ0 ∧ Row w26 m [.pointer (some ⟨o', 0, none⟩), .pointer (some ⟨s', 0, none⟩), .slice (some ⟨b, 0, none⟩) 16 16] tMod ∧ Row w26 b (zeroRows zl 16) tMl ∧
   (∀ i, F i → ¬ F' i) ∧ (∀ i, F i → w.heap.size ≤ i) ∧ (∀ i, F' i → w.heap.size ≤ i) ∧ w.heap.size ≤ m ∧ w.heap.size ≤ b ∧ Ext w w26 := by
  intro w25 e25 w26 e26
  have x25 : Ext w23 w25 := (Ext.dr w23).of_alloc e25
  have x26 : Ext w25 w26 := (Ext.rfl' _).of_alloc e26
  have z25 := x25.size
  have rb : Row w25 w23.drew.heap.size (zeroRows zl 16) tMl := by rw [e25]; exact Row.new w23.drew (zeroRows zl 16) _
  have rm : Row w26 w25.heap.size [.pointer (some ⟨o', 0, none⟩), .pointer (some ⟨s', 0, none⟩), .slice (some ⟨w23.drew.heap.size, 0, none⟩) 16 16] tMod := by rw [e26]; exact Row.new w25 [_, _, _] _
  exact ⟨g, s, o, t, F3, _, _, _, _, _, F2, rfl, hE3.ext (x25.tr x26), hS23.ext (x25.tr x26), rm, rb.ext x26, hdj3, fF3, fM2, by omega, z23, xw23.tr (x25.tr x26)⟩
 exact ⟨⟨by decide, fun w25 e25 => ⟨⟨fun w26 e26 => last w25 e25 w26 e26, fun w26 e26 => last w25 e25 w26 e26⟩, fun w26 e26 => last w25 e25 w26 e26⟩⟩, ⟨by decide, fun w25 e25 w26 e26 => last w25 e25 w26 e26⟩⟩
theorem lives21_spec (w : World) : Calls Tryz.prog n_law21_lives #[] w fun e w' => e = .returned (.bool true) ∧ Ext w w' := by
 apply law21_lives.vc
 refine (eNew_spec 0 1 0 0 w).mono ?_
 rintro e w0 ⟨g, s, o, t, F, rfl, hE, x0, fF⟩
 refine ⟨_, rfl, nope rfl ((Spawn_spec hE (0, 0, 0) 100 100 (by unfold inI; omega)).mono ?_)⟩
 have hsp : spawnE (M0e 0 1 0 0) noL (newB (0, 0, 0) 100 100) = (-1, 11, noL) := by
  unfold spawnE
  rw [if_neg (by decide), if_neg (by decide), if_pos (by decide)]
 rw [hsp]
 rintro e w2 ⟨rfl, F2, -, t2⟩
 exact ⟨_, _, rfl, yes rfl ⟨rfl, (t2.fresh x0 fF).1⟩⟩
end Go.Proofs.YtkkkfkopcfdmaaaGreatDoor
namespace Go.Proofs.YtkkkfkopcfdmaaaGreatDoor
open Go Go.Vc Go.RowKit Go.Proofs Go.Chk Go.Runs Go.Code Go.Que Go.Flw Go.Eng
set_option maxRecDepth 100000
theorem l9_pos (seed : Int) : (l9 seed 9).map (·.1) = nineK := by
 unfold l9
 rw [List.map_map]
 rfl
theorem l9_nod (seed : Int) : nodL (l9 seed 9) := by
 unfold nodL
 rw [l9_pos]
 decide
theorem l9_at (seed : Int) {c : Ce} (hy : inY c) (hp : pos c ∈ nineK) : atE (l9 seed 9) c = ofG c.2.1 (ground seed c.1 c.2.2) := by
 have hn := l9_nod seed
 have he : (pos c, made seed (pos c), false, (0 : Int)) ∈ l9 seed 9 := List.mem_map.2 ⟨pos c, hp, rfl⟩
 rw [at_here hn he rfl, if_neg (by unfold inY at hy; omega)]
 have hk : inK (pos c) c = true := (inK_iff _ _).2 ⟨hy, rfl⟩
 have hi := idx_in hy
 unfold kAt
 simp only
 rw [hk, if_pos rfl]
 have hg := made_get seed (pos c) (k := (idx c).toNat) (by omega)
 rw [Int.toNat_of_nonneg hi.1, cellAt_idx hy, atC_get (c := made seed (pos c)) (i := idx c) hi.1 (by rw [made_len]; omega)] at hg
 exact Option.some.inj hg
theorem l9_air (seed : Int) {c : Ce} (hy : 14 ≤ c.2.1 ∧ c.2.1 < 32) (hp : pos c ∈ nineK) : atE (l9 seed 9) c = 0 := by
 rw [l9_at seed (by unfold inY; omega) hp]
 have := ground_top seed c.1 c.2.2
 have := ground_in seed c.1 c.2.2
 unfold ofG
 rw [if_neg (by omega), if_neg (by omega), if_neg (by omega), if_neg (by omega), if_neg (by omega)]
theorem ready9 (seed : Int) {c : Ce} (hp : pos c = (0, 0)) : readyE (l9 seed 9) c = true := by
 unfold readyE
 rw [hp, l9_pos]
 decide
def high (f : Ce) : Prop := (20000 ≤ f.1 ∧ f.1 ≤ 1028576) ∧ (917504 ≤ f.2.1 ∧ f.2.1 ≤ 1997152) ∧ 20000 ≤ f.2.2 ∧ f.2.2 ≤ 1028576
theorem high_box {f : Ce} (h : high f) : (newB f 40000 100000).box = ((f.1 - 20000, f.2.1, f.2.2 - 20000), (f.1 + 20000, f.2.1 + 100000, f.2.2 + 20000)) := by
 unfold high at h
 have e1 : max (40000 : Int) 0 / 2 = 20000 := by decide
 have e2 : max (100000 : Int) 0 = 100000 := by decide
 show standK f 40000 100000 = _
 unfold standK
 rw [e1, e2]
 refine Prod.ext (Prod.ext ?_ (Prod.ext ?_ ?_)) (Prod.ext ?_ (Prod.ext ?_ ?_))
 ·show subF f.1 20000 = _; unfold subF cutF; simp only; omega
 ·show subF f.2.1 0 = _; unfold subF cutF; simp only; omega
 ·show subF f.2.2 20000 = _; unfold subF cutF; simp only; omega
 ·show addF f.1 20000 = _; unfold addF cutF; simp only; omega
 ·show addF f.2.1 100000 = _; unfold addF cutF; simp only; omega
 ·show addF f.2.2 20000 = _; unfold addF cutF; simp only; omega
theorem high_cells {f : Ce} (h : high f) : ∀ c ∈ cellsE (newB f 40000 100000).box, pos c = (0, 0) ∧ 14 ≤ c.2.1 ∧ c.2.1 < 32 := by
 intro c hc
 rw [high_box h] at hc
 unfold high at h
 unfold cellsE at hc
 split at hc
 ·have hm := boxE_mem hc
  have t1 : ∀ a b : Int, a < b → (if a = b then (1 : Int) else 0) = 0 := fun a b q => if_neg (by omega)
  have e : spanT ((f.1 - 20000, f.2.1, f.2.2 - 20000), (f.1 + 20000, f.2.1 + 100000, f.2.2 + 20000)) = topK ((f.1 - 20000, f.2.1, f.2.2 - 20000), (f.1 + 20000, f.2.1 + 100000, f.2.2 + 20000)) := by
   unfold spanT
   simp only
   rw [if_neg (by omega), if_neg (by omega), if_neg (by omega)]
  rw [e] at hm
  have b1 : (cellF (f.1 - 20000, f.2.1, f.2.2 - 20000)).1 = (f.1 - 20000) / 65536 := by show floorF _ = _; unfold floorF cutF; simp only; omega
  have b2 : (cellF (f.1 - 20000, f.2.1, f.2.2 - 20000)).2.1 = f.2.1 / 65536 := by show floorF _ = _; unfold floorF cutF; simp only; omega
  have b3 : (cellF (f.1 - 20000, f.2.1, f.2.2 - 20000)).2.2 = (f.2.2 - 20000) / 65536 := by show floorF _ = _; unfold floorF cutF; simp only; omega
  have c1 : (topK ((f.1 - 20000, f.2.1, f.2.2 - 20000), (f.1 + 20000, f.2.1 + 100000, f.2.2 + 20000))).1 = (f.1 + 19999) / 65536 := by show floorF (addF (f.1 + 20000) (-1)) = _; unfold floorF addF cutF; omega
  have c2 : (topK ((f.1 - 20000, f.2.1, f.2.2 - 20000), (f.1 + 20000, f.2.1 + 100000, f.2.2 + 20000))).2.1 = (f.2.1 + 99999) / 65536 := by show floorF (addF (f.2.1 + 100000) (-1)) = _; unfold floorF addF cutF; omega
  have c3 : (topK ((f.1 - 20000, f.2.1, f.2.2 - 20000), (f.1 + 20000, f.2.1 + 100000, f.2.2 + 20000))).2.2 = (f.2.2 + 19999) / 65536 := by show floorF (addF (f.2.2 + 20000) (-1)) = _; unfold floorF addF cutF; omega
  simp only at hm
  rw [b1, b2, b3, c1, c2, c3] at hm
  refine ⟨?_, by omega, by omega⟩
  unfold Go.Chk.pos
  exact Prod.ext (by show c.1 / 16 = 0; omega) (by show c.2.2 / 16 = 0; omega)
 ·cases hc
theorem spawn_high (seed cap bud : Int) {L : List (Option Lfe)} {f : Ce} (h : high f) {k : Nat} (hk : freeK L = k) :
  ∃ x : Lfe, spawnE (M9e seed cap bud) L (newB f 40000 100000) = ((k : Int), 0, L.set k (some x)) := by
 have hc := high_cells h
 have hmay : (newB f 40000 100000).may = true := by
  unfold high at h
  unfold Bdy.may within
  simp only [Bool.and_eq_true, decide_eq_true_eq]
  omega
 have haw : awakeM (M9e seed cap bud) (newB f 40000 100000) = true := by
  refine ready9 seed ?_
  have b1 : (cellF f).1 = f.1 / 65536 := by unfold high at h; show floorF _ = _; unfold floorF cutF; omega
  have b3 : (cellF f).2.2 = f.2.2 / 65536 := by unfold high at h; show floorF _ = _; unfold floorF cutF; omega
  unfold high at h
  unfold Go.Chk.pos
  exact Prod.ext (by show (cellF f).1 / 16 = 0; rw [b1]; omega) (by show (cellF f).2.2 / 16 = 0; rw [b3]; omega)
 have hbl : anyK (atE (M9e seed cap bud).T.2) (newB f 40000 100000).box bSolid = false := by
  unfold anyK
  rw [List.any_eq_false]
  intro c hm
  obtain ⟨h1, h2⟩ := hc c hm
  rw [show atE (M9e seed cap bud).T.2 c = 0 from l9_air seed h2 (by rw [h1]; decide)]
  decide
 unfold spawnE
 rw [if_neg (by rw [hmay]; decide), if_neg (by omega), if_neg (by rw [haw]; decide), if_neg (by rw [hbl]; decide), hk]
 exact ⟨_, rfl⟩
def Ocn (L : List (Option Lfe)) (k : Nat) : Prop := L.length = 16 ∧ ∀ j : Nat, j < 16 → (lifeK L j).isSome = decide (j < k)
section
variable {L : List (Option Lfe)} {k : Nat}
theorem lifeK_at (h : L.length = 16) {j : Nat} (hj : j < 16) : ∃ y, L[j]? = some y ∧ lifeK L j = y := by
 obtain ⟨y, hy⟩ := get_lt (l := L) (i := j) (by omega)
 refine ⟨y, hy, ?_⟩
 unfold lifeK
 rw [if_pos (by omega), Int.toNat_natCast, hy]
 rfl
theorem Ocn.free (h : Ocn L k) (hk : k < 16) : freeK L = k := by
 obtain ⟨y, hy, e⟩ := lifeK_at h.1 hk
 have h1 := h.2 k hk
 rw [e, decide_eq_false (by omega)] at h1
 cases y with
 | some y => cases h1
 | none =>
   refine firstI_at hy rfl fun j hj z hz => ?_
   obtain ⟨y, hy, e⟩ := lifeK_at h.1 (j := j) (by omega)
   have h1 := h.2 j (by omega)
   rw [hz] at hy
   rw [e, ← Option.some.inj hy, decide_eq_true hj] at h1
   cases z with
   | none => cases h1
   | some z => rfl
theorem Ocn.full (h : Ocn L k) (hk : 16 ≤ k) : freeK L = -1 := by
 refine firstI_none fun z hz => ?_
 obtain ⟨j, hj⟩ := List.mem_iff_getElem?.1 hz
 have hj16 := (List.getElem?_eq_some_iff.1 hj).1
 rw [h.1] at hj16
 obtain ⟨y, hy, e⟩ := lifeK_at h.1 hj16
 have h1 := h.2 j hj16
 rw [hj] at hy
 rw [e, ← Option.some.inj hy, decide_eq_true (by omega)] at h1
 cases z with
 | none => cases h1
 | some z => rfl
theorem lifeK_set {i j : Nat} (h : L.length = 16) (hi : i < 16) (y : Option Lfe) (hj : j < 16) : lifeK (L.set i y) j = if j = i then y else lifeK L j := by
 have e : ∀ N : List (Option Lfe), lifeK N j = (N[j]?).join := fun N => by unfold lifeK; rw [if_pos (by omega), Int.toNat_natCast]
 rw [e, e]
 by_cases q : j = i
 ·subst q
  rw [if_pos rfl, List.getElem?_set_self (by omega)]
  rfl
 ·rw [if_neg q, List.getElem?_set_ne (Ne.symm q)]
theorem Ocn.put (h : Ocn L k) (hk : k < 16) (x : Lfe) : Ocn (L.set k (some x)) (k + 1) := by
 refine ⟨by rw [List.length_set]; exact h.1, fun j hj => ?_⟩
 rw [lifeK_set h.1 hk _ hj]
 split
 ·rw [decide_eq_true (by omega)]; rfl
 ·rw [h.2 j hj, decide_eq_decide]
  omega
theorem Ocn.more (h : Ocn L k) {m : Nat} (hk : 16 ≤ k) (hm : 16 ≤ m) : Ocn L m := ⟨h.1, fun j hj => by rw [h.2 j hj, decide_eq_true (by omega), decide_eq_true (by omega)]⟩
theorem Ocn.live (h : Ocn L k) : (liveK L).length = min k 16 := by
 unfold liveK
 rw [List.length_map]
 have e : (List.range 16).filter (fun i => (lifeK L (i : Nat)).isSome) = (List.range 16).filter fun i => decide (i < min k 16) := List.filter_congr fun j hj => by
  have := List.mem_range.1 hj
  rw [h.2 j this, decide_eq_decide]
  omega
 rw [e]
 have key : ∀ m ≤ 16, ((List.range 16).filter fun i => decide (i < m)).length = m := by decide
 exact key _ (by omega)
theorem Ocn.swap (h : Ocn L k) {i : Nat} (hi : i < min k 16) (x : Lfe) : (killE L i) = (0, L.set i none) ∧ freeK (L.set i none) = i ∧ Ocn ((L.set i none).set i (some x)) k := by
 have hi16 : i < 16 := by omega
 have hl : (lifeK L i).isNone = false := by
  have := h.2 i hi16
  rw [decide_eq_true (by omega)] at this
  cases hL : lifeK L i with
  | none => rw [hL] at this; cases this
  | some y => rfl
 have hlen : (L.set i none).length = 16 := by rw [List.length_set]; exact h.1
 refine ⟨?_, firstI_at (List.getElem?_set_self (by rw [h.1]; exact hi16)) rfl fun j hj z hz => ?_, by rw [List.length_set]; exact hlen, fun j hj => ?_⟩
 ·unfold killE
  rw [hl]
  rfl
 ·obtain ⟨y, hy, e⟩ := lifeK_at hlen (j := j) (by omega)
  rw [hz] at hy
  have h1 := h.2 j (by omega)
  rw [lifeK_set h.1 hi16 _ (by omega), if_neg (by omega)] at e
  rw [e, ← Option.some.inj hy, decide_eq_true (by omega)] at h1
  cases z with
  | none => cases h1
  | some z => rfl
 ·rw [lifeK_set hlen hi16 _ hj, lifeK_set h.1 hi16 _ hj]
  split
  ·rw [decide_eq_true (by omega)]; rfl
  ·exact h.2 j hj
end
end Go.Proofs.YtkkkfkopcfdmaaaGreatDoor
