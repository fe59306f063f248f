import Derived.Test.YtalpkjfpmdpbiaaGreatDoorYI
import Derived.Test.YtalpkjfpmdpbiaaGreatDoorGX
set_option linter.all false
namespace Go.Proofs.YtalpkjfpmdpbiaaGreatDoor
open Go Go.Vc Go.RowKit Go.Proofs Go.Chk Go.Runs Go.Code Go.Que Go.Flw
set_option maxRecDepth 100000
abbrev Ms (seed budget : Int) (l : List En) (now : Int) : Sm := ⟨seed, 5, (dk0 0, l), [], ⟨4096, 0, []⟩, min (max budget 1) 64, now, []⟩
theorem three {r : List Int} (h : r.length = 3) : ∃ a b c, r = [a, b, c] := by
 match r, h with
 | [a, b, c], _ => exact ⟨a, b, c, rfl⟩
theorem okt5 {F : Nat → Prop} {w : World} {s o t : Nat} {seed budget : Int} {occ : Value} (h : SF F w s o t (M5 seed budget) occ) : Okt (dk0 0, l5 seed 5) := by
 obtain ⟨Fw, hW, -, -⟩ := h.world
 exact hW.okt (m := 0) (n := 0) ⟨Nat.zero_le _, (fun e he => by
  obtain ⟨x, hx, rfl⟩ := List.mem_map.1 he
  exact ⟨Int.le_refl _, Int.le_refl _⟩), l5_nod seed⟩ (by omega)
theorem bud_in (b : Int) : 1 ≤ min (max b 1) 64 ∧ min (max b 1) 64 ≤ 64 := by omega
theorem sokM (seed budget : Int) (l : List En) {now : Int} (h : 0 ≤ now ∧ now ≤ 1099511627776) : Sok (Ms seed budget l now) 0 := ⟨n00, Nat.le_refl _, h, Nat.le_refl _⟩
theorem due_none (seed budget : Int) (l : List En) (now : Int) : dueM (Ms seed budget l now) = [] := by
 unfold dueM qdue
 simp
theorem tick_none (O : Ce → Bool) (seed budget : Int) (l : List En) (now : Int) : tickM O (Ms seed budget l now) = Ms seed budget l (min (now + 1) 1099511627776) := by
 unfold tickM
 rw [due_none]
 show startM _ = _
 unfold startM qdue nowM
 simp
set_option maxHeartbeats 1000000 in
theorem SimStill_law (seed budget ticks : Int) (sl : Sl) (z : List (List Int)) (w : World) (ht : inI ticks) (hs : RdK w sl 3 (z.map fun r => r.map fun n => .int .i64 n)) (hz : ∀ r ∈ z, r.length = 3 ∧ ∀ n ∈ r, inI n) :
  Calls Tryz.prog n_law19_SimStill #[.int .i64 seed, .int .i64 budget, .int .i64 ticks, .slice sl.a sl.n sl.c] w fun e w' => e = .returned (.bool true) ∧ Ext w w' := by
 apply (law19_SimStill.vc (a3 := sl))
 have hsn := hs.n
 rw [List.length_map] at hsn
 refine (begin_spec seed budget ⟨none, 0, 0⟩ rfl w).mono ?_
 rintro e w0 ⟨s, o, t, F0, occ, s1, s2, s3, rfl, hS0, hO0, hR0, x0, fF⟩
 have z0 := x0.size
 refine ⟨_, _, _, _, _, _, s1, s2, s3, ⟨none, 0, 0⟩, _, _, ⟨none, 0, 0⟩, _, _, ⟨none, 0, 0⟩, ⟨none, 0, 0⟩, rfl, fun w18 e18 w19 e19 => nope rfl ?_⟩
 have x19 : Ext w0 w19 := ((Ext.rfl' _).of_alloc e18).of_setRow e19 (Nat.le_refl _)
 have z19 : w19.heap.size = w0.heap.size + 1 := by rw [e19, e18]; simp
 clear e18 e19
 have ho := okt5 hS0
 have hS19 := hS0.ext x19
 have hO19 := hO0.ext x19
 have hR19 := hR0.ext x19
 have x019 := x0.tr x19
 have nf : ∀ {F1 F2 : Nat → Prop} {a b : World}, Turned F0 F1 w19 a → Turned F1 F2 a b → b.heap[w0.heap.size]? = a.heap[w0.heap.size]? := fun ta tb => tb.mod.same _ (by have := ta.mod.size; omega) fun hf => by
  rcases ta.sub _ hf with q | q
  ·have := hS0.lt q; omega
  ·omega
 have hRt : ∀ {F : Nat → Prop} {a : World}, Turned F0 F w19 a → RT (fun _ => True) a (dk0 0, l5 seed 5) s1 s2 s3 := fun ta => hR19.same fun i hp hi => ⟨ta.mod.same i hi hp, trivial⟩
 refine ⟨fun wj => ∃ (F : Nat → Prop) (l : List En), SF F wj s o t (Ms seed budget l 0) occ ∧ Turned F0 F w19 wj, ⟨fun n x wr => ∃ (k : Nat) (F : Nat → Prop) (l : List En), x = k ∧ k + n = z.length ∧ SF F wr s o t (Ms seed budget l 0) occ ∧ Hs l (V0 seed) ∧ Turned F0 F w19 wr, ⟨z.length, rfl, 0, F0, l5 seed 5, rfl, by omega, hS19, l5_hs seed, Turned.refl _ _⟩, ?_⟩, ?_⟩
 ·rintro n us x wr ⟨k, F, l, rfl, hk, hS, hH, hT⟩
  refine Br.mk (fun hb => Br.mk (fun hb5 => ?_) (fun _ => ⟨rfl, F, l, hS, hT⟩)) (fun _ => ⟨rfl, F, l, hS, hT⟩)
  simp only [decide_eq_true_eq] at hb hb5
  obtain ⟨r, hr⟩ := get_lt (l := z) (i := k) (by omega)
  obtain ⟨c1, c2, c3, rfl⟩ := three (hz r (List.mem_of_getElem? hr)).1
  obtain ⟨xr, -⟩ := hT.fresh x019 fF
  have zr := hT.mod.size
  have hr' : (z.map fun r => r.map fun n => Value.int .i64 n)[k]? = some [.int .i64 c1, .int .i64 c2, .int .i64 c3] := by rw [List.getElem?_map, hr]; rfl
  refine ⟨hs.inB (i := (k : Int)) (by decide) (by omega) hb, _, _, _, (hs.ext xr).loadL hr', (Middle_spec (c1, c2, c3) wr).mono ?_⟩
  rintro e w30 ⟨rfl, x30⟩
  have z30 := x30.size
  have hm := midK_in (c1, c2, c3)
  generalize midK (c1, c2, c3) = m at *
  have wr4 : IntKind.wrap .i64 (m.2.1 + 4) = m.2.1 + 4 := wrap_in (by unfold inI; omega)
  refine ⟨_, _, _, rfl, x30.heap (by omega), fun w34 e34 w35 e35 w36 e36 w37 e37 => ?_⟩
  have x35 : Ext w30 w35 := ((Ext.rfl' _).of_alloc e34).of_setRow e35 (Nat.le_refl _)
  have z35 : w35.heap.size = w30.heap.size + 1 := by rw [e35, e34]; simp
  have x37 : Ext w35 w37 := ((Ext.rfl' _).of_alloc e36).of_setRow e37 (Nat.le_refl _)
  have z37 : w37.heap.size = w35.heap.size + 1 := by rw [e37, e36]; simp
  clear e34 e35 e36 e37
  rw [wr4]
  have hu : up0 (m.1, m.2.1 + 4, m.2.2) := by unfold up0; simp only; omega
  generalize hue : ((m.1, m.2.1 + 4, m.2.2) : Ce) = u at hu
  have hu1 : m.1 = u.1 := by rw [← hue]
  have hu2 : m.2.1 + 4 = u.2.1 := by rw [← hue]
  have hu3 : m.2.2 = u.2.2 := by rw [← hue]
  rw [hu1, hu2, hu3]
  have x37r := x30.tr (x35.tr x37)
  refine (rAt12_spec (seed := seed) (cap := 5) ((hRt hT).ext x37r) ho u hu.sml.wide.ok).mono ?_
  rintro e w38 ⟨rfl, x38⟩
  have z38 := x38.size
  have hair : atE (l5 seed 5) u = 0 := hu.air seed
  refine ⟨_, rfl, x38.heap (by omega), x38.heap (by omega), x38.heap (by omega), nope (by rw [hair]; rfl) ?_⟩
  have x38r := x37r.tr x38
  obtain ⟨l', f1, f2, f3⟩ := edit_none (M := Ms seed budget l 0) hH hu.pos hu.y (fun n hn => by rw [hu.near seed n hn]; exact delay_air) (hu.air seed)
  refine (sEdit_spec (hS.ext x38r) u hu.sml.wide 0 ((sokM seed budget l n0t).mono (by omega))).mono ?_
  rintro e w40 ⟨rfl, F2, hS2, t2⟩
  rw [f2] at hS2
  have f1 : (setE l u 0).2 = 0 := f1
  have nw : ∀ i, wr.heap.size ≤ i → i < w38.heap.size → w40.heap[i]? = w38.heap[i]? := fun i h1 h2 => t2.mod.same i h2 fun hf => by have := hS.lt hf; omega
  have wk : IntKind.wrap .i64 ((k : Int) + 1) = ((k + 1 : Nat) : Int) := by rw [wrap_in (by unfold inI; omega)]; omega
  refine ⟨_, rfl, nf (hT.trans (Turned.of_ext x38r)) t2, nw _ (by omega) (by omega), nw _ (by omega) (by omega), nope (by show ((setE l u 0).2 != 0) = false; rw [f1]; rfl) ⟨n - 1, by omega, rfl, k + 1, F2, l', wk, by omega, hS2, f3, (hT.trans (Turned.of_ext x38r)).trans t2⟩⟩
 rintro us w43 ⟨F, l, hS43, hT43⟩
 have had := around_bd ticks 21 (by decide)
 refine ⟨fun n x wr => ∃ (k : Nat) (F : Nat → Prop) (now : Int), x = k ∧ (k : Int) + n = around ticks 21 ∧ (0 ≤ now ∧ now ≤ 1099511627776) ∧ SF F wr s o t (Ms seed budget l now) occ ∧ Turned F0 F w19 wr, ⟨(around ticks 21).toNat, rfl, 0, F, 0, rfl, by omega, n0t, hS43, hT43⟩, ?_⟩
 rintro n us x wr ⟨k, F, now, rfl, hk, hnow, hS, hT⟩
 refine (around_spec ticks 21 wr ht (by decide) (by unfold inI; omega)).mono ?_
 rintro e w50 ⟨rfl, hw⟩
 subst hw
 have z50 := hT.mod.size
 have hO := hO19.turned hT
 refine ⟨_, rfl, rfl, Br.mk (fun hb => ?_) (fun hb => ?_)⟩
 ·simp only [decide_eq_true_eq] at hb
  refine (tick_spec hS hO (by rw [due_none]; intro k y hk; simp at hk) ((sokM seed budget l hnow).mono (by omega)) (bud_in budget)).mono ?_
  rw [due_none, tick_none]
  rintro e w52 ⟨rfl, F2, hS2, t2⟩
  have wk : IntKind.wrap .i64 ((k : Int) + 1) = ((k + 1 : Nat) : Int) := by rw [wrap_in (by unfold inI; omega)]; omega
  exact ⟨_, rfl, nf hT t2, nope rfl ⟨n - 1, by omega, rfl, k + 1, F2, _, wk, by omega, by omega, hS2, hT.trans t2⟩⟩
 ·refine (sWorld_spec hS).mono ?_
  rintro e w54 ⟨rfl, hw⟩
  subst hw
  refine ⟨_, rfl, rfl, nope rfl ((sWaiting_spec hS).mono ?_)⟩
  rintro e w56 ⟨s57, rfl, ho57, x56⟩
  have hn57 : s57.n = 0 := (ho57.rd (show 0 < 4 by decide)).n
  refine ⟨s57, rfl, x56.heap (by omega), yes (by rw [hn57]; rfl) ((sfTake_spec (hS.ext x56)).mono ?_)⟩
  rintro e w58 ⟨s59, rfl, ho59, F58, hS58, t58⟩
  have hn59 : s59.n = 0 := (ho59.rd (show 0 < 4 by decide)).n
  have T56 := hT.trans (Turned.of_ext x56)
  have T58 := T56.trans t58
  refine ⟨s59, rfl, nf T56 t58, yes (by rw [hn59]; rfl) ?_⟩
  refine (run_spec (O := fun _ => false) 0 (fun _ => Ms seed budget l now) 9 (by decide) hS58 (hO19.turned T58) (fun k hk => by omega) rfl).mono ?_
  rintro e w60 ⟨rfl, F60, hS60, t60⟩
  have T60 := T58.trans t60
  refine ⟨_, rfl, nf T58 t60, yes rfl ((lives19_spec w60).mono ?_)⟩
  rintro e w62 ⟨rfl, x62⟩
  obtain ⟨x60, -⟩ := T60.fresh x019 fF
  have := T60.mod.size
  exact ⟨true, rfl, x62.heap (by omega), rfl, x60.tr x62⟩
end Go.Proofs.YtalpkjfpmdpbiaaGreatDoor
