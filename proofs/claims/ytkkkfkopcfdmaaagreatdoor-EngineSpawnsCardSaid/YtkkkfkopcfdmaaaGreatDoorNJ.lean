import Derived.Test.YtkkkfkopcfdmaaaGreatDoorNE
set_option linter.all false
namespace Go.Proofs.YtkkkfkopcfdmaaaGreatDoor
open Go Go.Vc Go.RowKit Go.Proofs Go.Chk Go.Runs Go.Code Go.Que Go.Flw Go.Eng
set_option maxRecDepth 100000
set_option maxHeartbeats 1000000 in
theorem EngineSpawns_law (n0 gone : Int) (w : World) (hn : inI n0) (hg : inI gone) : Calls Tryz.prog n_law21_EngineSpawns #[.int .i64 n0, .int .i64 gone] w fun e w' => e = .returned (.bool true) ∧ Ext w w' := by
 apply law21_EngineSpawns.vc
 refine (begin21_spec 1 1 9 (by decide) w).mono ?_
 rintro e w0 ⟨g, s, o, t, F0, m, b, s', o', t', F', rfl, hE0, -, -, -, -, fF, -, -, -, x0⟩
 refine ⟨_, _, rfl, nope rfl ((around_spec n0 21 w0 hn (by decide) (by unfold inI; omega)).mono ?_)⟩
 rintro e w3 ⟨rfl, hw⟩
 subst hw
 have had := around_bd n0 21 (by decide)
 obtain ⟨N, hN⟩ : ∃ N : Nat, around n0 21 = N := ⟨(around n0 21).toNat, by omega⟩
 rw [hN] at had ⊢
 have hN20 : N ≤ 20 := by omega
 have minE : (if 16 < (N : Int) then 16 else (N : Int)) = ((min N 16 : Nat) : Int) := by split <;> omega
 refine ⟨_, rfl, ?_⟩
 rw [minE]
 have h0 : Ocn noL 0 := ⟨rfl, by decide⟩
 refine ⟨fun n x wr => ∃ (k : Nat) (L : List (Option Lfe)) (F : Nat → Prop), x = k ∧ k + n = N ∧ EF F wr g s o t (M9e 1 9 1) occ0 L ∧ Ocn L k ∧ Turned F0 F w3 wr, ⟨N, 0, noL, F0, rfl, by omega, hE0, h0, Turned.refl _ _⟩, ?_⟩
 rintro n us x wr ⟨k, L, F, rfl, hk, hE, hO, hT⟩
 refine Br.mk (fun hb => ?_) (fun hb => (Live_spec hE).mono ?_)
 ·have hb : (k : Int) < N := by simpa using hb
  have hm : Int.tmod (k : Int) 10 = ((k % 10 : Nat) : Int) := by rw [Int.tmod_eq_emod_of_nonneg (by omega)]; omega
  have hd : Int.tdiv (k : Int) 10 = ((k / 10 : Nat) : Int) := by rw [Int.tdiv_eq_ediv_of_nonneg (by omega)]; omega
  rw [hm, hd, wrap_in (n := ((k / 10 : Nat) : Int)) (by unfold inI; omega), wrap_in (n := 65536 * ((k % 10 : Nat) : Int)) (by unfold inI; omega), wrap_in (n := 65536 * ((k / 10 : Nat) : Int)) (by unfold inI; omega), wrap_in (n := 32768 + 65536 * ((k % 10 : Nat) : Int)) (by unfold inI; omega), wrap_in (n := 32768 + 65536 * ((k / 10 : Nat) : Int)) (by unfold inI; omega)]
  intro w11 e11 w12 e12
  have x12 : Ext wr w12 := ((Ext.rfl' _).of_alloc e11).of_setRow e12 (Nat.le_refl _)
  have z12 : w12.heap.size = wr.heap.size + 1 := by rw [e12, e11]; simp
  clear e11 e12
  refine (Spawn_spec (hE.ext x12) (32768 + 65536 * ((k % 10 : Nat) : Int), 1310720, 32768 + 65536 * ((k / 10 : Nat) : Int)) 40000 100000 (by unfold inI; omega)).mono ?_
  have hh : high (32768 + 65536 * ((k % 10 : Nat) : Int), 1310720, 32768 + 65536 * ((k / 10 : Nat) : Int)) := by unfold high; simp only; omega
  have wk : IntKind.wrap .i64 ((k : Int) + 1) = ((k + 1 : Nat) : Int) := by rw [wrap_in (by unfold inI; omega)]; omega
  have kept : ∀ {w13 : World} {F2 : Nat → Prop}, Turned F F2 w12 w13 → w13.heap[wr.heap.size]? = w12.heap[wr.heap.size]? := fun t2 => t2.mod.same _ (by omega) fun hf => by have := hE.lt hf; omega
  by_cases h16 : k < 16
  ·obtain ⟨y, hy⟩ := spawn_high 1 9 1 (L := L) hh (hO.free h16)
   rw [hy]
   rintro e w13 ⟨rfl, F2, hE2, t2⟩
   refine ⟨_, _, rfl, kept t2, yes (by simp; omega) (nope (by simp) (nope rfl (nope (by simp; omega) ⟨n - 1, by omega, k + 1, _, F2, wk, by omega, hE2, hO.put h16 y, hT.trans ((Turned.of_ext x12).trans t2)⟩)))⟩
  ·have hsp : spawnE (M9e 1 9 1) L (newB (32768 + 65536 * ((k % 10 : Nat) : Int), 1310720, 32768 + 65536 * ((k / 10 : Nat) : Int)) 40000 100000) = (-1, 8, L) := by
    have hmay : (newB (32768 + 65536 * ((k % 10 : Nat) : Int), 1310720, 32768 + 65536 * ((k / 10 : Nat) : Int)) 40000 100000).may = true := by
     unfold Bdy.may within
     simp only [Bool.and_eq_true, decide_eq_true_eq]
     omega
    unfold spawnE
    rw [if_neg (by rw [hmay]; decide), if_pos (by rw [hO.full (by omega)]; decide)]
   rw [hsp]
   rintro e w13 ⟨rfl, F2, hE2, t2⟩
   refine ⟨_, _, rfl, kept t2, nope (by simp; omega) (yes (by simp; omega) (nope rfl (nope rfl ⟨n - 1, by omega, k + 1, L, F2, wk, by omega, hE2, hO.more (by omega) (by omega), hT.trans ((Turned.of_ext x12).trans t2)⟩)))⟩
 ·have hb : ¬ (k : Int) < N := by simpa using hb
  have hkN : k = N := by omega
  subst hkN
  rintro e w16 ⟨sl, rfl, hown, x16⟩
  have hln := (hown.rd (show 0 < 1 by decide)).n
  rw [List.length_map, hO.live] at hln
  have hE16 := hE.ext x16
  have T16 := hT.trans (Turned.of_ext x16)
  refine ⟨sl, rfl, nope (by rw [hln]; simp) (Br.mk (fun h0 => (Kill_spec hE16 0).mono ?_) (fun h0 => (around_spec gone ((min k 16 : Nat) : Int) w16 hg ?_ (by unfold inI; omega)).mono ?_))⟩
  ·have h0 : k = 0 := by simpa using h0
   subst h0
   have hkl : killE L 0 = (6, L) := by
    have h1 := hO.2 0 (by decide)
    unfold killE
    cases hL : lifeK L ((0 : Nat) : Int) with
    | none => rfl
    | some y => rw [hL] at h1; cases h1
   rw [hkl]
   rintro e w18 ⟨rfl, F2, hE2, t2⟩
   refine ⟨_, rfl, yes rfl ((lives21_spec w18).mono ?_)⟩
   rintro e w20 ⟨rfl, x20⟩
   exact ⟨_, rfl, rfl, ((T16.trans t2).fresh x0 fF).1.tr x20⟩
  ·have h0 : ¬ k = 0 := by simpa using h0
   omega
  have h0 : ¬ k = 0 := by simpa using h0
  rintro e w22 ⟨rfl, hw22⟩
  subst hw22
  have hab := around_bd gone ((min k 16 : Nat) : Int) (by omega)
  obtain ⟨i, hi⟩ : ∃ i : Nat, around gone ((min k 16 : Nat) : Int) = i := ⟨(around gone ((min k 16 : Nat) : Int)).toNat, by omega⟩
  rw [hi] at hab ⊢
  refine ⟨_, rfl, (Kill_spec hE16 i).mono ?_⟩
  have hh : high (32768, 1638400, 32768) := by unfold high; decide
  obtain ⟨hk1, hk2, -⟩ := hO.swap (i := i) (by omega) (⟨(0, 0, 0), (0, 0, 0), 0, 0, false⟩, (0, 0, false))
  rw [hk1]
  rintro e w24 ⟨rfl, F2, hE2, t2⟩
  obtain ⟨y, hy⟩ := spawn_high 1 9 1 (L := L.set i none) hh hk2
  refine ⟨_, rfl, nope rfl ((Spawn_spec hE2 (32768, 1638400, 32768) 40000 100000 (by unfold inI; omega)).mono ?_)⟩
  rw [hy]
  rintro e w26 ⟨rfl, F3, hE3, t3⟩
  refine ⟨_, _, rfl, yes (by simp) (yes rfl ((Live_spec hE3).mono ?_))⟩
  rintro e w29 ⟨sl2, rfl, hown2, x29⟩
  have hO2 := (hO.swap (i := i) (by omega) y).2.2
  have hln2 := (hown2.rd (show 0 < 1 by decide)).n
  rw [List.length_map, hO2.live] at hln2
  refine ⟨sl2, rfl, yes (by rw [hln2]; simp) ((lives21_spec w29).mono ?_)⟩
  rintro e w31 ⟨rfl, x31⟩
  exact ⟨_, rfl, rfl, (((T16.trans t2).trans t3).fresh x0 fF).1.tr (x29.tr x31)⟩
end Go.Proofs.YtkkkfkopcfdmaaaGreatDoor
