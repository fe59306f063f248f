import Derived.Test.YtkkkfkopcfdmaaaGreatDoorYA
import Derived.Test.YtkkkfkopcfdmaaaGreatDoorWA
import Derived.Test.YtkkkfkopcfdmaaaGreatDoorQA
set_option linter.all false
namespace Go.Proofs.YtkkkfkopcfdmaaaGreatDoor
open Go Go.Vc Go.RowKit Go.Proofs Go.Chk Go.Runs Go.Code Go.Que Go.Flw
abbrev tSim : TypeId := 130
structure Sm where
 seed : Int
 cap : Int
 T : Tb
 ch : List Go.Flw.Cg
 q : QS
 budget : Int
 now : Int
 drops : List Ce
abbrev smC (g o : Nat) (M : Sm) (occ : Value) (sd : Sl) : List Value := [.pointer (some ⟨g, 0, none⟩), .pointer (some ⟨o, 0, none⟩), .int .i64 M.budget, .int .i64 M.now, occ, .slice sd.a sd.n sd.c]
def SF (F : Nat → Prop) (w : World) (s o t : Nat) (M : Sm) (occ : Value) : Prop :=
 ∃ g m qs Fw sd, Row w s (smC g o M occ sd) tSim ∧ Q.QIs w g m qs M.q ∧ QOk M.q ∧ WF Fw w o t M.seed M.cap M.T M.ch ∧ OwnK 0 tCe 3 w sd (M.drops.map clv) ∧ (∀ i, Q.Foot g m qs i → ¬ Fw i) ∧ F = fun i => i = s ∨ Q.Foot g m qs i ∨ Fw i ∨ sd.blk = some i
section
variable {F F' : Nat → Prop} {w w' : World} {s o t : Nat} {M M' : Sm} {occ : Value}
theorem SF.lt (h : SF F w s o t M occ) {i : Nat} (hi : F i) : i < w.heap.size := by
 obtain ⟨g, m, qs, Fw, sd, h1, h2, -, h3, h4, -, rfl⟩ := h
 rcases hi with rfl | hi | hi | hi
 ·exact h1.lt
 ·exact h2.lt i hi
 ·exact h3.lt hi
 ·exact (h4.own.lt hi).2
theorem SF.same (h : SF F w s o t M occ) (hk : ∀ i, F i → w'.heap[i]? = w.heap[i]?) : SF F w' s o t M occ := by
 obtain ⟨g, m, qs, Fw, sd, h1, h2, hq, h3, h4, h5, rfl⟩ := h
 obtain ⟨kvs, m1, m2⟩ := h2.map
 exact ⟨g, m, qs, Fw, sd, h1.same (hk _ (.inl rfl)), ⟨h2.row.same (hk _ (.inr (.inl (.inl rfl)))), OwnK.keep h2.own fun b hb => hk b (.inr (.inl (.inr (.inr hb)))), kvs, m1.same (hk _ (.inr (.inl (.inr (.inl rfl))))), m2⟩, hq, h3.same fun i hi => hk i (.inr (.inr (.inl hi))), OwnK.keep h4 fun b hb => hk b (.inr (.inr (.inr hb))), h5, rfl⟩
theorem SF.ext (h : SF F w s o t M occ) (x : Ext w w') : SF F w' s o t M occ := h.same fun _ hi => x.heap (h.lt hi)
theorem SF.no_row2 (h : SF F w s o t M occ) {j : Nat} {cs : List Value} {τ : TypeId} (hr : Row w j cs τ) (h1 : offT τ) (h2 : τ ≠ tWorld) (h3 : τ ≠ tChg) (h4 : τ ≠ tSim) (h5 : τ ≠ Q.tQueue) (h6 : τ ≠ Q.tItem) (h7 : τ ≠ tCe) : ¬ F j := by
 obtain ⟨g, m, qs, Fw, sd, r1, r2, -, r3, r4, -, rfl⟩ := h
 rintro (hi | hi | hi | hi)
 ·exact hr.ne r1 h4 hi
 ·exact r2.no_row hr h5 h6 hi
 ·exact r3.no_row hr h1 h2 h3 hi
 ·obtain ⟨cs', hr'⟩ := own_row r4 (by decide) hi
  exact hr.ne hr' h7 rfl
abbrev SmRes (F : Nat → Prop) (w : World) (s o t : Nat) (M : Sm) (occ : Value) (w' : World) : Prop := ∃ F', SF F' w' s o t M occ ∧ Turned F F' w w'
theorem SF.world (h : SF F w s o t M occ) : ∃ Fw, WF Fw w o t M.seed M.cap M.T M.ch ∧ (∀ i, Fw i → F i) ∧ ∀ {w' : World} {T' : Tb} {ch' : List Go.Flw.Cg}, WRes Fw w o t M.seed M.cap T' ch' w' → SmRes F w s o t { M with T := T', ch := ch' } occ w' := by
 obtain ⟨g, m, qs, Fw, sd, h1, h2, hq, h3, h4, h5, rfl⟩ := h
 refine ⟨Fw, h3, fun i hi => .inr (.inr (.inl hi)), ?_⟩
 rintro w' T' ch' ⟨F', h', ht⟩
 have n1 := h3.no_row h1 (by decide) (by decide) (by decide)
 have n2 : ∀ i, Q.Foot g m qs i → ¬ Fw i := h5
 have n4 : ∀ b, sd.blk = some b → ¬ Fw b := fun b hb => by
  obtain ⟨cs', hr'⟩ := own_row h4 (by decide) hb
  exact h3.no_row hr' (by decide) (by decide) (by decide)
 refine ⟨_, ⟨g, m, qs, F', sd, ht.mod.row h1 n1, h2.keep ht.mod n2, hq, h', ht.mod.ownK h4 n4, ?_, rfl⟩, ht.mod.mono fun i _ hi => .inr (.inr (.inl hi)), fun i hi => ?_⟩
 ·exact fun i hi hf => ht.apart (G := Q.Foot g m qs) (fun i hi hg => h5 i hg hi) (fun i hi => h2.lt i hi) i hf hi
 ·rcases hi with hi | hi | hi | hi
  ·exact .inl (.inl hi)
  ·exact .inl (.inr (.inl hi))
  ·exact (ht.sub i hi).imp (fun h => .inr (.inr (.inl h))) id
  ·exact .inl (.inr (.inr (.inr hi)))
theorem SF.row (h : SF F w s o t M occ) : ∃ g sd, Row w s (smC g o M occ sd) tSim ∧ OwnK 0 tCe 3 w sd (M.drops.map clv) ∧ F s ∧ (∀ b, sd.blk = some b → F b) ∧ ∀ {w' : World} {M' : Sm} {occ' : Value} {sd' : Sl}, M'.seed = M.seed → M'.cap = M.cap → M'.T = M.T → M'.ch = M.ch → M'.q = M.q → Mod (fun i => i = s ∨ sd.blk = some i) w w' → Row w' s (smC g o M' occ' sd') tSim → OwnK 0 tCe 3 w' sd' (M'.drops.map clv) → (∀ b, sd'.blk = some b → sd.blk = some b ∨ w.heap.size ≤ b) → SmRes F w s o t M' occ' w' := by
 obtain ⟨g, m, qs, Fw, sd, h1, h2, hq, h3, h4, h5, rfl⟩ := h
 refine ⟨g, sd, h1, h4, .inl rfl, fun b hb => .inr (.inr (.inr hb)), ?_⟩
 rintro w' M' occ' sd' e1 e2 e3 e4 e5 hm hr hd hsub
 have q1 := h2.no_row h1 (by decide) (by decide)
 have q2 := h2.no_own h4 (by decide) (by decide) (by decide)
 have r1 := h3.no_row h1 (by decide) (by decide) (by decide)
 have r2 : ∀ b, sd.blk = some b → ¬ Fw b := fun b hb => by
  obtain ⟨cs', hr'⟩ := own_row h4 (by decide) hb
  exact h3.no_row hr' (by decide) (by decide) (by decide)
 refine ⟨_, ⟨g, m, qs, Fw, sd', hr, by rw [e5]; exact h2.keep hm fun i hi hf => hf.elim (fun e => q1 (e ▸ hi)) (fun e => q2 _ e hi), by rw [e5]; exact hq, by rw [e1, e2, e3, e4]; exact h3.keep hm fun i hi hf => hf.elim (fun e => r1 (e ▸ hi)) (fun e => r2 _ e hi), hd, h5, rfl⟩, hm.mono fun i _ hi => hi.elim .inl (fun e => .inr (.inr (.inr e))), fun i hi => ?_⟩
 rcases hi with hi | hi | hi | hi
 ·exact .inl (.inl hi)
 ·exact .inl (.inr (.inl hi))
 ·exact .inl (.inr (.inr (.inl hi)))
 ·exact (hsub i hi).imp (fun h => .inr (.inr (.inr h))) id
end
end Go.Proofs.YtkkkfkopcfdmaaaGreatDoor
namespace Go.Proofs.YtkkkfkopcfdmaaaGreatDoor
open Go Go.Vc Go.RowKit Go.Proofs Go.Chk Go.Runs Go.Code
section
variable {P P' : Nat → Prop} {w w' v v' : World} {s s1 s2 s3 s4 : Sl} {T : Tb} {ch : List Cg} {seed cap : Int}
end
end Go.Proofs.YtkkkfkopcfdmaaaGreatDoor
namespace Go.Proofs.YtkkkfkopcfdmaaaGreatDoor
open Go Go.Vc Go.RowKit Go.Proofs Go.Chk Go.Runs Go.Code Go.Que Go.Flw
theorem ground_top (s x z : Int) : ground s x z ≤ 14 := by
 unfold ground
 have hu : 0 ≤ x % 8 ∧ x % 8 ≤ 8 := by omega
 have hv : 0 ≤ z % 8 ∧ z % 8 ≤ 8 := by omega
 generalize x % 8 = u at *
 generalize z % 8 = v at *
 have key : ∀ {c w : Int}, (0 ≤ c ∧ c ≤ 8) → 0 ≤ w → c * w ≤ 8 * w := fun h1 h2 => Int.mul_le_mul_of_nonneg_right h1.2 h2
 have w1 : 0 ≤ (8 - u) * (8 - v) := Int.mul_nonneg (by omega) (by omega)
 have w2 : 0 ≤ u * (8 - v) := Int.mul_nonneg (by omega) (by omega)
 have w3 : 0 ≤ (8 - u) * v := Int.mul_nonneg (by omega) (by omega)
 have w4 : 0 ≤ u * v := Int.mul_nonneg (by omega) (by omega)
 have a := key (corner_in s (x / 8) (z / 8)) w1
 have b := key (corner_in s (x / 8 + 1) (z / 8)) w2
 have c := key (corner_in s (x / 8) (z / 8 + 1)) w3
 have d := key (corner_in s (x / 8 + 1) (z / 8 + 1)) w4
 have e : (8 - u) * (8 - v) + u * (8 - v) + (8 - u) * v + u * v = 64 := by
  simp only [Int.sub_mul, Int.mul_sub]
  omega
 omega
end Go.Proofs.YtkkkfkopcfdmaaaGreatDoor
