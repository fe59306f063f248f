import Derived.Test.YtdjjlmoiifpceaaDoorF
set_option linter.all false
namespace Go.Proofs.YtdjjlmoiifpceaaDoor
open Go Go.Vc Go.RowKit Go.Proofs

theorem bcase (P : Int → Prop) (hin : ∀ k : Nat, k < 16 → P k) (hout : ∀ b, b < 0 ∨ 16 ≤ b → P b) (b : Int) : P b := by
  by_cases h : b < 0 ∨ 16 ≤ b
  · exact hout b h
  · have := hin b.toNat (by omega)
    rwa [show ((b.toNat : Nat) : Int) = b from by omega] at this
theorem pRes_empty : pRes ⟨#[]⟩ = (0, false) := by
  apply pRes_none
  intro j hj
  unfold pHit
  rw [bMay_str j hj]; simp
theorem pName_all : ∀ k < 16, bMay (k : Nat) = true → pRes (bName k) = ((k : Int), true) := by decide +kernel
theorem pName (b : Int) : pRes (bName b) = if bMay b then (b, true) else (0, false) := by
  cases h : bMay b
  · have : bName b = ⟨#[]⟩ := by
      have := bMay_iff b
      simp_all
    rw [this, pRes_empty]; rfl
  · have := bMay_iff b
    revert h
    refine bcase (fun b => bMay b = true → pRes (bName b) = if true = true then (b, true) else (0, false)) ?_ ?_ b
    · intro k hk hm
      rw [pName_all k hk hm]; rfl
    · intro b hb hm
      have := (bMay_iff b).1 hm
      exact absurd (bName_out b hb) this
theorem pSpace_all : ∀ k < 16, ∀ j < 16, strEq (bName (j : Nat)) (bName (k : Nat) ++ ⟨#[32]⟩) = false := by decide +kernel
theorem pSpace (b : Int) : pRes (bName b ++ ⟨#[32]⟩) = (0, false) := by
  apply pRes_none
  intro j hj
  have : strEq (bName j) (bName b ++ ⟨#[32]⟩) = false := by
    refine bcase (fun b => strEq (bName j) (bName b ++ ⟨#[32]⟩) = false) ?_ ?_ b
    · intro k hk; exact pSpace_all k hk j hj
    · intro b hb
      rw [bName_out b hb, ← bName_out 16 (by omega)]
      have := fun j hj => (show strEq (bName (j : Nat)) (bName 16 ++ ⟨#[32]⟩) = false from (by decide +kernel : ∀ j < 16, strEq (bName (j : Nat)) (bName 16 ++ ⟨#[32]⟩) = false) j hj)
      exact this j hj
  unfold pHit
  rw [this]; simp
theorem nmDis_all : ∀ a < 16, ∀ b < 16, a ≠ b → strEq (bName (a : Nat)) (bName (b : Nat)) = (!bMay (a : Nat) && !bMay (b : Nat)) := by decide +kernel
theorem bName_size (b : Int) : (bName b).size ≤ 100 := by
  refine bcase (fun b => (bName b).size ≤ 100) ?_ ?_ b
  · have : ∀ k < 16, (bName (k : Nat)).size ≤ 100 := by decide +kernel
    exact this
  · intro b hb; rw [bName_out b hb]; decide
theorem nmDis (a b : Int) (h : a ≠ b) : strEq (bName a) (bName b) = (!bMay a && !bMay b) := by
  have hm : ∀ c, c < 0 ∨ 16 ≤ c → bMay c = false := by
    intro c hc
    have := bMay_iff c
    rw [bName_out c hc] at this
    simpa using this
  have he : ∀ k : Nat, k < 16 → strEq ⟨#[]⟩ (bName k) = !bMay k := by decide +kernel
  by_cases ha : a < 0 ∨ 16 ≤ a <;> by_cases hb : b < 0 ∨ 16 ≤ b
  · rw [bName_out a ha, bName_out b hb, hm a ha, hm b hb]; exact (strEq_iff _ _).2 rfl
  · rw [bName_out a ha, hm a ha]
    have := he b.toNat (by omega)
    rw [show ((b.toNat : Nat) : Int) = b from by omega] at this
    rw [this]; simp
  · rw [bName_out b hb, hm b hb]
    have := bMay_str a.toNat (by omega)
    rw [show ((a.toNat : Nat) : Int) = a from by omega] at this
    rw [this]; simp
  · have := nmDis_all a.toNat (by omega) b.toNat (by omega) (by omega)
    rw [show ((b.toNat : Nat) : Int) = b from by omega, show ((a.toNat : Nat) : Int) = a from by omega] at this
    exact this
/-- A law's answer. -/
abbrev Good (w : World) : Ending → World → Prop := fun e w' => e = .returned (.bool true) ∧ Ext w w'
theorem lives_good {w w0 : World} (x : Ext w w0) : Calls Tryd.prog 12 #[] w0 (fun e w17 => ∃ b18 : Bool, e = .returned (.bool b18) ∧ Good w (.returned (.bool b18)) w17) := by
  refine (lives_spec w0).mono ?_
  rintro e w' ⟨rfl, x'⟩
  exact ⟨_, rfl, rfl, x.tr x'⟩
theorem names_part (a : Int) (ha : inI a) (s : ByteArray) (w : World) :
    Calls Tryd.prog 7 #[.string s] w (fun e w0 => ∃ (x1 : Int) (b2 : Bool), e = .returned (.tuple #[.int .i64 x1, .bool b2]) ∧ 
 Calls Tryd.prog 8 #[.string s] w0 (fun e w3 => ∃ (x4 : Int) (b5 : Bool), e = .returned (.tuple #[.int .i64 x4, .bool b5]) ∧ 
 Calls Tryd.prog 9 #[.int .i64 a] w3 (fun e w6 => ∃ (t7 : ByteArray), e = .returned (.string t7) ∧ 
 Calls Tryd.prog 7 #[.string t7] w6 (fun e w8 => ∃ (x9 : Int) (b10 : Bool), e = .returned (.tuple #[.int .i64 x9, .bool b10]) ∧ 
 Calls Tryd.prog 9 #[.int .i64 a] w8 (fun e w11 => ∃ (t12 : ByteArray), e = .returned (.string t12) ∧ 
 Calls Tryd.prog 10 #[.int .i64 a] w11 (fun e w13 => ∃ (t14 : ByteArray), e = .returned (.string t14) ∧ 
 Br (strEq t12 t14)
 (Br ((x1 : Int) == x4)
 (Br (b2 == b5)
 (Calls Tryd.prog 11 #[.int .i64 a] w13 (fun e w15 => ∃ (b16 : Bool), e = .returned (.bool b16) ∧ 
 Br (b10 == b16)
 (Br (!b10)
 (Calls Tryd.prog 12 #[] w15 (fun e w17 => ∃ (b18 : Bool), e = .returned (.bool b18) ∧ 
 Good w (.returned (.bool b18)) w17))
 (Br ((x9 : Int) == a)
 (Calls Tryd.prog 12 #[] w15 (fun e w19 => ∃ (b20 : Bool), e = .returned (.bool b20) ∧ 
 Good w (.returned (.bool b20)) w19))
 (Good w (.returned (.bool false)) w15)))
 (Good w (.returned (.bool false)) w15)))
 (Good w (.returned (.bool false)) w13))
 (Good w (.returned (.bool false)) w13))
 (Good w (.returned (.bool false)) w13))))))) := by
  refine (block_Parse_spec s w).mono ?_
  rintro e w1 ⟨rfl, x1⟩
  refine ⟨_, _, rfl, (ref04_Parse_spec s w1).mono ?_⟩
  rintro e w2 ⟨rfl, x2⟩
  refine ⟨_, _, rfl, (block_Name_spec a w2).mono ?_⟩
  rintro e w3 ⟨rfl, x3⟩
  refine ⟨_, rfl, (block_Parse_spec _ w3).mono ?_⟩
  rintro e w4 ⟨rfl, x4⟩
  refine ⟨_, _, rfl, (block_Name_spec a w4).mono ?_⟩
  rintro e w5 ⟨rfl, x5⟩
  refine ⟨_, rfl, (ref04_Name_spec a w5 ha).mono ?_⟩
  rintro e w6 ⟨rfl, x6⟩
  have x := ((((x1.tr x2).tr x3).tr x4).tr x5).tr x6
  refine ⟨_, rfl, Br.mk (fun _ => Br.mk (fun _ => Br.mk (fun _ => ?_) (fun h => ?_)) (fun h => ?_)) (fun h => ?_)⟩
  · refine (ref04_May_spec a w6).mono ?_
    rintro e w7 ⟨rfl, rfl⟩
    refine ⟨_, rfl, Br.mk (fun _ => Br.mk (fun _ => lives_good x) (fun h => Br.mk (fun _ => lives_good x) (fun h' => ?_))) (fun h => ?_)⟩
    · rw [pName] at h h'
      cases hm : bMay a <;> simp [hm] at h h'
    · rw [pName] at h
      cases hm : bMay a <;> simp [hm] at h
  · simp at h
  · simp at h
  · rw [(strEq_iff _ _).2 rfl] at h; cases h
theorem BlockNames_good (a : Int) (ha : inI a) (s : ByteArray) (w : World) : Calls Tryd.prog 3 #[.int .i64 a, .string s] w (Good w) := by
  apply law04_BlockNames.vc
  refine Br.mk (fun h => ?_) (fun h => ?_)
  · simp at h
    exact ⟨by omega, by omega, names_part a ha _ w⟩
  · exact names_part a ha s w
end Go.Proofs.YtdjjlmoiifpceaaDoor
