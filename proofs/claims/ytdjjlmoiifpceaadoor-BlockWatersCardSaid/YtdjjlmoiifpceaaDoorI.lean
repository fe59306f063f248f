import Derived.Test.YtdjjlmoiifpceaaDoorH
set_option linter.all false
namespace Go.Proofs.YtdjjlmoiifpceaaDoor
open Go Go.Vc Go.RowKit Go.Proofs

theorem BlockWords_good (a b : Int) (ha : inI a) (hb : inI b) (w : World) : Calls Tryd.prog 4 #[.int .i64 a, .int .i64 b] w (Good w) := by
  apply law04_BlockWords.vc
  refine (block_Name_spec a w).mono ?_
  rintro e w1 ⟨rfl, x1⟩
  refine ⟨_, rfl, (block_Name_spec b w1).mono ?_⟩
  rintro e w2 ⟨rfl, x2⟩
  refine ⟨_, rfl, (block_Parse_spec _ w2).mono ?_⟩
  rintro e w3 ⟨rfl, x3⟩
  refine ⟨_, _, rfl, ?_, (block_Parse_spec _ w3).mono ?_⟩
  · have := bName_size a
    have h1 : (ByteArray.mk #[32]).size = 1 := rfl
    have h2 : IntKind.i64.max = 9223372036854775807 := by decide
    rw [h1, h2]
    omega
  rintro e w4 ⟨rfl, x4⟩
  have x := ((x1.tr x2).tr x3).tr x4
  refine ⟨_, _, rfl, ?_⟩
  rw [pName, pSpace]
  have fin : ∀ w5, Ext w w5 → Br ((a : Int) == b)
      (Br ((strEq (bName a) (bName b)) == true)
       (Calls Tryd.prog 12 #[] w5 (fun e w12 => ∃ (b13 : Bool), e = .returned (.bool b13) ∧ 
       Good w (.returned (.bool b13)) w12))
       (Good w (.returned (.bool false)) w5))
       (Calls Tryd.prog 11 #[.int .i64 a] w5 (fun e w14 => ∃ (b15 : Bool), e = .returned (.bool b15) ∧ 
       Br (!b15)
       (Calls Tryd.prog 11 #[.int .i64 b] w14 (fun e w16 => ∃ (b17 : Bool), e = .returned (.bool b17) ∧ 
       Br ((strEq (bName a) (bName b)) == (!b17))
       (Calls Tryd.prog 12 #[] w16 (fun e w18 => ∃ (b19 : Bool), e = .returned (.bool b19) ∧ 
       Good w (.returned (.bool b19)) w18))
       (Good w (.returned (.bool false)) w16)))
       (Br ((strEq (bName a) (bName b)) == false)
       (Calls Tryd.prog 12 #[] w14 (fun e w20 => ∃ (b21 : Bool), e = .returned (.bool b21) ∧ 
       Good w (.returned (.bool b21)) w20))
       (Good w (.returned (.bool false)) w14)))) := by
    intro w5 x
    refine Br.mk (fun h => Br.mk (fun _ => lives_good x) (fun h' => ?_)) (fun h => ?_)
    · simp at h; subst h
      rw [(strEq_iff _ _).2 rfl] at h'; cases h'
    · have hd := nmDis a b (by simpa using h)
      refine (ref04_May_spec a w5).mono ?_
      rintro e w6 ⟨rfl, rfl⟩
      refine ⟨_, rfl, Br.mk (fun h1 => ?_) (fun h1 => ?_)⟩
      · refine (ref04_May_spec b w6).mono ?_
        rintro e w6 ⟨rfl, rfl⟩
        refine ⟨_, rfl, Br.mk (fun h2 => lives_good x) (fun h2 => ?_)⟩
        rw [hd] at h2; simp at h1; simp [h1] at h2
      · refine Br.mk (fun h2 => lives_good x) (fun h2 => ?_)
        rw [hd] at h2; simp at h1; simp [h1] at h2
  have mid : Calls Tryd.prog 13 #[.int .i64 a] w4 (fun e w5 => ∃ b11 : Bool, e = .returned (.bool b11) ∧ b11 = bMay a ∧ Ext w w5) := by
    refine (block_May_spec a w4).mono ?_
    rintro e w5 ⟨rfl, x5⟩
    exact ⟨_, rfl, rfl, x.tr x5⟩
  cases hm : bMay a
  · refine Br.mk (fun _ => mid.mono ?_) (fun h => by cases h)
    rintro e w5 ⟨_, rfl, rfl, x5⟩
    exact ⟨_, rfl, Br.mk (fun _ => Br.mk (fun _ => fin w5 x5) (fun h => by cases h)) (fun h => by rw [hm] at h; cases h)⟩
  · refine Br.mk (fun h => by cases h) (fun _ => Br.mk (fun _ => mid.mono ?_) (fun h => by simp at h))
    rintro e w5 ⟨_, rfl, rfl, x5⟩
    exact ⟨_, rfl, Br.mk (fun _ => Br.mk (fun _ => fin w5 x5) (fun h => by cases h)) (fun h => by rw [hm] at h; cases h)⟩

theorem lst16 : ∀ k < 14, (lst 16)[k]? = some (.int .i64 (bGood (k : Nat))) := by
  intro k hk
  have : k = 0 ∨ k = 1 ∨ k = 2 ∨ k = 3 ∨ k = 4 ∨ k = 5 ∨ k = 6 ∨ k = 7 ∨ k = 8 ∨ k = 9 ∨ k = 10 ∨ k = 11 ∨ k = 12 ∨ k = 13 := by omega
  rcases this with rfl | rfl | rfl | rfl | rfl | rfl | rfl | rfl | rfl | rfl | rfl | rfl | rfl | rfl <;> rfl
theorem lst16_len : (lst 16).length = 14 := rfl
theorem BlockWaters_good (a : Int) (ha : inI a) (w : World) : Calls Tryd.prog 5 #[.int .i64 a] w (Good w) := by
  apply law04_BlockWaters.vc
  refine (block_Water_spec a w ha).mono ?_
  rintro e w1 ⟨rfl, rfl⟩
  refine ⟨_, rfl, (block_All_spec w1).mono ?_⟩
  rintro e w2 ⟨s, rfl, ho, x2⟩
  have hl := ho.len
  rw [lst16_len] at hl
  refine ⟨s, rfl, Br.mk (fun h => ?_) (fun _ => ?_)⟩
  · simp at h; omega
  refine ⟨fun n x wr => ∃ k : Nat, x = k ∧ k + n = 14 ∧ Ext w1 wr ∧ Own w1.heap.size 3 1 wr s (lst 16), ⟨14, 0, rfl, rfl, x2, ho⟩, ?_⟩
  rintro n us x wr ⟨k, rfl, hk, xr, ho⟩
  have xd := Ext.dr wr
  have hod := ho.ext xd
  refine Br.mk (fun h => ?_) (fun h => ?_) <;> simp at h
  · have hw := wrap_in (n := (k : Int) + 1) (by unfold inI; omega)
    have hv : (lst 16)[k]? = some (.int .i64 (bGood (k : Nat))) := lst16 k (by omega)
    have hr := hod.rd k _ hv
    have hs : s.a.isSome = true := by
      exact ho.isSome (by rw [lst16_len]; omega)
    refine ⟨⟨hs, by omega, by omega⟩, _, by simpa using hr, (ref04_Good_spec k _ (by unfold inI; omega)).mono ?_⟩
    rintro e w3 ⟨rfl, rfl⟩
    refine ⟨_, rfl, ?_, Br.mk (fun h => by simp at h) (fun _ => ⟨n - 1, by omega, k + 1, by omega, by omega, xr.tr xd, hod⟩)⟩
    show ld _ (padd (padd s.a _) 0) = _
    rw [padd_padd]; simpa using hr
  · refine (block_Wet_spec _ wr).mono ?_
    rintro e w3 ⟨rfl, rfl⟩
    have hwet : bWet (8 + min (max a 0) 7) = true := by unfold bWet; simp; omega
    refine ⟨_, rfl, Br.mk (fun _ => ?_) (fun h => by rw [hwet] at h; cases h)⟩
    refine (block_Level_spec _ w3 (by unfold inI; omega)).mono ?_
    rintro e w4 ⟨rfl, rfl⟩
    refine ⟨_, rfl, Br.mk (fun _ => lives_good xr) (fun h => ?_)⟩
    unfold bLevel at h
    rw [hwet] at h
    simp at h
    exfalso; apply h
    split <;> split <;> omega
end Go.Proofs.YtdjjlmoiifpceaaDoor
