import Derived.Test.YtdjjlmoiifpceaaDoorI
set_option linter.all false
namespace Go.Proofs.YtdjjlmoiifpceaaDoor
open Go Go.Vc Go.RowKit Go.Proofs

theorem kinds (b : Int) (hm : bMay b = true) : (bSolid b = true ∧ bYields b = false ∧ (b == 4) = false) ∨ (bSolid b = false ∧ bYields b = true ∧ (b == 4) = false) ∨ (bSolid b = false ∧ bYields b = false ∧ (b == 4) = true) := by
  unfold bMay at hm
  simp at hm
  have : b = 0 ∨ b = 1 ∨ b = 2 ∨ b = 3 ∨ b = 4 ∨ b = 5 ∨ b = 8 ∨ b = 9 ∨ b = 10 ∨ b = 11 ∨ b = 12 ∨ b = 13 ∨ b = 14 ∨ b = 15 := by omega
  rcases this with rfl | rfl | rfl | rfl | rfl | rfl | rfl | rfl | rfl | rfl | rfl | rfl | rfl | rfl <;> decide
theorem BlockKinds_good (a : Int) (ha : inI a) (w : World) : Calls Tryd.prog 6 #[.int .i64 a] w (Good w) := by
  apply law04_BlockKinds.vc
  refine ⟨fun n x wr => ∃ k : Nat, x = (k : Int) - 3 ∧ k + n = 21 ∧ Ext w wr, ⟨21, 0, rfl, rfl, Ext.rfl' w⟩, ?_⟩
  rintro n us x wr ⟨k, rfl, hk, xr⟩
  refine Br.mk (fun h => ?_) (fun h => lives_good xr)
  simp at h
  have hw := wrap_in (n := (k : Int) - 3 + 1) (by unfold inI; omega)
  have nx : ∀ w', Ext w w' → ∃ n5, n5 < n ∧ ∃ k_1 : Nat, IntKind.wrap .i64 ((k : Int) - 3 + 1) = (k_1 : Int) - 3 ∧ k_1 + n5 = 21 ∧ Ext w w' :=
    fun w' x' => ⟨n - 1, by omega, k + 1, by omega, by omega, x'⟩
  have c1 : IntKind.wrap .i64 (0 + 1) = 1 := by decide
  have c2 : IntKind.wrap .i64 (1 + 1) = 2 := by decide
  have c3 : IntKind.wrap .i64 (2 + 1) = 3 := by decide
  rw [c1, c2, c3]
  refine Br.mk (fun _ => ?_) (fun _ => ?_)
  · generalize a = b at ha ⊢
    repeat' first
      | exact nx _ (by assumption)
      | (refine (block_May_spec b _).mono ?_; rintro e w' ⟨rfl, x'⟩; refine ⟨_, rfl, ?_⟩; replace x' := Ext.tr (by assumption) x')
      | (refine (ref04_May_spec b _).mono ?_; rintro e w' ⟨rfl, rfl⟩; refine ⟨_, rfl, ?_⟩)
      | (refine (block_Solid_spec b _).mono ?_; rintro e w' ⟨rfl, rfl⟩; refine ⟨_, rfl, ?_⟩)
      | (refine (ref04_Solid_spec b _).mono ?_; rintro e w' ⟨rfl, rfl⟩; refine ⟨_, rfl, ?_⟩)
      | (refine (block_Wet_spec b _).mono ?_; rintro e w' ⟨rfl, rfl⟩; refine ⟨_, rfl, ?_⟩)
      | (refine (ref04_Wet_spec b _).mono ?_; rintro e w' ⟨rfl, rfl⟩; refine ⟨_, rfl, ?_⟩)
      | (refine (block_Yields_spec b _).mono ?_; rintro e w' ⟨rfl, rfl⟩; refine ⟨_, rfl, ?_⟩)
      | (refine (ref04_Yields_spec b _).mono ?_; rintro e w' ⟨rfl, rfl⟩; refine ⟨_, rfl, ?_⟩)
      | (refine (block_Falls_spec b _).mono ?_; rintro e w' ⟨rfl, rfl⟩; refine ⟨_, rfl, ?_⟩)
      | (refine (block_Climbs_spec b _).mono ?_; rintro e w' ⟨rfl, rfl⟩; refine ⟨_, rfl, ?_⟩)
      | (refine (block_Level_spec b _ ha).mono ?_; rintro e w' ⟨rfl, rfl⟩; refine ⟨_, rfl, ?_⟩)
      | (refine (ref04_Level_spec b _ ha).mono ?_; rintro e w' ⟨rfl, rfl⟩; refine ⟨_, rfl, ?_⟩)
      | (exfalso; simp at h; done)
      | (refine Br.mk (fun h => ?_) (fun h => ?_))
      | (exfalso; have hk := kinds b (by assumption); simp_all; done)
  · have ha : inI ((k : Int) - 3) := by unfold inI; omega
    generalize (k : Int) - 3 = b at ha ⊢ nx
    repeat' first
      | exact nx _ (by assumption)
      | (refine (block_May_spec b _).mono ?_; rintro e w' ⟨rfl, x'⟩; refine ⟨_, rfl, ?_⟩; replace x' := Ext.tr (by assumption) x')
      | (refine (ref04_May_spec b _).mono ?_; rintro e w' ⟨rfl, rfl⟩; refine ⟨_, rfl, ?_⟩)
      | (refine (block_Solid_spec b _).mono ?_; rintro e w' ⟨rfl, rfl⟩; refine ⟨_, rfl, ?_⟩)
      | (refine (ref04_Solid_spec b _).mono ?_; rintro e w' ⟨rfl, rfl⟩; refine ⟨_, rfl, ?_⟩)
      | (refine (block_Wet_spec b _).mono ?_; rintro e w' ⟨rfl, rfl⟩; refine ⟨_, rfl, ?_⟩)
      | (refine (ref04_Wet_spec b _).mono ?_; rintro e w' ⟨rfl, rfl⟩; refine ⟨_, rfl, ?_⟩)
      | (refine (block_Yields_spec b _).mono ?_; rintro e w' ⟨rfl, rfl⟩; refine ⟨_, rfl, ?_⟩)
      | (refine (ref04_Yields_spec b _).mono ?_; rintro e w' ⟨rfl, rfl⟩; refine ⟨_, rfl, ?_⟩)
      | (refine (block_Falls_spec b _).mono ?_; rintro e w' ⟨rfl, rfl⟩; refine ⟨_, rfl, ?_⟩)
      | (refine (block_Climbs_spec b _).mono ?_; rintro e w' ⟨rfl, rfl⟩; refine ⟨_, rfl, ?_⟩)
      | (refine (block_Level_spec b _ ha).mono ?_; rintro e w' ⟨rfl, rfl⟩; refine ⟨_, rfl, ?_⟩)
      | (refine (ref04_Level_spec b _ ha).mono ?_; rintro e w' ⟨rfl, rfl⟩; refine ⟨_, rfl, ?_⟩)
      | (exfalso; simp at h; done)
      | (refine Br.mk (fun h => ?_) (fun h => ?_))
      | (exfalso; have hk := kinds b (by assumption); simp_all; done)
end Go.Proofs.YtdjjlmoiifpceaaDoor
