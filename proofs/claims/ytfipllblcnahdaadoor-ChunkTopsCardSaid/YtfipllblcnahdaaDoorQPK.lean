import Derived.Test.YtfipllblcnahdaaDoorQLB
import Derived.Test.YtfipllblcnahdaaDoorP
set_option linter.all false
namespace Go.Chk
open Go Go.Vc

abbrev Ce := Int × Int × Int
abbrev Po := Int × Int
theorem tdm {a b : Int} (hb : 0 < b) : (a.tmod b < 0 → a / b = a.tdiv b - 1 ∧ a % b = a.tmod b + b) ∧ (0 ≤ a.tmod b → a / b = a.tdiv b ∧ a % b = a.tmod b) ∧ -b < a.tmod b ∧ a.tmod b < b := by
  have h1 : b * a.tdiv b + a.tmod b = a := Int.mul_tdiv_add_tmod a b
  have h2 : a.tmod b < b := Int.tmod_lt_of_pos a hb
  have h3 : -b < a.tmod b := by
    have := Int.tmod_lt_of_pos (-a) hb
    rw [Int.neg_tmod] at this
    omega
  refine ⟨fun h => ?_, fun h => ?_, h3, h2⟩
  · have := (Int.ediv_emod_unique hb (a := a) (q := a.tdiv b - 1) (r := a.tmod b + b)).2 ⟨by rw [Int.mul_sub]; omega, by omega, by omega⟩
    exact this
  · exact (Int.ediv_emod_unique hb (a := a) (q := a.tdiv b) (r := a.tmod b)).2 ⟨by omega, by omega, by omega⟩
theorem ediv_in {a b : Int} (ha : inI a) (hb : 0 < b) : inI (a / b) := by
  unfold inI at *
  have h1 := Int.emod_nonneg a (by omega : b ≠ 0)
  have h2 := Int.emod_lt_of_pos a hb
  have h3 := Int.mul_ediv_add_emod a b
  rcases Int.lt_or_le a 0 with h | h
  · have h4 : a ≤ a / b := by
      rw [Int.le_ediv_iff_mul_le hb]
      have := Int.mul_le_mul_of_nonpos_left (a := a) (b := b) (c := 1) (by omega) (by omega)
      omega
    have h5 : a / b < 0 := Int.ediv_neg_of_neg_of_pos h hb
    omega
  · have h4 : a / b ≤ a := Int.ediv_le_self b h
    have h5 : 0 ≤ a / b := Int.ediv_nonneg h (by omega)
    omega
theorem tdiv_in {a b : Int} (ha : inI a) (hb : 0 < b) : inI (a.tdiv b) := by
  unfold inI at *
  rcases Int.lt_or_le a 0 with h | h
  · have h1 : a.tdiv b = -((-a) / b) := by
      rw [← Int.tdiv_eq_ediv_of_nonneg (by omega), Int.neg_tdiv]; omega
    have h4 : (-a) / b ≤ -a := Int.ediv_le_self b (by omega)
    have h5 : 0 ≤ (-a) / b := Int.ediv_nonneg (by omega) (by omega)
    omega
  · rw [Int.tdiv_eq_ediv_of_nonneg h]
    have h4 : a / b ≤ a := Int.ediv_le_self b h
    have h5 : 0 ≤ a / b := Int.ediv_nonneg h (by omega)
    omega
/-! ## Hash -/
theorem u64_in (n : Int) : 0 ≤ IntKind.wrap .u64 n ∧ IntKind.wrap .u64 n < 18446744073709551616 := by
  unfold IntKind.wrap
  simp only [IntKind.bits, IntKind.signed]
  simp
  omega
theorem u64_id {n : Int} (h : 0 ≤ n ∧ n < 18446744073709551616) : IntKind.wrap .u64 n = n := by
  unfold IntKind.wrap
  simp only [IntKind.bits, IntKind.signed]
  simp
  omega
def mix (seed x z : Int) : Int := IntKind.wrap .u64 ((IntKind.wrap .u64 ((IntKind.wrap .u64 ((IntKind.wrap .u64 seed) * 11400714819323198485)) + (IntKind.wrap .u64 ((IntKind.wrap .u64 x) * 14029467366897019727)))) + (IntKind.wrap .u64 ((IntKind.wrap .u64 z) * 1609587929392839161)))
def hash (seed x z : Int) : Int :=
  bXor .u64 (IntKind.wrap .u64 ((bXor .u64 (mix seed x z) (mix seed x z / 536870912)) * 13787848793156543929)) (IntKind.wrap .u64 ((bXor .u64 (mix seed x z) (mix seed x z / 536870912)) * 13787848793156543929) / 4294967296)
theorem hash_in (seed x z : Int) : 0 ≤ hash seed x z := by
  unfold hash bXor
  exact (u64_in _).1
theorem sh29 (n : Int) : (IntKind.wrap .u64 n).fdiv (2 ^ (min (29 : Int).toNat 64)) = IntKind.wrap .u64 n / 536870912 := Int.fdiv_eq_ediv_of_nonneg _ (by decide)
theorem sh32 (n : Int) : (IntKind.wrap .u64 n).fdiv (2 ^ (min (32 : Int).toNat 64)) = IntKind.wrap .u64 n / 4294967296 := Int.fdiv_eq_ediv_of_nonneg _ (by decide)
theorem dv29 (n : Int) : IntKind.wrap .u64 (Int.tdiv (IntKind.wrap .u64 n) 536870912) = IntKind.wrap .u64 n / 536870912 := by
  have h := u64_in n
  rw [Int.tdiv_eq_ediv_of_nonneg h.1, u64_id (by omega)]
theorem dv32 (n : Int) : IntKind.wrap .u64 (Int.tdiv (IntKind.wrap .u64 n) 4294967296) = IntKind.wrap .u64 n / 4294967296 := by
  have h := u64_in n
  rw [Int.tdiv_eq_ediv_of_nonneg h.1, u64_id (by omega)]
/-! ## Ground -/
def corner (seed x z : Int) : Int := hash seed x z % 9
def ground (seed x z : Int) : Int :=
  6 + (corner seed (x / 8) (z / 8) * ((8 - x % 8) * (8 - z % 8)) + corner seed (x / 8 + 1) (z / 8) * (x % 8 * (8 - z % 8)) + corner seed (x / 8) (z / 8 + 1) * ((8 - x % 8) * (z % 8)) + corner seed (x / 8 + 1) (z / 8 + 1) * (x % 8 * (z % 8))) / 64
def ofG (y g : Int) : Int :=
  if y < 0 ∨ 32 ≤ y then 0 else if y = 0 ∨ y < g - 3 then 1 else if y < g - 1 ∨ (y = g - 1 ∧ 9 < g) then 2 else if y = g - 1 then 3 else if y < 9 then 8 else 0
theorem mul_bd {c u v : Int} (hc : 0 ≤ c ∧ c ≤ 8) (hu : 0 ≤ u ∧ u ≤ 8) (hv : 0 ≤ v ∧ v ≤ 8) : 0 ≤ u * v ∧ u * v ≤ 64 ∧ 0 ≤ c * (u * v) ∧ c * (u * v) ≤ 512 := by
  have h1 : 0 ≤ u * v := Int.mul_nonneg hu.1 hv.1
  have h2 : u * v ≤ 8 * 8 := Int.mul_le_mul hu.2 hv.2 hv.1 (by decide)
  have h3 : 0 ≤ c * (u * v) := Int.mul_nonneg hc.1 h1
  have h4 : c * (u * v) ≤ 8 * 64 := Int.mul_le_mul hc.2 h2 h1 (by decide)
  exact ⟨h1, h2, h3, h4⟩
theorem corner_in (s x z : Int) : 0 ≤ corner s x z ∧ corner s x z ≤ 8 := by
  unfold corner; omega
theorem ground_in (s x z : Int) : 6 ≤ ground s x z ∧ ground s x z ≤ 100 := by
  unfold ground
  have a := mul_bd (corner_in s (x / 8) (z / 8)) (u := 8 - x % 8) (v := 8 - z % 8) (by omega) (by omega)
  have b := mul_bd (corner_in s (x / 8 + 1) (z / 8)) (u := x % 8) (v := 8 - z % 8) (by omega) (by omega)
  have c := mul_bd (corner_in s (x / 8) (z / 8 + 1)) (u := 8 - x % 8) (v := z % 8) (by omega) (by omega)
  have d := mul_bd (corner_in s (x / 8 + 1) (z / 8 + 1)) (u := x % 8) (v := z % 8) (by omega) (by omega)
  omega
/-! ## Places -/
def idx (c : Ce) : Int := (c.2.1 * 16 + c.2.2 % 16) * 16 + c.1 % 16
def inY (c : Ce) : Prop := 0 ≤ c.2.1 ∧ c.2.1 < 32
def pos (c : Ce) : Po := (c.1 / 16, c.2.2 / 16)
def cellAt (p : Po) (i : Int) : Ce := (p.1 * 16 + i % 16, i / 256, p.2 * 16 + i / 16 % 16)
theorem idx_in {c : Ce} (h : inY c) : 0 ≤ idx c ∧ idx c < 8192 := by
  unfold idx; unfold inY at h; omega
theorem idx_cellAt (p : Po) {i : Int} (h : 0 ≤ i ∧ i < 8192) : inY (cellAt p i) ∧ idx (cellAt p i) = i ∧ pos (cellAt p i) = p := by
  unfold cellAt inY idx pos
  simp only
  refine ⟨by omega, by omega, Prod.ext ?_ ?_⟩
  · show (p.1 * 16 + i % 16) / 16 = p.1; omega
  · show (p.2 * 16 + i / 16 % 16) / 16 = p.2; omega
theorem cellAt_idx {c : Ce} (h : inY c) : cellAt (pos c) (idx c) = c := by
  unfold cellAt idx pos
  unfold inY at h
  refine Prod.ext ?_ (Prod.ext ?_ ?_) <;> simp only <;> omega
/-- A chunk's cells, as they are made. -/
def made (seed : Int) (p : Po) : List Int := (List.range 8192).map fun i : Nat => ofG ((i : Int) / 256) (ground seed (p.1 * 16 + (i : Int) % 16) (p.2 * 16 + (i : Int) / 16 % 16))
theorem made_len (seed : Int) (p : Po) : (made seed p).length = 8192 := by simp [made]
theorem ofG_cases (y g : Int) : ofG y g = 0 ∨ ofG y g = 1 ∨ ofG y g = 2 ∨ ofG y g = 3 ∨ ofG y g = 8 := by
  unfold ofG
  split
  · exact .inl rfl
  · split
    · exact .inr (.inl rfl)
    · split
      · exact .inr (.inr (.inl rfl))
      · split
        · exact .inr (.inr (.inr (.inl rfl)))
        · split
          · exact .inr (.inr (.inr (.inr rfl)))
          · exact .inl rfl
end Go.Chk
