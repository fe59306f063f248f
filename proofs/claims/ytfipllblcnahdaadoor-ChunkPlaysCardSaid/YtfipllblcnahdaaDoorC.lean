import Derived.Test.YtfipllblcnahdaaDoorG
set_option linter.all false
namespace Go.Proofs.YtfipllblcnahdaaDoor
open Go Go.Vc Go.RowKit Go.Proofs

/-! ## Chapter 1: Around -/
def around (n m : Int) : Int := if n < 0 then (-(n + 1)) % m else n % m
theorem around_spec (n m : Int) (w : World) (hn : inI n) (hm : 0 < m) (hm' : inI m) :
    Calls Tryd.prog n_ref01_Around #[.int .i64 n, .int .i64 m] w fun e w' => e = .returned (.int .i64 (around n m)) ∧ w' = w := by
  apply ref01_Around.vc
  unfold ref01_Around.pre around
  unfold inI at hn hm'
  refine Br.mk (fun h => ?_) (fun h => ?_) <;> simp at h
  · have e1 : IntKind.wrap .i64 (n + 1) = n + 1 := wrap_in (by unfold inI; omega)
    have e2 : IntKind.wrap .i64 (0 - (n + 1)) = -(n + 1) := by rw [wrap_in (by unfold inI; omega)]; omega
    rw [e1, e2, if_pos h]
    refine AndL_nz.2 ⟨by omega, ?_, rfl⟩
    rw [Int.tmod_eq_emod_of_nonneg (by omega)]
  · rw [if_neg (by omega)]
    refine AndL_nz.2 ⟨by omega, ?_, rfl⟩
    rw [Int.tmod_eq_emod_of_nonneg (by omega)]
theorem around_bd (n m : Int) (hm : 0 < m) : 0 ≤ around n m ∧ around n m < m := by
  unfold around; split
  · exact ⟨Int.emod_nonneg _ (by omega), Int.emod_lt_of_pos _ hm⟩
  · exact ⟨Int.emod_nonneg _ (by omega), Int.emod_lt_of_pos _ hm⟩

/-! ## Chapter 4: blocks -/
def bMay (b : Int) : Bool := decide (0 ≤ b) && decide (b ≤ 15) && b != 6 && b != 7
def bSolid (b : Int) : Bool := b == -1 || b == 1 || b == 2 || b == 3 || b == 5
def bWet (b : Int) : Bool := decide (8 ≤ b) && decide (b ≤ 15)
def bYields (b : Int) : Bool := b == 0 || bWet b
def bLevel (b : Int) : Int := if bWet b then b - 8 else -1
def bGood (n : Int) : Int := if around n 14 > 5 then around n 14 + 2 else around n 14
def nmT : List ByteArray := [⟨#[97, 105, 114]⟩, ⟨#[115, 116, 111, 110, 101]⟩, ⟨#[100, 105, 114, 116]⟩, ⟨#[115, 97, 110, 100]⟩, ⟨#[108, 97, 100, 100, 101, 114]⟩, ⟨#[103, 108, 97, 115, 115]⟩, ⟨#[]⟩, ⟨#[]⟩,
  ⟨#[119, 97, 116, 101, 114, 48]⟩, ⟨#[119, 97, 116, 101, 114, 49]⟩, ⟨#[119, 97, 116, 101, 114, 50]⟩, ⟨#[119, 97, 116, 101, 114, 51]⟩, ⟨#[119, 97, 116, 101, 114, 52]⟩, ⟨#[119, 97, 116, 101, 114, 53]⟩, ⟨#[119, 97, 116, 101, 114, 54]⟩, ⟨#[119, 97, 116, 101, 114, 55]⟩]
def bName (b : Int) : ByteArray := if b < 0 then ⟨#[]⟩ else nmT.getD b.toNat ⟨#[]⟩

theorem ref04_May_spec (b : Int) (w : World) : Calls Tryd.prog n_ref04_May #[.int .i64 b] w fun e w' => e = .returned (.bool (bMay b)) ∧ w' = w := by
  apply ref04_May.vc
  unfold ref04_May.pre bMay
  refine Br.mk (fun h => Br.mk (fun h2 => Br.mk (fun h3 => ?_) (fun h3 => ?_)) (fun h2 => ?_)) (fun h => ?_) <;> simp_all <;> omega
theorem ref04_Good_spec (n : Int) (w : World) (hn : inI n) : Calls Tryd.prog n_ref04_Good #[.int .i64 n] w fun e w' => e = .returned (.int .i64 (bGood n)) ∧ w' = w := by
  apply ref04_Good.vc
  unfold ref04_Good.pre bGood
  refine (around_spec n 14 w hn (by omega) (by unfold inI; omega)).mono ?_
  rintro e w' ⟨rfl, rfl⟩
  have := around_bd n 14 (by omega)
  refine ⟨_, rfl, Br.mk (fun h => ?_) (fun h => ?_)⟩ <;> simp at h
  · rw [if_pos h, wrap_in (by unfold inI; omega)]; exact ⟨rfl, rfl⟩
  · rw [if_neg (by omega)]; exact ⟨rfl, rfl⟩
def digS : ByteArray := ⟨#[48, 49, 50, 51, 52, 53, 54, 55, 56, 57, 97, 98, 99, 100, 101, 102, 103, 104, 105, 106, 107, 108, 109, 110, 111, 112, 113, 114, 115, 116, 117, 118, 119, 120, 121, 122]⟩
/-- A digit's text. -/
def dig1 (n : Int) : ByteArray := digS.extract n.toNat (n + 1).toNat
theorem small_spec (n : Int) (w : World) (h0 : 0 ≤ n) (h1 : n < 10) : Calls Tryd.prog n_internal_strconv_small #[.int .i64 n] w fun e w' => e = .returned (.string (dig1 n)) ∧ w' = w := by
  apply internal_strconv_small.vc
  unfold internal_strconv_small.pre
  rw [wrap_in (by unfold inI; omega)]
  refine Br.mk (fun h => ?_) (fun h => ?_) <;> simp at h
  · refine ⟨by omega, ?_, by omega, by omega, rfl, rfl⟩
    show n + 1 ≤ 36
    omega
  · omega
set_option maxRecDepth 10000 in
theorem formatInt_spec (n : Int) (w : World) (h0 : 0 ≤ n) (h1 : n < 10) : Calls Tryd.prog 99 #[.int .i64 n, .int .i64 10] w fun e w' => e = .returned (.string (dig1 n)) ∧ w' = w := by
  have h10 : n < 100 := by omega
  have hs : Calls Tryd.prog 100 #[.int .i64 n] w (fun e w' => e = .returned (.string (dig1 n)) ∧ w' = w) := small_spec n w h0 h1
  clear h1
  go_enter Tryd.func99, Tryd.ntmps99
  go_wp2_with (go_at_call 100; refine hs.mono ?_; rintro e w' ⟨rfl, rfl⟩)
  go_ret
  exact ⟨rfl, rfl⟩
theorem itoa_spec (n : Int) (w : World) (h0 : 0 ≤ n) (h1 : n < 10) : Calls Tryd.prog n_strconv_Itoa #[.int .i64 n] w fun e w' => e = .returned (.string (dig1 n)) ∧ w' = w := by
  apply strconv_Itoa.vc
  refine Calls.mono (internal_strconv_Itoa.vc (R := fun e w' => e = .returned (.string (dig1 n)) ∧ w' = w) ((formatInt_spec n w h0 h1).mono ?_)) ?_
  all_goals
    rintro e w' ⟨rfl, rfl⟩
    exact ⟨_, rfl, rfl, rfl⟩
end Go.Proofs.YtfipllblcnahdaaDoor
