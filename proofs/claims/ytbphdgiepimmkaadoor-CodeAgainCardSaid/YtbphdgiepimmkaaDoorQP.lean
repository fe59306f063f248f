import Derived.Test.YtbphdgiepimmkaaDoorP
set_option linter.all false
namespace Go.Code
open Go Go.Vc Go.Runs

/-- The bytes of a number, by sevens of bits. -/
def numF : Nat → Int → List Int
  | 0, _ => []
  | k + 1, x => if x < 128 then [x] else (128 + x % 128) :: numF k (x / 128)
def numB (n : Int) : List Int := if n < 0 ∨ n > 1048576 then [] else numF 3 n
/-- The number that bytes begin with, and of how many; 0 fine, 2 of no form, 3 too short. -/
def digG : Nat → Nat → Int → List Int → Int × Int × Int
  | 0, _, _, _ => (0, 0, 2)
  | _ + 1, _, _, [] => (0, 0, 3)
  | k + 1, i, n, c :: t => if c ≥ 128 then digG k (i + 1) (n + c % 128 * 128 ^ i) t
      else if (c = 0 ∧ 0 < i) ∨ n + c % 128 * 128 ^ i > 1048576 then (0, 0, 2) else (n + c % 128 * 128 ^ i, (i : Int) + 1, 0)
def digB (b : List Int) : Int × Int × Int := digG 3 0 0 b
theorem wrap_u8 (x : Int) : IntKind.wrap .u8 x = x % 256 := by
  unfold IntKind.wrap
  simp [IntKind.bits, IntKind.signed]
theorem or128 (x : Int) (h : 0 ≤ x) : bOr .u8 (IntKind.wrap .u8 x) 128 = 128 + x % 128 := by
  rw [wrap_u8]
  have key : ∀ a < 256, bOr .u8 ((a : Nat) : Int) 128 = 128 + ((a : Nat) : Int) % 128 := by decide +kernel
  have := key (x % 256).toNat (by omega)
  rw [show (((x % 256).toNat : Nat) : Int) = x % 256 from by omega] at this
  rw [this]; omega
theorem andNot128 (c : Int) (h : 0 ≤ c) (h' : c < 256) : bAndNot .u8 c 128 = c % 128 := by
  have key : ∀ a < 256, bAndNot .u8 ((a : Nat) : Int) 128 = ((a : Nat) : Int) % 128 := by decide +kernel
  have := key c.toNat (by omega)
  rwa [show ((c.toNat : Nat) : Int) = c from by omega] at this
theorem or_add (n c k : Nat) (h : n < 2 ^ k) (hb : n + c * 2 ^ k < 4611686018427387904) : bOr .i64 (n : Int) ((c * 2 ^ k : Nat) : Int) = ((n + c * 2 ^ k : Nat) : Int) := by
  unfold bOr
  have e1 : ∀ m : Nat, m < 4611686018427387904 → (BitVec.ofInt IntKind.i64.bits (m : Int)).toNat = m := by
    intro m hm
    rw [BitVec.toNat_ofInt]
    show ((m : Int) % ((2 ^ 64 : Nat) : Int)).toNat = m
    rw [show ((2 ^ 64 : Nat) : Int) = 18446744073709551616 from by decide]
    omega
  rw [BitVec.toNat_or, e1 n (by omega), e1 _ (by omega), Nat.or_comm]
  have := Nat.shiftLeft_add_eq_or_of_lt h c
  rw [Nat.shiftLeft_eq] at this
  rw [← this, Nat.add_comm]
  exact wrap_in (by unfold inI; omega)
end Go.Code
namespace Go.Code
open Go Go.Vc Go.Runs
theorem orStep (k : Nat) (hk : k < 3) (n c : Int) (h0 : 0 ≤ n) (h1 : n < 128 ^ k) (hc : 0 ≤ c) (hc' : c < 256) :
    bOr .i64 n (IntKind.wrap .i64 ((IntKind.wrap .i64 (bAndNot .u8 c 128)) * 2 ^ (min ((IntKind.wrap .i64 (7 * (k : Int))) : Int).toNat 64))) = n + c % 128 * 128 ^ k ∧ 0 ≤ IntKind.wrap .i64 (7 * (k : Int)) := by
  have hw := wrap_in (n := 7 * (k : Int)) (by unfold inI; omega)
  rw [hw, andNot128 c hc hc', wrap_in (n := c % 128) (by unfold inI; omega)]
  refine ⟨?_, by omega⟩
  have e : ((2 : Int) ^ (min ((7 * (k : Int)) : Int).toNat 64)) = 128 ^ k := by
    have : k = 0 ∨ k = 1 ∨ k = 2 := by omega
    rcases this with rfl | rfl | rfl <;> decide
  rw [e]
  have hp : (128 : Int) ^ k ≤ 16384 ∧ 1 ≤ (128 : Int) ^ k := by
    have : k = 0 ∨ k = 1 ∨ k = 2 := by omega
    rcases this with rfl | rfl | rfl <;> decide
  have hm : c % 128 * 128 ^ k ≤ 127 * 16384 := by
    have : k = 0 ∨ k = 1 ∨ k = 2 := by omega
    rcases this with rfl | rfl | rfl <;> simp <;> omega
  have hm0 : 0 ≤ c % 128 * 128 ^ k := Int.mul_nonneg (by omega) (by omega)
  rw [wrap_in (n := c % 128 * 128 ^ k) (by unfold inI; omega)]
  have e7 : ((2 ^ (7 * k) : Nat) : Int) = 128 ^ k := by
    have : k = 0 ∨ k = 1 ∨ k = 2 := by omega
    rcases this with rfl | rfl | rfl <;> decide
  have e2 : c % 128 * 128 ^ k = (((c % 128).toNat * 2 ^ (7 * k) : Nat) : Int) := by
    rw [Int.natCast_mul, e7, show (((c % 128).toNat : Nat) : Int) = c % 128 from by omega]
  have := or_add n.toNat (c % 128).toNat (7 * k) (by
    have : ((n.toNat : Nat) : Int) < ((2 ^ (7 * k) : Nat) : Int) := by rw [e7]; omega
    omega) (by
    have : (((c % 128).toNat * 2 ^ (7 * k) : Nat) : Int) ≤ 127 * 16384 := by rw [← e2]; exact hm
    omega)
  rw [e2, show n = ((n.toNat : Nat) : Int) from by omega]
  rw [this]; simp
theorem digStep {k j : Nat} {n c : Int} {t : List Int} : digG (j + 1) k n (c :: t) = if c ≥ 128 then digG j (k + 1) (n + c % 128 * 128 ^ k) t
      else if (c = 0 ∧ 0 < k) ∨ n + c % 128 * 128 ^ k > 1048576 then (0, 0, 2) else (n + c % 128 * 128 ^ k, (k : Int) + 1, 0) := rfl
theorem pow_step (k : Nat) (n c : Int) (h1 : n < 128 ^ k) : n + c % 128 * 128 ^ k < 128 ^ (k + 1) := by
  have hp : 0 ≤ (128 : Int) ^ k := Int.pow_nonneg (by omega)
  have : c % 128 * 128 ^ k ≤ 127 * 128 ^ k := Int.mul_le_mul_of_nonneg_right (by omega) hp
  rw [Int.pow_succ]; omega
end Go.Code
namespace Go.Code
open Go Go.Vc Go.Runs
/-- Each length is one at least, and together they are left at most. -/
def chkL : Int → List Rn → Bool
  | _, [] => true
  | left, r :: t => if r.1 < 1 ∨ r.1 > left then false else chkL (left - r.1) t
theorem chkL_pos : ∀ {l : List Rn} {left : Int}, chkL left l = true → (∀ r ∈ l, 1 ≤ r.1) ∧ (l ≠ [] → sumR l ≤ left)
  | [], _, _ => ⟨by simp, fun h => absurd rfl h⟩
  | r :: t, left, h => by
    unfold chkL at h
    split at h
    · cases h
    · obtain ⟨h1, h2⟩ := chkL_pos h
      refine ⟨fun q hq => ?_, fun _ => ?_⟩
      · rcases List.mem_cons.1 hq with rfl | hq
        · omega
        · exact h1 q hq
      · have e : sumR (r :: t) = r.1 + sumR t := by simp [sumR]
        by_cases ht : t = []
        · subst ht; rw [e]; simp [sumR]; omega
        · have := h2 ht; omega
def okW (may : Int → Bool) (l : List Rn) : Bool := chkL 1048576 l && mayR may l (sumR l)
/-- The bytes of runs. -/
def wrB (l : List Rn) : List Int := l.flatMap fun r => r.2 % 256 :: numB r.1
theorem wrB_app (l m : List Rn) : wrB (l ++ m) = wrB l ++ wrB m := by unfold wrB; rw [List.flatMap_append]
theorem wrB_succ {l : List Rn} {k : Nat} {r : Rn} (hr : l[k]? = some r) : wrB (l.take (k + 1)) = wrB (l.take k) ++ (r.2 % 256 :: numB r.1) := by
  rw [List.take_add_one, hr, wrB_app]; simp [wrB]
theorem numF_len : ∀ (k : Nat) (x : Int), (numF k x).length ≤ k
  | 0, _ => by simp [numF]
  | k + 1, x => by
    unfold numF
    split
    · simp
    · have := numF_len k (x / 128); simp; omega
theorem numB_len (n : Int) : (numB n).length ≤ 3 := by
  unfold numB
  split
  · simp
  · exact numF_len 3 n
theorem wrB_len (l : List Rn) : (wrB l).length ≤ 4 * l.length := by
  induction l with
  | nil => simp [wrB]
  | cons r l ih =>
    have := numB_len r.1
    unfold wrB at ih ⊢
    rw [List.flatMap_cons, List.length_append, List.length_cons, List.length_cons]
    omega
theorem numF_in : ∀ (k : Nat) (x : Int), 0 ≤ x → ∀ c ∈ numF k x, 0 ≤ c ∧ c < 256
  | 0, _, _, c, h => by simp [numF] at h
  | k + 1, x, hx, c, h => by
    unfold numF at h
    split at h
    · simp at h; omega
    · rcases List.mem_cons.1 h with rfl | h
      · omega
      · exact numF_in k (x / 128) (by omega) c h
theorem numB_in (n : Int) : ∀ c ∈ numB n, 0 ≤ c ∧ c < 256 := by
  intro c h
  unfold numB at h
  split at h
  · simp at h
  · exact numF_in 3 n (by omega) c h
theorem wrB_in (l : List Rn) : ∀ c ∈ wrB l, 0 ≤ c ∧ c < 256 := by
  intro c h
  unfold wrB at h
  obtain ⟨r, _, hc⟩ := List.mem_flatMap.1 h
  rcases List.mem_cons.1 hc with rfl | hc
  · omega
  · exact numB_in r.1 c hc
end Go.Code
namespace Go.Code
open Go Go.Vc Go.Runs
theorem dig_num : ∀ (k i : Nat) (m x : Int) (t : List Int), 1 ≤ k → 0 ≤ x → x < 128 ^ k → (x = 0 → i = 0) → m + x * 128 ^ i ≤ 1048576 →
    digG k i m (numF k x ++ t) = (m + x * 128 ^ i, (i : Int) + (numF k x).length, 0)
  | 0, _, _, _, _, h, _, _, _, _ => by omega
  | k + 1, i, m, x, t, _, h0, h1, hz, hm => by
    by_cases hx : x < 128
    · have e : numF (k + 1) x = [x] := by unfold numF; rw [if_pos hx]
      rw [e, List.singleton_append, digStep, if_neg (by omega), show x % 128 = x from by omega, if_neg (by
        rintro (⟨h, h'⟩ | h)
        · have := hz h; omega
        · omega)]
      simp
    · have e : numF (k + 1) x = (128 + x % 128) :: numF k (x / 128) := by
        show (if x < 128 then [x] else (128 + x % 128) :: numF k (x / 128)) = _
        rw [if_neg hx]
      have hk : 1 ≤ k := by
        rcases Nat.eq_zero_or_pos k with rfl | h
        · simp at h1; omega
        · exact h
      have hpow : (128 : Int) ^ (i + 1) = 128 ^ i * 128 := Int.pow_succ _ _
      have hsum : m + x % 128 * 128 ^ i + x / 128 * 128 ^ (i + 1) = m + x * 128 ^ i := by
        rw [hpow]
        have : x % 128 * 128 ^ i + x / 128 * (128 ^ i * 128) = x * 128 ^ i := by
          rw [Int.mul_comm (128 ^ i) 128, ← Int.mul_assoc, ← Int.add_mul]
          congr 1; omega
        omega
      rw [e, List.cons_append, digStep, if_pos (by omega), show (128 + x % 128) % 128 = x % 128 from by omega]
      rw [dig_num k (i + 1) _ (x / 128) t hk (by omega) (by rw [Int.pow_succ] at h1; omega) (by omega) (by rw [hsum]; exact hm), hsum]
      simp; omega
theorem digB_num {n : Int} (h0 : 0 ≤ n) (h1 : n ≤ 1048576) (t : List Int) : digB (numB n ++ t) = (n, ((numB n).length : Int), 0) := by
  have e : numB n = numF 3 n := by unfold numB; rw [if_neg (by omega)]
  rw [e]
  unfold digB
  rw [dig_num 3 0 0 n t (by omega) h0 (by omega) (fun _ => rfl) (by simp; omega)]
  simp
end Go.Code
namespace Go.Code
open Go Go.Vc Go.Runs
theorem numF_size {n : Int} (h0 : 0 ≤ n) (h1 : n ≤ 1048576) : ((numB n).length : Int) = 1 + (if n ≥ 128 then 1 else 0) + (if n ≥ 16384 then 1 else 0) := by
  have e : numB n = numF 3 n := by unfold numB; rw [if_neg (by omega)]
  rw [e]
  unfold numF
  split
  · rw [if_neg (by omega), if_neg (by omega)]; rfl
  · unfold numF
    split
    · rw [if_pos (by omega), if_neg (by omega)]; rfl
    · unfold numF
      rw [if_pos (by omega), if_pos (by omega), if_pos (by omega)]; rfl
theorem chkL_true : ∀ {l : List Rn} {left : Int}, (∀ r ∈ l, 1 ≤ r.1) → sumR l ≤ left → chkL left l = true
  | [], _, _, _ => rfl
  | r :: t, left, h, hs => by
    have e : sumR (r :: t) = r.1 + sumR t := by simp [sumR]
    have h1 := h r (.head _)
    have ht : 0 ≤ sumR t := by rw [sumR_cells fun q hq => by have := h q (.tail _ hq); omega]; omega
    unfold chkL
    rw [if_neg (by omega)]
    exact chkL_true (fun q hq => h q (.tail _ hq)) (by omega)
theorem okW_nm {may : Int → Bool} {l : List Rn} (h : Nm l) (hm : ∀ r ∈ l, may r.2 = true) (hs : sumR l ≤ 1048576) (hne : l ≠ []) : okW may l = true := by
  unfold okW
  rw [chkL_true h.pos hs]
  unfold mayR
  have hp : 0 < sumR l := by
    cases l with
    | nil => exact absurd rfl hne
    | cons r t =>
      have e : sumR (r :: t) = r.1 + sumR t := by simp [sumR]
      have h1 := h.pos r (.head _)
      have ht : 0 ≤ sumR t := by rw [sumR_cells fun q hq => by have := h.pos q (.tail _ hq); omega]; omega
      omega
  rw [decide_eq_true hp, mayL_true (fun r hr => ⟨h.pos r hr, hm r hr⟩) h.next (fun r _ => by simp) rfl]
  rfl
theorem sumR_snoc (l : List Rn) (r : Rn) : sumR (l ++ [r]) = sumR l + r.1 := by rw [sumR_app]; simp [sumR]
theorem wrB_snoc (l : List Rn) (r : Rn) : wrB (l ++ [r]) = wrB l ++ (r.2 % 256 :: numB r.1) := by rw [wrB_app]; simp [wrB]
end Go.Code
namespace Go.Code
open Go Go.Vc Go.Runs
/-- The runs that bytes are of, for n cells more, behind a block last and runs acc; 0 fine, 2 of no form, 3 too short. -/
def readG (may : Int → Bool) : Nat → List Int → Int → Int → List Rn → List Rn × Int
  | 0, _, _, _, _ => ([], 3)
  | _ + 1, [], n, _, acc => if n > 0 then ([], 3) else (acc, 0)
  | f + 1, c :: t, n, last, acc =>
    if may c = false ∨ c = last then ([], 2)
    else if (digB t).2.2 ≠ 0 then ([], (digB t).2.2)
    else if (digB t).1 = 0 ∨ (digB t).1 > n then ([], 2)
    else if n - (digB t).1 = 0 then (if t.drop (digB t).2.1.toNat = [] then (acc ++ [((digB t).1, c)], 0) else ([], 2))
    else readG may f (t.drop (digB t).2.1.toNat) (n - (digB t).1) c (acc ++ [((digB t).1, c)])
def readB (may : Int → Bool) (b : List Int) (n : Int) : List Rn × Int := readG may (b.length + 1) b n (-1) []
theorem digG_ok : ∀ (k i : Nat) (m : Int) (b : List Int), 0 ≤ m → (digG k i m b).2.2 = 0 → 0 ≤ (digG k i m b).1 ∧ (digG k i m b).1 ≤ 1048576 ∧ (i : Int) + 1 ≤ (digG k i m b).2.1 ∧ (digG k i m b).2.1 ≤ (i : Int) + b.length
  | 0, _, _, _, _, h => by simp [digG] at h
  | k + 1, i, m, [], _, h => by simp [digG] at h
  | k + 1, i, m, c :: t, h0, h => by
    have hp : 0 ≤ c % 128 * 128 ^ i := Int.mul_nonneg (by omega) (Int.pow_nonneg (by omega))
    rw [digStep] at h ⊢
    split
    · rename_i hc
      rw [if_pos hc] at h
      have := digG_ok k (i + 1) _ t (by omega) h
      simp only [List.length_cons]
      omega
    · rename_i hc
      rw [if_neg hc] at h
      split
      · rename_i hz; rw [if_pos hz] at h; simp at h
      · rename_i hz
        simp only [List.length_cons]
        refine ⟨by omega, ?_, by omega, by omega⟩
        rcases Int.lt_or_le 1048576 (m + c % 128 * 128 ^ i) with hh | hh
        · exact absurd (.inr hh) hz
        · exact hh
end Go.Code
