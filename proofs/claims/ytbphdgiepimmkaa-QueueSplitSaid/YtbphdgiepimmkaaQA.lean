import Derived.Test.YtbphdgiepimmkaaG
import Derived.Test.YtbphdgiepimmkaaLib
import Derived.Test.YtbphdgiepimmkaaP
set_option linter.all false
namespace Go.Proofs.Ytbphdgiepimmkaa
open Go Go.Vc Go.RowKit Go.Proofs

/-! ## Chapter 1: Around -/
def around (n m : Int) : Int := if n < 0 then (-(n + 1)) % m else n % m
theorem around_spec (n m : Int) (w : World) (hn : inI n) (hm : 0 < m) (hm' : inI m) :
    Calls Try.prog n_ref01_Around #[.int .i64 n, .int .i64 m] w fun e w' => e = .returned (.int .i64 (around n m)) ∧ w' = w := by
  apply ref01_Around.vc
  unfold ref01_Around.pre around
  unfold inI at hn hm'
  refine Br.mk (fun h => ?_) (fun h => ?_) <;> simp at h
  · have e1 : IntKind.wrap .i64 (n + 1) = n + 1 := wrap_in (by unfold inI; omega)
    have e2 : IntKind.wrap .i64 (0 - (n + 1)) = -(n + 1) := by rw [wrap_in (by unfold inI; omega)]; omega
    rw [e1, e2, if_pos h]
    refine AndL_nz.2 ⟨by omega, ?_, rfl⟩
    rw [Int.tmod_eq_emod_of_nonneg (by omega)]
  · rw [if_neg (by omega)]
    refine AndL_nz.2 ⟨by omega, ?_, rfl⟩
    rw [Int.tmod_eq_emod_of_nonneg (by omega)]
theorem around_bd (n m : Int) (hm : 0 < m) : 0 ≤ around n m ∧ around n m < m := by
  unfold around; split
  · exact ⟨Int.emod_nonneg _ (by omega), Int.emod_lt_of_pos _ hm⟩
  · exact ⟨Int.emod_nonneg _ (by omega), Int.emod_lt_of_pos _ hm⟩

/-! ## Chapter 4: blocks -/
def bMay (b : Int) : Bool := decide (0 ≤ b) && decide (b ≤ 15) && b != 6 && b != 7
def bSolid (b : Int) : Bool := b == -1 || b == 1 || b == 2 || b == 3 || b == 5
def bWet (b : Int) : Bool := decide (8 ≤ b) && decide (b ≤ 15)
def bYields (b : Int) : Bool := b == 0 || bWet b
def bLevel (b : Int) : Int := if bWet b then b - 8 else -1
def bGood (n : Int) : Int := if around n 14 > 5 then around n 14 + 2 else around n 14
def nmT : List ByteArray := [⟨#[97, 105, 114]⟩, ⟨#[115, 116, 111, 110, 101]⟩, ⟨#[100, 105, 114, 116]⟩, ⟨#[115, 97, 110, 100]⟩, ⟨#[108, 97, 100, 100, 101, 114]⟩, ⟨#[103, 108, 97, 115, 115]⟩, ⟨#[]⟩, ⟨#[]⟩,
  ⟨#[119, 97, 116, 101, 114, 48]⟩, ⟨#[119, 97, 116, 101, 114, 49]⟩, ⟨#[119, 97, 116, 101, 114, 50]⟩, ⟨#[119, 97, 116, 101, 114, 51]⟩, ⟨#[119, 97, 116, 101, 114, 52]⟩, ⟨#[119, 97, 116, 101, 114, 53]⟩, ⟨#[119, 97, 116, 101, 114, 54]⟩, ⟨#[119, 97, 116, 101, 114, 55]⟩]
def bName (b : Int) : ByteArray := if b < 0 then ⟨#[]⟩ else nmT.getD b.toNat ⟨#[]⟩

def digS : ByteArray := ⟨#[48, 49, 50, 51, 52, 53, 54, 55, 56, 57, 97, 98, 99, 100, 101, 102, 103, 104, 105, 106, 107, 108, 109, 110, 111, 112, 113, 114, 115, 116, 117, 118, 119, 120, 121, 122]⟩
/-- A digit's text. -/
def dig1 (n : Int) : ByteArray := digS.extract n.toNat (n + 1).toNat
end Go.Proofs.Ytbphdgiepimmkaa
namespace Go.Proofs.Ytbphdgiepimmkaa
open Go Go.Vc Go.RowKit Go.Proofs Go.Que

abbrev tCell : TypeId := 28
abbrev tItem : TypeId := 36
abbrev tQueue : TypeId := 54
/-- Cells as keys. -/
def GC (v : Value) : Prop := ∃ c : Cl, v = cv c
theorem cellKey : KeyOk Try.prog tCell GC := by
  refine ⟨?_, ?_, ?_⟩
  · rintro x y ⟨a, rfl⟩ ⟨b, rfl⟩
    refine ⟨a.1 == b.1 && (a.2.1 == b.2.1 && a.2.2 == b.2.2), by kernel_rfl, ?_⟩
    simp only [Bool.and_eq_true, beq_iff_eq]
    constructor
    · rintro ⟨h1, h2, h3⟩
      unfold cv; rw [h1, h2, h3]
    · intro h
      rw [cv_inj h]; simp
  · rintro x ⟨a, rfl⟩ b w
    kernel_rfl
  · rintro x ⟨a, rfl⟩
    simp [cv, Instr.sameBits]
theorem isNaN_spec (a : Int) (w : World) : Calls Try.prog n_cmp_isNaN_int #[.int .i64 a] w fun e w' => e = .returned (.bool false) ∧ w' = w := by
  apply cmp_isNaN_int.vc
  unfold cmp_isNaN_int.pre
  simp
theorem compare_spec (a b : Int) (w : World) : Calls Try.prog n_cmp_Compare_int #[.int .i64 a, .int .i64 b] w fun e w' => e = .returned (.int .i64 (if a < b then -1 else if b < a then 1 else 0)) ∧ w' = w := by
  apply cmp_Compare_int.vc
  refine (isNaN_spec a w).mono ?_
  rintro e w1 ⟨rfl, rfl⟩
  refine ⟨_, rfl, (isNaN_spec b w1).mono ?_⟩
  rintro e w2 ⟨rfl, rfl⟩
  refine ⟨_, rfl, Br.mk (fun h => by cases h) (fun _ => Br.mk (fun h => by cases h) (fun _ => Br.mk (fun h => ?_) (fun h => Br.mk (fun h2 => ?_) (fun h2 => ?_))))⟩
  · simp only [decide_eq_true_eq] at h
    rw [if_pos h]; exact ⟨rfl, rfl⟩
  · simp only [decide_eq_true_eq, decide_eq_false_iff_not] at h h2
    rw [if_neg h, if_pos h2]; exact ⟨rfl, rfl⟩
  · simp only [decide_eq_false_iff_not] at h h2
    rw [if_neg h, if_neg h2]; exact ⟨rfl, rfl⟩
/-- The first of two that is not 0. -/
theorem or2_spec (a b : Int) (g : Nat) (w : World) (hr : Row w g [.int .i64 a, .int .i64 b] 3) :
    Calls Try.prog n_cmp_Or_int #[.slice (some ⟨g, 0, none⟩) 2 2] w fun e w' => e = .returned (.int .i64 (if a = 0 then b else a)) ∧ w' = w := by
  apply (cmp_Or_int.vc (a0 := ⟨some ⟨g, 0, none⟩, 2, 2⟩))
  refine ⟨fun n x wr => wr = w ∧ ∃ k : Nat, x = k ∧ k + n = 2 ∧ (1 ≤ k → a = 0) ∧ (2 ≤ k → b = 0), ⟨2, rfl, 0, rfl, rfl, by omega, by omega⟩, ?_⟩
  rintro n us x wr ⟨rfl, k, rfl, hk, h1, h2⟩
  have hw := wrap_in (n := (k : Int) + 1) (by unfold inI; omega)
  rw [hw]
  refine Br.mk (fun h => ?_) (fun h => ?_) <;> simp only [decide_eq_true_eq, decide_eq_false_iff_not] at h
  · refine ⟨⟨rfl, by omega, by omega⟩, if k = 0 then a else b, ?_, Br.mk (fun h3 => ?_) (fun h3 => ?_)⟩
    · show ld wr (padd (some ⟨g, 0, none⟩) _) = _
      rw [padd_row, hr.ld]
      have : k = 0 ∨ k = 1 := by simp at h; omega
      rcases this with rfl | rfl <;> rfl
    · simp only [bne_iff_ne, ne_eq] at h3
      have : k = 0 ∨ k = 1 := by simp at h; omega
      rcases this with rfl | rfl
      · rw [if_pos rfl] at h3 ⊢
        rw [if_neg h3]; exact ⟨rfl, rfl⟩
      · rw [if_neg (show ¬((1 : Nat) = 0) by omega)] at h3 ⊢
        rw [if_pos (h1 (by omega))]; exact ⟨rfl, rfl⟩
    · simp only [bne_eq_false_iff_eq] at h3
      have : k = 0 ∨ k = 1 := by simp at h; omega
      rcases this with rfl | rfl
      · rw [if_pos rfl] at h3
        exact ⟨n - 1, by omega, rfl, 1, by omega, by omega, fun _ => h3, by omega⟩
      · rw [if_neg (show ¬((1 : Nat) = 0) by omega)] at h3
        exact ⟨n - 1, by omega, rfl, 2, by omega, by omega, fun _ => h1 (by omega), fun _ => h3⟩
  · have : k = 2 := by simp at h; omega
    subst this
    rw [if_pos (h1 (by omega)), h2 (by omega)]; exact ⟨rfl, rfl⟩
theorem push1_spec (x y : It) (w : World) : Calls Try.prog n_queue_Queue_push_1 #[.agg (itv x).toArray, .agg (itv y).toArray] w fun e w' => (∃ z : Int, e = .returned (.int .i64 z) ∧ (z < 0 ↔ x.1 ≤ y.1)) ∧ Ext w w' := by
  apply queue_Queue_push_1.vc
  intro w0 e0 w1 e1
  have x1 : Ext w w1 := by rw [e1, e0]; exact (Ext.al _ _).tr (Ext.al _ _)
  refine (compare_spec x.1 y.1 _).mono ?_
  intro e w2 hh
  obtain ⟨rfl, ew⟩ := hh
  have x2 : Ext w w2 := by rw [ew]; exact x1
  refine ⟨_, rfl, by rw [ew], by rw [ew], ?_⟩
  intro w4 e4
  have x4 : Ext w w4 := x2.of_alloc e4
  have hrow : Row w4 w2.heap.size [.int .i64 (if x.1 < y.1 then -1 else if y.1 < x.1 then 1 else 0), .int .i64 (-1)] 3 := by
    rw [e4]; exact Row.new w2 [_, _] _
  refine (or2_spec _ _ _ _ hrow).mono ?_
  intro e w5 hh
  obtain ⟨rfl, ew5⟩ := hh
  refine ⟨_, rfl, by rw [ew5], by rw [ew5], ⟨_, rfl, ?_⟩, by rw [ew5]; exact x4⟩
  by_cases h1 : x.1 < y.1
  · rw [if_pos h1]; simp; omega
  · by_cases h2 : y.1 < x.1
    · rw [if_neg h1, if_pos h2]; simp; omega
    · rw [if_neg h1, if_neg h2]; simp; omega
end Go.Proofs.Ytbphdgiepimmkaa
namespace Go.Proofs.Ytbphdgiepimmkaa
open Go Go.Vc Go.RowKit Go.Proofs Go.Que

theorem rows_wd (l : List It) : ∀ r ∈ l.map itv, r.length = 4 := by
  intro r hr; obtain ⟨x, _, rfl⟩ := List.mem_map.1 hr; rfl
theorem rows_one (l : List It) : ∀ r ∈ l.map itv, One r := by
  intro r hr; obtain ⟨x, _, rfl⟩ := List.mem_map.1 hr
  intro u hu; simp at hu
  rcases hu with rfl | rfl | rfl | rfl <;> rfl
theorem itv_one (x : It) : One (itv x) := by
  intro u hu; simp at hu
  rcases hu with rfl | rfl | rfl | rfl <;> rfl
theorem take_flat (l : List It) (i : Nat) : (l.map itv).flatten.take (i * 4) = ((l.take i).map itv).flatten := by
  have hw := rows_wd (l.take i)
  rcases Nat.lt_or_ge i l.length with h | h
  · conv => lhs; rw [← List.take_append_drop i l, List.map_append, List.flatten_append]
    rw [List.take_left' (by rw [flatten_len hw]; simp; omega)]
  · rw [List.take_of_length_le h, List.take_of_length_le]
    rw [flatten_len (rows_wd l)]; simp; omega
theorem drop_flat (l : List It) (i : Nat) : (l.map itv).flatten.drop (i * 4) = ((l.drop i).map itv).flatten := by
  rcases Nat.lt_or_ge i l.length with h | h
  · conv => lhs; rw [← List.take_append_drop i l, List.map_append, List.flatten_append]
    rw [List.drop_left' (by rw [flatten_len (rows_wd _)]; simp; omega)]
  · rw [List.drop_of_length_le h, List.drop_of_length_le]
    · rfl
    · rw [flatten_len (rows_wd l)]; simp; omega
/-- The cells of a slice's rest. -/
theorem rest_get {cs : List Value} {l : List It} {n : Nat} (ht : cs.take (n * 4) = (l.map itv).flatten) (hn : n = l.length) (i j : Nat) (hj : j < ((l.drop i).map itv).flatten.length) : cs[i * 4 + j]? = ((l.drop i).map itv).flatten[j]? := by
  rw [← drop_flat, List.getElem?_drop, ← ht, List.getElem?_take, if_pos]
  rw [flatten_len (rows_wd _)] at hj
  simp at hj
  omega
theorem overlaps_spec {w : World} {g g' : Nat} {x cs : List Value} (hx : Row w g x tItem) (hr : Row w g' cs tItem) (hne : g ≠ g') (hc : cs.length ≠ 0) (o : Nat) (la ca lb cb : Nat) {R : Ending → World → Prop} (h : R (.returned (.bool false)) w) :
    ExtC Try.prog 40 [.slice (some ⟨g, 0, none⟩) la ca, .slice (some ⟨g', o, none⟩) lb cb] w R := by
  refine ⟨_, ⟨_, rfl, by kernel_rfl, by kernel_rfl, by kernel_rfl⟩, _, _, Lib.run_overlaps_apart w 52 0 tItem (by kernel_rfl) 4 (fun w => by kernel_rfl) ⟨g, 0, none⟩ ⟨g', o, none⟩ la ca lb cb hne tItem tItem x.length cs.length ?_ ?_ hc ?_ ?_, h⟩
  · simp [World.shape?, show w.heap[g]? = _ from hx]
  · simp [World.shape?, show w.heap[g']? = _ from hr]
  · simp [World.frozen?, show w.heap[g]? = _ from hx]
  · simp [World.frozen?, show w.heap[g]? = _ from hx]
theorem overlaps_spec' {w : World} {g g' : Nat} {x cs : List Value} (hx : Row w g x tItem) (hr : Row w g' cs tItem) (hne : g ≠ g') (hc : cs.length ≠ 0) {p : Option Addr} {o : Nat} (hp : p = some ⟨g', o, none⟩) (la ca lb cb : Nat) {R : Ending → World → Prop} (h : R (.returned (.bool false)) w) :
    ExtC Try.prog 40 [.slice (some ⟨g, 0, none⟩) la ca, .slice p lb cb] w R := by
  subst hp; exact overlaps_spec hx hr hne hc o la ca lb cb h
end Go.Proofs.Ytbphdgiepimmkaa
namespace Go.Proofs.Ytbphdgiepimmkaa
open Go Go.Vc Go.RowKit Go.Proofs Go.Que

theorem zeroRows_it (n : Nat) : zeroRows [.int .i64 0, .int .i64 0, .int .i64 0, .int .i64 0] n = ((List.replicate n ((0, 0, 0, 0) : It)).map itv).flatten := by
  unfold zeroRows; simp
/-- An item put between. -/
theorem Insert_spec {w : World} {s : Sl} {l : List It} {i g : Nat} {x : It} (ho : OwnK 0 tItem 4 w s (l.map itv)) (hx : Row w g (itv x) tItem) (hi : i ≤ l.length) (hl : l.length ≤ 5000) (hne : s.blk ≠ some g) :
    Calls Try.prog n_slices_Insert_Item #[.slice s.a s.n s.c, .int .i64 (i : Int), .slice (some ⟨g, 0, none⟩) 1 1] w fun e w' => ∃ s' : Sl, e = .returned (.slice s'.a s'.n s'.c) ∧ OwnK 0 tItem 4 w' s' ((l.take i ++ x :: l.drop i).map itv) ∧ Mod (fun b => s.blk = some b) w w' ∧ (∀ b, s'.blk = some b → s.blk = some b ∨ w.heap.size ≤ b) := by
  have hn : s.n = l.length := by rw [(ho.rd (by decide)).n, List.length_map]
  apply slices_Insert_Item.vc (a2 := ⟨some ⟨g, 0, none⟩, 1, 1⟩)
  have hw1 : IntKind.wrap .i64 (((s.n : Nat) : Int) + ((1 : Nat) : Int)) = ((s.n + 1 : Nat) : Int) := by rw [wrap_in (by unfold inI; omega)]; omega
  have hw2 : IntKind.wrap .i64 ((i : Int) + ((1 : Nat) : Int)) = ((i + 1 : Nat) : Int) := by rw [wrap_in (by unfold inI; omega)]; omega
  have hw3 : IntKind.wrap .i64 (((s.n + 1 : Nat) : Int) - (i : Int)) = ((s.n + 1 - i : Nat) : Int) := by rw [wrap_in (by unfold inI; omega)]; omega
  have hw4 : IntKind.wrap .i64 ((s.n + 1 - i : Nat) : Int) = ((s.n + 1 - i : Nat) : Int) := wrap_in (by unfold inI; omega)
  have hrx : Rd w (some ⟨g, 0, none⟩) (itv x) := hx.rd0 fun j hj => rfl
  unfold slices_Insert_Item.pre
  dsimp only
  rw [hw1, hw2, hw3, hw4]
  simp only [Int.toNat_natCast, Nat.sub_zero, slBase_zero]
  refine ⟨by omega, by omega, Br.mk (fun h => by cases h) (fun _ => Br.mk (fun h => ?_) (fun h => ?_))⟩
  · -- behind the last
    have he : i = l.length := by simp at h; omega
    obtain ⟨hp, hr⟩ := ho.append (bytes := 32) (news := itv x) (Nat.zero_le _) rfl (itv_one x) (by omega) (by omega)
    refine ⟨itv x, hrx, hp, fun s' w' hres => ?_⟩
    obtain ⟨h1, h2, h3, h4, h5⟩ := hr s' w' hres
    refine ⟨s', rfl, ?_, Mod.of_app h3 h4, ?_⟩
    · rw [he, List.take_length, List.drop_length, List.map_append]; exact h1
    · intro b hb
      rcases h5 with h5 | h5
      · exact .inl (h5 ▸ hb)
      · rw [h5] at hb; cases hb; exact .inr (Nat.le_refl _)
  · have hlt : i < l.length := by
      have : i ≠ l.length := fun e => by subst e; simp [hn] at h
      omega
    rcases ho.form (by decide) with ⟨hs, hnil⟩ | ⟨g0, cs, ha, hg0, hr, hc, hnc, ht, hn'⟩
    · have : l = [] := by simpa using hnil
      subst this; simp at hlt
    have hneg : g0 ≠ g := fun e => hne (by unfold Sl.blk; rw [ha, e]; rfl)
    have hblk : s.blk = some g0 := by unfold Sl.blk; rw [ha]; rfl
    have htk : cs.take (i * 4) = ((l.take i).map itv).flatten := by
      rw [← take_flat, ← ht, List.take_take, Nat.min_eq_left (by omega)]
    rw [ha]
    refine Br.mk (fun h2 => ?_) (fun h2 => ?_)
    · -- no room: another block
      simp only [decide_eq_true_eq] at h2
      have hpre : OwnK 0 tItem 4 w ⟨some ⟨g0, 0, none⟩, i, s.c⟩ ((l.take i).map itv) := OwnK.of_row (Nat.zero_le _) hr hc (by omega) htk (rows_wd _)
      obtain ⟨hp, -⟩ := hpre.appN (bytes := 32) (more := (List.replicate (s.n + 1 - i) ((0, 0, 0, 0) : It)).map itv) (Nat.zero_le _) (rows_wd _) (rows_one _) (by simp; omega) (by simp; omega)
      have hlen : ((List.replicate (s.n + 1 - i) ((0, 0, 0, 0) : It)).map itv).length = s.n + 1 - i := by simp
      rw [hlen] at hp
      rw [zeroRows_it]
      refine ⟨by omega, by omega, ⟨by omega, trivial, by omega⟩, hp, fun s3 w4 hres => ?_⟩
      generalize hz : ((List.replicate (s.n + 1 - i) ((0, 0, 0, 0) : It)).map itv).flatten = zs at hres
      have hzl : zs.length = (s.n + 1 - i) * 4 := by rw [← hz, flatten_len (rows_wd _)]; simp
      cases hres with
      | fits hf => simp only at hf; omega
      | grows hg olds rest cap q1 q2 q3 q4 =>
        simp only at q1 q2 q3
        have hold : olds = cs.take (i * 4) := by
          refine Rd_unique q2 (hr.rd0 (vs := cs.take (i * 4)) fun j hj => ?_) ?_
          · rw [List.length_take] at hj
            rw [List.getElem?_take, if_pos (by omega)]
          · rw [q1, List.length_take]; omega
        have hR : Row (w.drew.alloc (.cells (olds ++ zs ++ rest).toArray tItem)) w.heap.size (olds ++ zs ++ rest) tItem := Row.new w.drew _ _
        generalize hw4' : w.drew.alloc (.cells (olds ++ zs ++ rest).toArray tItem) = w4 at hR
        have x4 : Ext w w4 := by rw [← hw4']; exact (Ext.dr w).tr (Ext.al _ _)
        have hr4 := hr.ext x4
        have hlt0 := hr.lt
        have hn3 : i + (s.n + 1 - i) = s.n + 1 := by omega
        have hCl : (s.n + 1) * 4 ≤ (olds ++ zs ++ rest).length := by rw [q4]; exact Nat.mul_le_mul_right _ (by omega)
        dsimp only
        rw [hn3]
        have hx4 := hx.ext x4
        have hsl : ((l.drop i).map itv).flatten.length = (s.n - i) * 4 := by rw [flatten_len (rows_wd _)]; simp; omega
        have hm1 : min 1 (s.n + 1 - i) * 4 = 4 := by have : min 1 (s.n + 1 - i) = 1 := by omega
                                                     rw [this]
        have hm2 : min (s.n - i) (s.n + 1 - (i + 1)) = s.n - i := by omega
        obtain ⟨p1, p2, p3⟩ := hR.poke (vs := itv x) (l := i) (m := cap) (size := 4) (by intro e; omega) (by simp; omega) (itv_one x)
        refine ⟨by omega, by omega, itv x, ⟨hm1.symm, hx4.rd0 fun j hj => rfl, itv_one x, p1⟩, ?_⟩
        intro w6 e6
        rw [← e6] at p2 p3
        have hr6 : Row w6.drew g0 cs tItem := (p3.row hr4 (by omega)).ext (Ext.dr _)
        have p2' : Row w6.drew w.heap.size _ tItem := p2.ext (Ext.dr _)
        obtain ⟨u1, u2, u3⟩ := p2'.poke (vs := ((l.drop i).map itv).flatten) (l := i + 1) (m := cap) (size := 4) (by intro e; rw [List.drop_of_length_le (by omega)]; rfl) (by rw [hsl, Go.Vc.putCells_length]; omega) (One_flatten (rows_one _))
        refine ⟨by omega, by omega, by omega, by omega, ((l.drop i).map itv).flatten, ⟨by rw [hm2, hsl], hr6.peek (by intro e; rw [List.drop_of_length_le (by omega)]; rfl) (rest_get ht hn i), One_flatten (rows_one _), u1⟩, ?_⟩
        intro w8 e8
        rw [← e8] at u2 u3
        refine ⟨⟨some ⟨w.heap.size, 0, none⟩, s.n + 1, cap⟩, rfl, OwnK.of_row (Nat.zero_le _) u2 (by rw [Go.Vc.putCells_length, Go.Vc.putCells_length, q4]; exact Nat.le_refl _) (by omega) ?_ (rows_wd _), ?_, ?_⟩
        · rw [two_puts (by simp; omega) (by rw [hsl]; omega) hCl, List.append_assoc, List.append_assoc, List.take_left' (by rw [q1]), hold, htk]
          simp
        · refine ((Mod.of_ext x4).tr p3 (fun b hb => .inr (by omega))).tr (F' := fun b => b = w.heap.size) ?_ (fun b hb => .inr (by omega))
          exact (Mod.of_ext (Ext.dr _)).trans u3
        · intro b hb
          have : w.heap.size = b := by simpa [Sl.blk] using hb
          exact .inr (by omega)
    · -- within
      simp only [decide_eq_false_iff_not] at h2
      have hCl : (s.n + 1) * 4 ≤ cs.length := Nat.le_trans (Nat.mul_le_mul_right _ (by omega)) hc
      have hsl : ((l.drop i).map itv).flatten.length = (s.n - i) * 4 := by rw [flatten_len (rows_wd _)]; simp; omega
      refine ⟨by omega, by omega, by omega, by omega, ?_⟩
      refine overlaps_spec' hx hr (Ne.symm hneg) (by omega) (by rw [slBase_row, if_neg (by omega)]) _ _ _ _ ⟨_, rfl, Br.mk (fun _ => ?_) (fun h => by cases h)⟩
      have hm2 : min (s.n + 1 - i) (s.n + 1 - (i + 1)) = s.n - i := by omega
      have hm1 : min 1 (s.n + 1 - i) * 4 = 4 := by have : min 1 (s.n + 1 - i) = 1 := by omega
                                                   rw [this]
      have hr' := hr.ext (Ext.dr w)
      obtain ⟨u1, u2, u3⟩ := hr'.poke (vs := ((l.drop i).map itv).flatten) (l := i + 1) (m := s.c) (size := 4) (by intro e; omega) (by rw [hsl]; omega) (One_flatten (rows_one _))
      refine ⟨by omega, by omega, by omega, by omega, ((l.drop i).map itv).flatten, ⟨by rw [hm2, hsl], hr'.peek (by intro e; omega) (rest_get ht hn i), One_flatten (rows_one _), u1⟩, ?_⟩
      intro w12 e12
      rw [← e12] at u2 u3
      obtain ⟨p1, p2, p3⟩ := u2.poke (vs := itv x) (l := i) (m := s.c) (size := 4) (by intro e; omega) (by rw [Go.Vc.putCells_length]; simp; omega) (itv_one x)
      have hx12 : Row w12 g (itv x) tItem := u3.row (hx.ext (Ext.dr w)) (Ne.symm hneg)
      refine ⟨by omega, by omega, itv x, ⟨hm1.symm, hx12.rd0 fun j hj => rfl, itv_one x, p1⟩, ?_⟩
      intro w14 e14
      rw [← e14] at p2 p3
      refine ⟨⟨some ⟨g0, 0, none⟩, s.n + 1, s.c⟩, rfl, OwnK.of_row (Nat.zero_le _) p2 (by rw [Go.Vc.putCells_length, Go.Vc.putCells_length]; exact hc) (by omega) ?_ (rows_wd _), ?_, ?_⟩
      · rw [two_puts' (by simp; omega) (by rw [hsl]; omega) hCl, htk]
        simp
      · refine (((Mod.of_ext (Ext.dr w)).trans u3).trans p3).mono fun b _ hb => ?_
        rw [hblk, hb]
      · intro b hb; exact .inl (hblk.trans hb)
end Go.Proofs.Ytbphdgiepimmkaa
namespace Go.Proofs.Ytbphdgiepimmkaa
open Go Go.Vc Go.RowKit Go.Proofs Go.Que

theorem RdK.item {w : World} {s : Sl} {l : List It} (h : RdK w s 4 (l.map itv)) {i : Nat} {x : It} (hi : l[i]? = some x) : LoadL w (padd s.a (i * 4)) 0 (itv x) :=
  h.loadL (by rw [List.getElem?_map, hi]; rfl)
/-- Where an item belongs: behind those of its tick. -/
theorem Bin_spec {w : World} {s : Sl} {l : List It} (x : It) (h : RdK w s 4 (l.map itv)) (hs : l.Pairwise fun a b => a.1 ≤ b.1) (hl : l.length ≤ 5000) :
    Calls Try.prog n_slices_BinarySearchFunc_Item #[.slice s.a s.n s.c, .agg (itv x).toArray, .func (.func 32) #[] #[]] w fun e w' => (∃ b, e = .returned (.tuple #[.int .i64 ((l.takeWhile fun y => y.1 ≤ x.1).length : Nat), .bool b])) ∧ Ext w w' := by
  have hn : s.n = l.length := by rw [h.n, List.length_map]
  apply slices_BinarySearchFunc_Item.vc
  intro w0 e0
  have x0 : Ext w w0 := (Ext.rfl' w).of_alloc e0
  have hs0 : w0.heap.size = w.heap.size + 1 := by rw [e0]; simp [World.alloc_eq]
  have hk : (l.takeWhile fun y => decide (y.1 ≤ x.1)).length ≤ l.length := (List.takeWhile_sublist _).length_le
  generalize hkk : (l.takeWhile fun y => decide (y.1 ≤ x.1)).length = k at hk
  have hat : ∀ {i : Nat} {y : It}, l[i]? = some y → (i < k ↔ y.1 ≤ x.1) := fun hi => by rw [← hkk]; exact takeWhile_at hs x.1 hi
  refine ⟨fun n a b wr => Ext w0 wr ∧ ∃ lo hi : Nat, a = lo ∧ b = hi ∧ lo ≤ k ∧ k ≤ hi ∧ hi ≤ l.length ∧ n = hi - lo, ⟨_, rfl, Ext.rfl' _, 0, s.n, rfl, rfl, Nat.zero_le _, by omega, by omega, rfl⟩, ?_⟩
  rintro n us a b wr ⟨xr, lo, hi, rfl, rfl, h1, h2, h3, rfl⟩
  refine Br.mk (fun hlt => ?_) (fun hge => ?_) <;> simp only [decide_eq_true_eq, decide_eq_false_iff_not] at *
  · rw [mid_eq (by omega)]
    have hmid : (lo + hi) / 2 < l.length := by omega
    have hget : l[(lo + hi) / 2]? = some l[(lo + hi) / 2] := List.getElem?_eq_getElem hmid
    generalize l[(lo + hi) / 2] = y at hget
    have hr := (h.ext (x0.tr xr)).ext (Ext.dr wr)
    have hsz := xr.size
    refine ⟨⟨?_, by omega, by omega⟩, y.1, y.2.1, y.2.2.1, y.2.2.2, RdK.item hr hget, ?_⟩
    · exact h.isSome (by decide) (i := (lo + hi) / 2) (by simpa using hmid)
    refine callV_of (by kernel_rfl) rfl ((push1_spec y x _).mono ?_)
    rintro e w2 ⟨⟨z, rfl, hz⟩, x2⟩
    have hz' := (hat hget).trans hz.symm
    have x3 := (xr.tr (Ext.dr wr)).tr x2
    refine ⟨z, rfl, (x2.heap ?_), Br.mk (fun hb => ?_) (fun hb => ?_)⟩
    · show w.heap.size < wr.heap.size
      omega
    · simp only [decide_eq_true_eq] at hb
      have := hz'.2 hb
      have hw : IntKind.wrap .i64 ((((lo + hi) / 2 : Nat) : Int) + 1) = (((lo + hi) / 2 + 1 : Nat) : Int) := by rw [wrap_in (by unfold inI; omega)]; omega
      rw [hw]
      exact ⟨_, by omega, trivial, x3, (lo + hi) / 2 + 1, hi, rfl, rfl, by omega, h2, h3, rfl⟩
    · simp only [decide_eq_false_iff_not] at hb
      have : ¬ (lo + hi) / 2 < k := fun h => hb (hz'.1 h)
      exact ⟨_, by omega, trivial, x3, lo, (lo + hi) / 2, rfl, rfl, h1, by omega, by omega, rfl⟩
  · have : lo = k := by omega
    subst this
    have hr := (h.ext (x0.tr xr)).ext (Ext.dr wr)
    have hsz := xr.size
    refine Br.mk (fun hb => ?_) (fun hb => ⟨⟨_, rfl⟩, x0.tr (xr.tr (Ext.dr _))⟩)
    simp only [decide_eq_true_eq] at hb
    have hget : l[lo]? = some (l[lo]'(by omega)) := List.getElem?_eq_getElem (by omega)
    generalize l[lo]'(by omega) = y at hget
    refine ⟨⟨h.isSome (by decide) (i := lo) (by simp; omega), by omega, by omega⟩, y.1, y.2.1, y.2.2.1, y.2.2.2, RdK.item hr hget, ?_⟩
    refine callV_of (by kernel_rfl) rfl ((push1_spec y x _).mono ?_)
    rintro e w2 ⟨⟨z, rfl, hz⟩, x2⟩
    refine ⟨z, rfl, x2.heap (show w.heap.size < wr.heap.size by omega), ⟨_, rfl⟩, (x0.tr (xr.tr (Ext.dr wr))).tr x2⟩
/-- The first item of a cell. -/
theorem drop1_spec (x : It) {b : Nat} {c : Cl} {w : World} (hb : Row w b (clv c) tCell) : Calls Try.prog n_queue_Queue_Drop_1 #[.agg (itv x).toArray, .pointer (some ⟨b, 0, none⟩)] w fun e w' => e = .returned (.bool (x.2 == c)) ∧ Ext w w' := by
  apply queue_Queue_Drop_1.vc
  intro w0 e0
  have x0 : Ext w w0 := (Ext.rfl' w).of_alloc e0
  exact ⟨c.1, c.2.1, c.2.2, (hb.ext x0).loadL (fun j hj => by rw [Nat.zero_add]), rfl, x0⟩
theorem Index_spec {w : World} {s : Sl} {l : List It} {b : Nat} {c : Cl} (h : RdK w s 4 (l.map itv)) (hb : Row w b (clv c) tCell) (hl : l.length ≤ 5000) :
    Calls Try.prog n_slices_IndexFunc_Item #[.slice s.a s.n s.c, .func (.func 30) #[] #[.pointer (some ⟨b, 0, none⟩)]] w fun e w' => (∃ i : Int, e = .returned (.int .i64 i) ∧ ((i = -1 ∧ ∀ x ∈ l, x.2 ≠ c) ∨ ∃ k : Nat, i = k ∧ k < l.length ∧ (∀ x ∈ l.take k, x.2 ≠ c) ∧ ∀ x, l[k]? = some x → x.2 = c)) ∧ Ext w w' := by
  have hn : s.n = l.length := by rw [h.n, List.length_map]
  apply slices_IndexFunc_Item.vc
  refine ⟨fun n a wr => Ext w wr ∧ ∃ k : Nat, a = k ∧ k + n = l.length ∧ (∀ x ∈ l.take k, x.2 ≠ c), ⟨l.length, Ext.rfl' _, 0, rfl, by omega, by simp⟩, ?_⟩
  rintro n us a wr ⟨xr, k, rfl, h1, h2⟩
  refine Br.mk (fun hlt => ?_) (fun hge => ?_) <;> simp only [decide_eq_true_eq, decide_eq_false_iff_not] at *
  · have hget : l[k]? = some (l[k]'(by omega)) := List.getElem?_eq_getElem (by omega)
    generalize l[k]'(by omega) = y at hget
    refine ⟨⟨h.isSome (by decide) (i := k) (by simp; omega), by omega, by omega⟩, y.1, y.2.1, y.2.2.1, y.2.2.2, RdK.item (h.ext xr) hget, ?_⟩
    refine callV_of (by kernel_rfl) rfl ((drop1_spec y (hb.ext xr)).mono ?_)
    rintro e w2 ⟨rfl, x2⟩
    refine ⟨_, rfl, Br.mk (fun hb => ?_) (fun hb => ?_)⟩
    · refine ⟨⟨_, rfl, .inr ⟨k, rfl, by omega, h2, fun x hx => ?_⟩⟩, xr.tr x2⟩
      rw [hget] at hx; cases hx; simpa using hb
    · have hw : IntKind.wrap .i64 ((k : Int) + 1) = ((k + 1 : Nat) : Int) := by rw [wrap_in (by unfold inI; omega)]; omega
      rw [hw]
      refine ⟨n - 1, by omega, xr.tr x2, k + 1, rfl, by omega, fun x hx => ?_⟩
      rw [List.take_add_one, hget] at hx
      rcases List.mem_append.1 hx with hx | hx
      · exact h2 x hx
      · simp at hx; subst hx; simpa using hb
  · refine ⟨⟨_, rfl, .inl ⟨rfl, ?_⟩⟩, xr⟩
    rw [List.take_of_length_le (by omega)] at h2
    exact h2
end Go.Proofs.Ytbphdgiepimmkaa
namespace Go.Proofs.Ytbphdgiepimmkaa
open Go Go.Vc Go.RowKit Go.Proofs Go.Que

/-- A slice cut, the cells behind it cleared. -/
theorem clear_tail {w : World} {s : Sl} {l : List It} (ho : OwnK 0 tItem 4 w s (l.map itv)) {i : Nat} (hi : i ≤ l.length) :
    Wr w (slBase s.a i s.c 4) ((s.n - i) * 4) ∧ ∀ w', w' = setP w (slBase s.a i s.c 4) (zeroRows [.int .i64 0, .int .i64 0, .int .i64 0, .int .i64 0] (s.n - i)) →
      OwnK 0 tItem 4 w' ⟨s.a, i, s.c⟩ ((l.take i).map itv) ∧ Mod (fun b => s.blk = some b) w w' := by
  have hn : s.n = l.length := by rw [(ho.rd (by decide)).n, List.length_map]
  rw [zeroRows_it]
  rcases ho.form (by decide) with ⟨hs, hnil⟩ | ⟨g0, cs, ha, hg0, hr, hc, hnc, ht, hn'⟩
  · have : l = [] := by simpa using hnil
    subst this
    have : i = 0 := by simpa using hi
    subst this
    subst hs
    refine ⟨fun j hj => by simp at hj, fun w' e => ?_⟩
    have : w' = w := by rw [e]; rfl
    subst this
    exact ⟨OwnK.nil, Mod.refl _ _⟩
  · have hblk : s.blk = some g0 := by unfold Sl.blk; rw [ha]; rfl
    have hzl : ((List.replicate (s.n - i) ((0, 0, 0, 0) : It)).map itv).flatten.length = (s.n - i) * 4 := by rw [flatten_len (rows_wd _)]; simp
    have hcl : s.n * 4 ≤ cs.length := Nat.le_trans (Nat.mul_le_mul_right _ hnc) hc
    rw [ha]
    have hz0 : s.c = i → ((List.replicate (s.n - i) ((0, 0, 0, 0) : It)).map itv).flatten = [] := fun e => by
      have : s.n - i = 0 := by omega
      rw [this]; rfl
    obtain ⟨p1, p2, p3⟩ := hr.poke (l := i) (m := s.c) (size := 4) hz0 (by rw [hzl]; omega) (One_flatten (rows_one _))
    rw [hzl] at p1
    refine ⟨p1, fun w' e => ?_⟩
    rw [← e] at p2 p3
    refine ⟨OwnK.of_row (Nat.zero_le _) p2 (by rw [Go.Vc.putCells_length]; exact hc) (by omega) ?_ (rows_wd _), p3.mono fun b _ hb => by rw [hblk, hb]⟩
    rw [putCells_eq _ _ _ (by rw [hzl]; omega), List.append_assoc, List.take_left' (by rw [List.length_take]; omega), ← take_flat, ← ht, List.take_take, Nat.min_eq_left (by omega)]
/-- An item written over another. -/
theorem put_item {w : World} {s : Sl} {l : List It} (ho : OwnK 0 tItem 4 w s (l.map itv)) {i : Nat} (hi : i < l.length) (x : It) :
    (padd s.a (i * 4)).isSome = true ∧ Wr w (padd s.a (i * 4)) 4 ∧ ∀ w', w' = setP w (padd s.a (i * 4)) (itv x) → OwnK 0 tItem 4 w' s ((l.set i x).map itv) ∧ Mod (fun b => s.blk = some b) w w' := by
  obtain ⟨h1, h2, h3, h4, h5⟩ := ho.put (i := i) (r := itv x) (by simpa using hi) (by decide) rfl (itv_one x)
  refine ⟨h1, h2, fun w' e => ?_⟩
  subst e
  exact ⟨by rw [List.map_set]; exact h3, h4.os, h4.tape, h4.output, h4.size, fun j _ hn => h5 j hn⟩
theorem DeleteFunc_spec {w : World} {s : Sl} {l : List It} {b : Nat} {c : Cl} (ho : OwnK 0 tItem 4 w s (l.map itv)) (hb : Row w b (clv c) tCell) (hl : l.length ≤ 5000) :
    Calls Try.prog n_slices_DeleteFunc_Item #[.slice s.a s.n s.c, .func (.func 30) #[] #[.pointer (some ⟨b, 0, none⟩)]] w fun e w' => ∃ s' : Sl, e = .returned (.slice s'.a s'.n s'.c) ∧ OwnK 0 tItem 4 w' s' ((qdrop l c).map itv) ∧ Mod (fun b => s.blk = some b) w w' ∧ s'.blk = s.blk := by
  have hn : s.n = l.length := by rw [(ho.rd (by decide)).n, List.length_map]
  have hsb : s.blk ≠ some b := fun e => by
    rcases ho.form (by decide) with ⟨hs, hnil⟩ | ⟨g0, cs, ha, hg0, hr, hc, hnc, ht, hn'⟩
    · rw [hs] at e; cases e
    · have : g0 = b := by unfold Sl.blk at e; rw [ha] at e; simpa using e
      exact hr.ne hb (by decide) this
  apply slices_DeleteFunc_Item.vc
  refine (Index_spec (ho.rd (by decide)) hb hl).mono ?_
  rintro e w1 ⟨⟨i, rfl, hi⟩, x1⟩
  refine ⟨i, rfl, Br.mk (fun h => ?_) (fun h => ?_)⟩
  · have hm : i = -1 := by simpa using h
    rcases hi with ⟨-, hall⟩ | ⟨k, hk, -⟩
    · refine ⟨s, rfl, ?_, Mod.of_ext x1, rfl⟩
      have : qdrop l c = l := by
        unfold qdrop; rw [List.filter_eq_self]; intro x hx; simpa using hall x hx
      rw [this]; exact ho.ext x1
    · omega
  · have hm : i ≠ -1 := by simpa using h
    rcases hi with ⟨hi, -⟩ | ⟨k, rfl, hk, hfst, hkc⟩
    · exact absurd hi hm
    have hw : IntKind.wrap .i64 ((k : Int) + 1) = ((k + 1 : Nat) : Int) := by rw [wrap_in (by unfold inI; omega)]; omega
    have hq : qdrop (l.take (k + 1)) c = l.take k := by
      unfold qdrop
      rw [List.take_add_one, List.filter_append]
      have e1 : (l.take k).filter (fun x => x.2 != c) = l.take k := by rw [List.filter_eq_self]; intro x hx; simpa using hfst x hx
      have hget : l[k]? = some (l[k]'hk) := List.getElem?_eq_getElem hk
      have := hkc _ hget
      rw [e1, hget]; simp [this]
    refine ⟨fun n a d wr => Mod (fun b => s.blk = some b) w wr ∧ ∃ (j m : Nat) (l' : List It), a = j ∧ d = m ∧ j + n = l.length ∧ m < j ∧ m = (qdrop (l.take j) c).length ∧ OwnK 0 tItem 4 wr s (l'.map itv) ∧ l'.length = l.length ∧ l'.take m = qdrop (l.take j) c ∧ l'.drop j = l.drop j, ⟨l.length - (k + 1), Mod.of_ext x1, k + 1, k, l, hw, rfl, by omega, by omega, ?_, ho.ext x1, rfl, hq.symm, rfl⟩, ?_⟩
    · rw [hq, List.length_take]; omega
    rintro n us a d wr ⟨hmod, j, m, l', rfl, rfl, h1, h2, h3, ho', h4, h5, h6⟩
    have hbr : Row wr b (clv c) tCell := hmod.row hb hsb
    refine Br.mk (fun hlt => ?_) (fun hge => ?_)
    · simp only [decide_eq_true_eq] at hlt
      have hget : l[j]? = some (l[j]'(by omega)) := List.getElem?_eq_getElem (by omega)
      generalize l[j]'(by omega) = y at hget
      have hget' : l'[j]? = some y := by
        have := congrArg (fun q : List It => q[0]?) h6
        simpa [List.getElem?_drop, hget] using this
      refine ⟨⟨(ho'.rd (by decide)).isSome (by decide) (i := j) (by simp; omega), by omega, by omega⟩, y.1, y.2.1, y.2.2.1, y.2.2.2, RdK.item (ho'.rd (by decide)) hget', ?_⟩
      intro w13 e13 w14 e14
      have x14 : Ext wr w14 := (Ext.rfl' wr |>.of_alloc e13).of_setRow e14 (Nat.le_refl _)
      have hs14 : wr.heap.size < w14.heap.size := by rw [e14, setRow_size, e13]; simp
      refine callV_of (by kernel_rfl) rfl ((drop1_spec y (hbr.ext x14)).mono ?_)
      rintro e w2 ⟨rfl, x2⟩
      have x3 := x14.tr x2
      have hwj : IntKind.wrap .i64 ((j : Int) + 1) = ((j + 1 : Nat) : Int) := by rw [wrap_in (by unfold inI; omega)]; omega
      have hwm : IntKind.wrap .i64 ((m : Int) + 1) = ((m + 1 : Nat) : Int) := by rw [wrap_in (by unfold inI; omega)]; omega
      have hqj : qdrop (l.take (j + 1)) c = qdrop (l.take j) c ++ (if y.2 = c then [] else [y]) := by
        unfold qdrop
        rw [List.take_add_one, hget, List.filter_append]
        congr 1
        by_cases hy : y.2 = c <;> simp [hy]
      refine ⟨_, rfl, x2.heap hs14, Br.mk (fun hb2 => ?_) (fun hb2 => ?_)⟩
      · have hy : y.2 ≠ c := by simpa using hb2
        obtain ⟨p1, p2, p3⟩ := put_item (ho'.ext x3) (i := m) (by omega) y
        refine ⟨⟨(ho'.rd (by decide)).isSome (by decide) (i := m) (by simp; omega), by omega, by omega⟩, ⟨p1, p2⟩, ?_, ?_⟩
        · rw [pblk_padd]
          intro e
          have := ho'.own.lt (g := wr.heap.size) e
          omega
        · intro w17 e17
          obtain ⟨q1, q2⟩ := p3 w17 e17
          rw [hwj, hwm]
          refine ⟨n - 1, by omega, (hmod.trans (Mod.of_ext x3)).trans q2, j + 1, m + 1, l'.set m y, rfl, rfl, by omega, by omega, ?_, q1, by rw [List.length_set, h4], ?_, ?_⟩
          · rw [hqj, if_neg hy, List.length_append, ← h3]; rfl
          · rw [hqj, if_neg hy, ← h5, List.take_add_one, List.take_set_of_le (Nat.le_refl _), List.getElem?_set_self (by omega)]; rfl
          · rw [List.drop_set_of_lt (by omega)]
            have := congrArg (List.drop 1) h6
            simpa [List.drop_drop] using this
      · have hy : y.2 = c := by simpa using hb2
        rw [hwj]
        refine ⟨n - 1, by omega, hmod.trans (Mod.of_ext x3), j + 1, m, l', rfl, rfl, by omega, by omega, ?_, ho'.ext x3, h4, ?_, ?_⟩
        · rw [hqj, if_pos hy, List.append_nil]; exact h3
        · rw [hqj, if_pos hy, List.append_nil]; exact h5
        · have := congrArg (List.drop 1) h6
          simpa [List.drop_drop] using this
    · simp only [decide_eq_false_iff_not] at hge
      have hj : j = l.length := by omega
      have hcap := (ho'.form (by decide))
      have hnc : s.n ≤ s.c := by
        rcases hcap with ⟨hs, -⟩ | ⟨g0, cs, ha, hg0, hr, hc, hnc, ht, hn'⟩
        · rw [hs]; exact Nat.le_refl _
        · exact hnc
      obtain ⟨p1, p2⟩ := clear_tail ho' (i := m) (by omega)
      refine ⟨by omega, by omega, p1, fun w18 e18 => ?_⟩
      obtain ⟨q1, q2⟩ := p2 w18 e18
      refine ⟨by omega, by omega, ⟨s.a, m, s.c⟩, ?_, ?_, hmod.trans q2, rfl⟩
      · rw [slBase_zero]; rfl
      · rw [h5, hj, List.take_length] at q1; exact q1
/-- The first n items out. -/
theorem Delete_spec {w : World} {s : Sl} {l : List It} {n : Nat} (ho : OwnK 0 tItem 4 w s (l.map itv)) (hi : n ≤ l.length) (hl : l.length ≤ 5000) :
    Calls Try.prog n_slices_Delete_Item #[.slice s.a s.n s.c, .int .i64 0, .int .i64 (n : Int)] w fun e w' => ∃ s' : Sl, e = .returned (.slice s'.a s'.n s'.c) ∧ OwnK 0 tItem 4 w' s' ((l.drop n).map itv) ∧ Mod (fun b => s.blk = some b) w w' ∧ s'.blk = s.blk := by
  have hn : s.n = l.length := by rw [(ho.rd (by decide)).n, List.length_map]
  have hnc : s.n ≤ s.c := by
    rcases ho.form (by decide) with ⟨hs, -⟩ | ⟨g0, cs, ha, hg0, hr, hc, hnc, ht, hn'⟩
    · rw [hs]; exact Nat.le_refl _
    · exact hnc
  apply slices_Delete_Item.vc
  refine ⟨by omega, by omega, by omega, by omega, by omega, by omega, Br.mk (fun h => ?_) (fun h => ?_)⟩
  · have : n = 0 := by have : (0 : Int) = n := by simpa using h
                       omega
    subst this
    exact ⟨s, rfl, ho, Mod.refl _ _, rfl⟩
  · have hpos : 0 < n := by
      have : (0 : Int) ≠ n := by simpa using h
      omega
    rcases ho.form (by decide) with ⟨hs, hnil⟩ | ⟨g0, cs, ha, hg0, hr, hc, hnc, ht, hn'⟩
    · have : l = [] := by simpa using hnil
      subst this; simp at hi; omega
    have hblk : s.blk = some g0 := by unfold Sl.blk; rw [ha]; rfl
    have hsl : ((l.drop n).map itv).flatten.length = (s.n - n) * 4 := by rw [flatten_len (rows_wd _)]; simp; omega
    have hcl : s.n * 4 ≤ cs.length := Nat.le_trans (Nat.mul_le_mul_right _ hnc) hc
    have hr' := hr.ext (Ext.dr w)
    simp only [Int.toNat_natCast, Nat.sub_zero, slBase_zero, Int.toNat_zero]
    rw [ha]
    refine ⟨by omega, by omega, by omega, by omega, ((l.drop n).map itv).flatten, ?_, ?_, ?_⟩
    · exact hr'.peek (by intro e; rw [List.drop_of_length_le (by omega)]; rfl) (rest_get ht hn n)
    · refine ⟨fun _ => ?_, fun h => ?_, fun h => ?_, hsl, One_flatten (rows_one _)⟩
      · show Wr _ (padd (some ⟨g0, 0, none⟩) (0 * 4)) _
        rw [padd_row]; exact hr'.wr (by rw [hsl]; omega)
      · simp only at h; omega
      · simp only at h; omega
    · intro s1 w2 hres
      cases hres with
      | grows hg => simp only at hg; omega
      | fits hf =>
        dsimp only
        have e0 : padd (some (⟨g0, 0, none⟩ : Addr)) (0 * 4) = some ⟨g0, 0, none⟩ := by rw [padd_row]
        rw [e0]
        have hset := hr'.setP (o := 0) (vs := ((l.drop n).map itv).flatten) (by rw [hsl]; omega) (One_flatten (rows_one _))
        have hr2 : Row (Go.Vc.setP w.drew (some ⟨g0, 0, none⟩) ((l.drop n).map itv).flatten) g0 (putCells cs 0 ((l.drop n).map itv).flatten) tItem := by rw [hset]; exact hr'.set _
        have hm2 : Mod (fun i => i = g0) w (Go.Vc.setP w.drew (some ⟨g0, 0, none⟩) ((l.drop n).map itv).flatten) := by
          rw [hset]
          exact (Mod.of_ext (Ext.dr w)).trans ⟨rfl, rfl, rfl, by rw [setRow_size]; exact Nat.le_refl _, fun i _ hn => setRow_other _ _ _ _ hn⟩
        generalize Go.Vc.setP w.drew (some ⟨g0, 0, none⟩) ((l.drop n).map itv).flatten = w2 at hr2 hm2
        have hz : 0 + (s.n - n) = s.n - n := by omega
        rw [hz]
        have hown : OwnK 0 tItem 4 w2 ⟨some ⟨g0, 0, none⟩, s.n, s.c⟩ ((l.drop n ++ l.drop (l.length - n)).map itv) := by
          refine OwnK.of_row (Nat.zero_le _) hr2 (by rw [Go.Vc.putCells_length]; exact hc) hnc ?_ (rows_wd _)
          rw [putCells_eq _ _ _ (by rw [hsl]; omega), List.map_append, List.flatten_append, List.take_zero, List.nil_append]
          rw [List.take_append, List.take_of_length_le (by rw [hsl]; omega), hsl, Nat.zero_add, ← drop_flat l (l.length - n), ← ht]
          congr 1
          rw [List.drop_take, hn]
        obtain ⟨p1, p2⟩ := clear_tail hown (i := s.n - n) (by simp; omega)
        have hnn : ((s.n : Nat) : Int).toNat - (((s.n - n : Nat) : Nat) : Int).toNat = s.n - (s.n - n) := by omega
        refine ⟨by omega, by omega, by omega, by omega, p1, fun w3 e3 => ?_⟩
        obtain ⟨q1, q2⟩ := p2 w3 e3
        refine ⟨⟨some ⟨g0, 0, none⟩, s.n - n, s.c⟩, rfl, ?_, ?_, hblk.symm⟩
        · rw [List.take_left' (by simp; omega)] at q1; exact q1
        · refine (hm2.mono fun b _ hb => by rw [hblk, hb]).trans (q2.mono fun b _ hb => ?_)
          have : g0 = b := by simpa [Sl.blk] using hb
          rw [hblk, this]
end Go.Proofs.Ytbphdgiepimmkaa
