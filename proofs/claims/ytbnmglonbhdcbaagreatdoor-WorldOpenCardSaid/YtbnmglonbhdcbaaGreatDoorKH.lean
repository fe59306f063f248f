import Derived.Test.YtbnmglonbhdcbaaGreatDoorKG
import Derived.Test.YtbnmglonbhdcbaaGreatDoorGC
set_option linter.all false
namespace Go.Proofs.YtbnmglonbhdcbaaGreatDoor
open Go Go.Vc Go.RowKit Go.Proofs Go.Chk Go.Runs Go.Code

theorem ld1 {seed : Int} {p : Po} (hp : inT p) : ldE seed 1 [] p = ([(p, made seed p, false, 0)], 0) := by
  have e : roomE 1 [] = ([], 0) := rfl
  unfold ldE
  have h0 : firstI (fun e : En => e.1 == p) [] = -1 := rfl
  rw [if_neg (by simpa using hp), h0, if_neg (by decide), e, if_neg (by decide)]; rfl
theorem topN_nil (x z : Int) : topN [] x z 32 = -2 := by
  show topN [] x z (31 + 1) = -2
  have : atE [] (x, ((31 : Nat) : Int), z) = -1 := rfl
  rw [topN, if_pos this]
theorem ready_nil (c : Ce) : readyE [] c = false := by
  unfold readyE besideK
  simp
theorem cellK_bd (c : Ce) : (-32 ≤ (cellK c).1 ∧ (cellK c).1 ≤ 47) ∧ (-1 ≤ (cellK c).2.1 ∧ (cellK c).2.1 ≤ 32) ∧ -32 ≤ (cellK c).2.2 ∧ (cellK c).2.2 ≤ 47 := by
  have h1 := around_bd c.1 80 (by decide)
  have h2 := around_bd c.2.1 34 (by decide)
  have h3 := around_bd c.2.2 80 (by decide)
  unfold cellK
  refine ⟨?_, ?_, ?_⟩ <;> (simp only; omega)
theorem pos_inT {c : Ce} (hc : -1000 ≤ c.1 ∧ c.1 ≤ 1000) (hz : -1000 ≤ c.2.2 ∧ c.2.2 ≤ 1000) : inT (pos c) := by
  unfold inT pos
  simp only
  omega
theorem WorldOpen_law (seed : Int) (c : Ce) (b y : Int) (hc : okC c) (hb : inI b) (hy : inI y) (w : World) : Calls Tryz.prog n_law13_WorldOpen #[.int .i64 seed, cev c, .int .i64 b, .int .i64 y] w fun e w' => e = .returned (.bool true) ∧ Ext w w' := by
  apply law13_WorldOpen.vc
  intro w0 e0
  have x0 : Ext w w0 := (Ext.rfl' w).of_alloc e0
  have hA0 : Row w0 w.heap.size (cR c) tCe := by rw [e0]; exact Row.new w [_, _, _] _
  clear e0
  refine (rCell_spec c hc w0).mono ?_
  rintro e w1 ⟨rfl, x1⟩
  have hbd := cellK_bd c
  have hok := cellK_ok c
  refine ⟨_, _, _, rfl, x1.heap hA0.lt, fun w5 e5 w6 e6 => ?_⟩
  generalize cellK c = d at hbd hok e6 ⊢
  have x6 : Ext w1 w6 := ((Ext.rfl' _).of_alloc e5).of_setRow e6 (Nat.le_refl _)
  have hA6 := hA0.ext (x1.tr x6)
  have hB6 : Row w6 w1.heap.size (cR d) tCe := by rw [e6]; exact Row.set (by rw [e5]; exact Row.new w1 [_, _, _] _) _
  have x06 := x0.tr (x1.tr x6)
  clear e5 e6
  refine (wsNew_spec seed 1 0 w6).mono ?_
  rintro e w7 ⟨o, t, rfl, h7⟩
  rw [lim1] at h7
  have x7 := h7.x
  refine ⟨_, rfl, x7.heap hA6.lt, x7.heap hB6.lt, Br.mk (fun h => by cases h) (fun _ => (wsTable_spec h7).mono ?_)⟩
  rintro e w9 ⟨rfl, hw⟩
  subst hw
  have hA9 := hA6.ext x7
  have hB9 := hB6.ext x7
  refine ⟨_, rfl, rfl, rfl, Br.mk (fun h => by cases h) (fun _ => (wsOpen_spec h7 d.1 d.2.2 hok.1 hok.2.2).mono ?_)⟩
  rintro e w11 ⟨rfl, x11⟩
  have eo : openE [] d.1 d.2.2 = ((0, 0, 0), false) := by unfold openE; rw [topN_nil, if_pos (.inl (by decide))]
  rw [eo]
  refine ⟨_, _, _, _, rfl, x11.heap hA9.lt, x11.heap hB9.lt, fun w16 e16 w17 e17 => ?_⟩
  have x17 : Ext w11 w17 := ((Ext.rfl' _).of_alloc e16).of_setRow e17 (Nat.le_refl _)
  have hC17 : Row w17 w11.heap.size (cR (0, 0, 0)) tCe := by rw [e17]; exact Row.set (by rw [e16]; exact Row.new w11 [_, _, _] _) _
  clear e16 e17
  have xx := x11.tr x17
  have hA17 := hA9.ext xx
  have hB17 := hB9.ext xx
  have h17 := h7.ext xx
  refine nope rfl (nope rfl ?_)
  refine (wsTop_spec h17 d.1 d.2.2 hok.1 hok.2.2).mono ?_
  rintro e w18 ⟨rfl, x18⟩
  rw [topN_nil]
  refine ⟨_, rfl, x18.heap hA17.lt, x18.heap hB17.lt, x18.heap hC17.lt, nope rfl ?_⟩
  have hA18 := hA17.ext x18
  have hB18 := hB17.ext x18
  have hC18 := hC17.ext x18
  have hpT := pos_inT (c := d) (by omega) (by omega)
  refine (wReady_spec (h17.ext x18) d hok (pos_okP (by omega) (by omega))).mono ?_
  rintro e w20 ⟨rfl, x20⟩
  rw [ready_nil]
  refine ⟨_, rfl, x20.heap hA18.lt, x20.heap hB18.lt, x20.heap hC18.lt, nope rfl ?_⟩
  have hA20 := hA18.ext x20
  have hB20 := hB18.ext x20
  have hC20 := hC18.ext x20
  have h20 := (h17.ext x18).ext x20
  refine (rChunk3_spec d hok w20).mono ?_
  rintro e w22 ⟨rfl, x22⟩
  have hA22 := hA20.ext x22
  have hB22 := hB20.ext x22
  have hC22 := hC20.ext x22
  refine ⟨_, _, rfl, x22.heap hA20.lt, x22.heap hB20.lt, x22.heap hC20.lt, (wsLoad_spec (h20.ext x22) (.inl (by simp)) (pos d)).mono ?_⟩
  rintro e w25 ⟨rfl, h25, k25⟩
  rw [ld1 hpT] at h25
  generalize hl1 : ([(pos d, made seed (pos d), false, 0)] : List En) = l1 at h25
  have hn1 : nodL l1 := by rw [← hl1]; unfold nodL; simp
  have hh1 : here1 l1 (pos d) := by rw [← hl1]; exact ⟨_, .head _, rfl⟩
  have hA25 := k25.row hA22
  have hB25 := k25.row hB22
  have hC25 := k25.row hC22
  have hyb := around_bd y 32 (by decide)
  refine ⟨_, rfl, k25 _ _ hA22, k25 _ _ hB22, k25 _ _ hC22, (around_spec y 32 w25 hy (by decide) (by unfold inI; omega)).mono ?_⟩
  rintro e w27 ⟨rfl, hw⟩
  subst hw
  generalize around y 32 = hi at hyb ⊢
  have mB := (bGood_bd b).2.2
  generalize hB : bGood b = B at mB
  have okh : okC (d.1, hi, d.2.2) := ⟨hok.1, by show inI hi; unfold inI; omega, hok.2.2⟩
  have hph : pos (d.1, hi, d.2.2) = pos d := rfl
  have hyh : inY (d.1, hi, d.2.2) := ⟨by show 0 ≤ hi; omega, by show hi < 32; omega⟩
  obtain ⟨s1, n2, hh2, v2⟩ := set_here hn1 h25.good (c := (d.1, hi, d.2.2)) (by rw [hph]; exact hh1) hyh mB
  have xd := Ext.dr w27
  refine ⟨_, rfl, rfl, rfl, rfl, fun w' => (∃ ch, Ws w6 w' o t seed 1 (setE l1 (d.1, hi, d.2.2) B).1 ch) ∧ Row w' w.heap.size (cR c) tCe ∧ Row w' w1.heap.size (cR d) tCe ∧ Row w' w11.heap.size (cR (0, 0, 0)) tCe, ⟨?_, ?_⟩, ?_⟩
  · refine (ref04_Good_spec b w27.drew hb).mono ?_
    rintro e w30 ⟨rfl, hw⟩
    subst hw
    rw [hB]
    refine ⟨_, rfl, rfl, rfl, rfl, (wsSet_spec (h25.ext xd) (d.1, hi, d.2.2) okh B (by simp)).mono ?_⟩
    rintro e w32 ⟨rfl, h32, k32⟩
    exact ⟨_, rfl, k32 _ _ (hA25.ext xd), k32 _ _ (hB25.ext xd), k32 _ _ (hC25.ext xd), rfl, rfl, rfl, ⟨_, h32⟩, k32.row (hA25.ext xd), k32.row (hB25.ext xd), k32.row (hC25.ext xd)⟩
  · refine (ref04_Good_spec b w27.drew hb).mono ?_
    rintro e w34 ⟨rfl, hw⟩
    subst hw
    rw [hB]
    refine ⟨_, rfl, rfl, rfl, rfl, (hB25.ext xd).loadL (fun j hj => by simp at hj; subst hj; rfl), (hB25.ext xd).loadL (fun j hj => by simp at hj; subst hj; rfl), (wsSet_spec (h25.ext xd) (d.1, hi, d.2.2) okh B (by simp)).mono ?_⟩
    rintro e w36 ⟨rfl, h36, k36⟩
    exact ⟨_, rfl, k36 _ _ (hA25.ext xd), k36 _ _ (hB25.ext xd), k36 _ _ (hC25.ext xd), rfl, rfl, rfl, ⟨_, h36⟩, k36.row (hA25.ext xd), k36.row (hB25.ext xd), k36.row (hC25.ext xd)⟩
  rintro us38 w39 ⟨⟨ch, h39⟩, hA39, hB39, hC39⟩
  have hgood := h39.good
  generalize (setE l1 (d.1, hi, d.2.2) B).1 = l2 at *
  have hhd : here1 l2 (pos d) := (hh2 _).2 hh1
  have htop := topN_here (l := l2) (x := d.1) (z := d.2.2) (fun y hy => may_ne (at_may n2 hgood (c := (d.1, (y : Int), d.2.2)) hhd ⟨by show (0 : Int) ≤ y; omega, by show (y : Int) < 32; omega⟩)) 32 (Nat.le_refl _)
  have hle := topN_le l2 d.1 d.2.2 32
  refine (wsTop_spec h39 d.1 d.2.2 hok.1 hok.2.2).mono ?_
  rintro e w40 ⟨rfl, x40⟩
  refine ⟨_, rfl, x40.heap hA39.lt, x40.heap hB39.lt, x40.heap hC39.lt, (wsOpen_spec (h39.ext x40) d.1 d.2.2 hok.1 hok.2.2).mono ?_⟩
  rintro e w42 ⟨rfl, x42⟩
  have x3942 := x40.tr x42
  have hA42 := hA39.ext x3942
  have hB42 := hB39.ext x3942
  have hC42 := hC39.ext x3942
  have h42 := h39.ext x3942
  refine ⟨_, _, _, _, rfl, x42.heap (hA39.ext x40).lt, x42.heap (hB39.ext x40).lt, x42.heap (hC39.ext x40).lt, fun w47 e47 w48 e48 => ?_⟩
  have x48 : Ext w42 w48 := ((Ext.rfl' _).of_alloc e47).of_setRow e48 (Nat.le_refl _)
  have hD48 : Row w48 w42.heap.size (cR (openE l2 d.1 d.2.2).1) tCe := by rw [e48]; exact Row.set (by rw [e47]; exact Row.new w42 [_, _, _] _) _
  clear e47 e48
  have hA48 := hA42.ext x48
  have hB48 := hB42.ext x48
  have hC48 := hC42.ext x48
  have h48 := h42.ext x48
  have fin : ∀ w', Ext w48 w' → Calls Tryz.prog n_law13_lives #[] w' fun e w'' => ∃ b : Bool, e = .returned (.bool b) ∧ w''.heap[w.heap.size]? = w'.heap[w.heap.size]? ∧ w''.heap[w1.heap.size]? = w'.heap[w1.heap.size]? ∧ w''.heap[w11.heap.size]? = w'.heap[w11.heap.size]? ∧ w''.heap[w42.heap.size]? = w'.heap[w42.heap.size]? ∧ (fun e w' => e = Ending.returned (.bool true) ∧ Ext w w') (.returned (.bool b)) w'' := by
    intro w' x'
    refine (lives13_spec w').mono ?_
    rintro e w'' ⟨rfl, x''⟩
    exact ⟨_, rfl, x''.heap (hA48.ext x').lt, x''.heap (hB48.ext x').lt, x''.heap (hC48.ext x').lt, x''.heap (hD48.ext x').lt, rfl, x06.tr ((h48.x.tr x').tr x'')⟩
  by_cases h31 : topN l2 d.1 d.2.2 32 = 31
  · have eo2 : openE l2 d.1 d.2.2 = ((0, 0, 0), false) := by unfold openE; rw [if_pos (.inr h31)]
    rw [eo2, h31]
    exact nope rfl (yes rfl (fin w48 (Ext.rfl' _)))
  · have eo2 : openE l2 d.1 d.2.2 = ((d.1, topN l2 d.1 d.2.2 32 + 1, d.2.2), true) := by
      unfold openE
      rw [if_neg]
      rintro (h | h)
      · have := htop.1; omega
      · exact h31 h
    rw [eo2] at hD48 ⊢
    have h1 := htop.1
    have h2 := htop.2
    generalize topN l2 d.1 d.2.2 32 = y2 at *
    have wr : IntKind.wrap .i64 (y2 + 1) = y2 + 1 := wrap_in (by unfold inI; omega)
    have hz : atE l2 (d.1, y2 + 1, d.2.2) = 0 := by
      have := h2 (y2 + 1).toNat (by omega) (by omega)
      rw [Int.toNat_of_nonneg (by omega)] at this
      exact this
    refine nope ?_ (nope rfl (yes (by simp) (yes (by rw [wr]; simp) (yes (by simp) ?_))))
    · rw [decide_eq_true (show y2 < 31 by omega)]; rfl
    refine (wsAt_spec h48 (d.1, y2 + 1, d.2.2) ⟨hok.1, by show inI (y2 + 1); unfold inI; omega, hok.2.2⟩).mono ?_
    rintro e w51 ⟨rfl, x51⟩
    rw [hz]
    exact ⟨_, rfl, x51.heap hA48.lt, x51.heap hB48.lt, x51.heap hC48.lt, x51.heap hD48.lt, yes rfl (fin w51 x51)⟩
end Go.Proofs.YtbnmglonbhdcbaaGreatDoor
