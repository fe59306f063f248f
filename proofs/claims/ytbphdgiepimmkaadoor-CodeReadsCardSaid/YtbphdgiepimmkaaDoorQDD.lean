import Derived.Test.YtbphdgiepimmkaaDoorQCC
import Derived.Test.YtbphdgiepimmkaaDoorQPG
set_option linter.all false
namespace Go.Proofs.YtbphdgiepimmkaaDoor
open Go Go.Vc Go.RowKit Go.Proofs Go.Runs Go.Code

theorem OwnK.le {B E k : Nat} {w : World} {s : Sl} {rows : List (List Value)} (h : OwnK B E k w s rows) : s.n ≤ s.c := by
  have ho := h.own
  generalize rows.flatten = xs at ho
  cases ho with
  | nil => exact Nat.le_refl _
  | row g n c cs hg hr hc hn => exact hn
theorem readB_again {b : List Int} {n : Int} (hb : InY b) (hn : 1 ≤ n) (h : (readB bMay b n).2 = 0) : wrB (readB bMay b n).1 = b ∧ Follow bMay (-1) (readB bMay b n).1 ∧ sumR (readB bMay b n).1 = n := by
  obtain ⟨l, e1, e2, e3, e4, _⟩ := readG_again (may := bMay) (b.length + 1) b n (-1) [] hb hn h
  rw [List.nil_append] at e1
  have e : readB bMay b n = readG bMay (b.length + 1) b n (-1) [] := rfl
  rw [e, e1]
  exact ⟨e2, e3, e4⟩
theorem follow_in {l : List Rn} {last : Int} (h : Follow bMay last l) : ∀ r ∈ l, inI r.1 ∧ inI r.2 := by
  intro r hr
  have := h.mem r hr
  unfold Go.Vc.inI; omega
theorem CodeAgain_good (s : Sl) (b : List Int) (n : Int) (w : World) (hs : RdY w s b) (hb : InY b) (hc : s.n ≤ s.c) (hn : inI n) :
    Calls Tryd.prog n_law06_CodeAgain #[.slice s.a s.n s.c, .int .i64 n] w (Good6 w) := by
  apply law06_CodeAgain.vc
  refine (ref06_Few_spec s b 60 w hs hc).mono ?_
  rintro e w0 ⟨t, rfl, ht, htc, rfl⟩
  have htb : InY (b.take 60) := fun c hc => hb c (List.mem_of_mem_take hc)
  have htl : (b.take 60).length ≤ 60 := by rw [List.length_take]; omega
  generalize b.take 60 = b' at *
  have b4 := around_bd n 400 (by omega)
  refine ⟨t, rfl, (around_spec n 400 w0 hn (by omega) (by unfold inI; omega)).mono ?_⟩
  rintro e w1 ⟨rfl, rfl⟩
  generalize around n 400 = m at *
  have hw := wrap_in (n := 1 + m) (by unfold inI; omega)
  refine ⟨_, rfl, ?_⟩
  rw [hw]
  refine (code_Read_spec t b' (1 + m) w1 ht htb htc (by omega) (by omega) (by unfold inI; omega)).mono ?_
  rintro e w2 ⟨⟨s2, rfl, o2⟩, x2⟩
  have hn2 := RdR.len o2.rdr
  have herr : (readB bMay b' (1 + m)).2 ≠ 0 → (readB bMay b' (1 + m)).1 = [] := readG_err _ _ _ _ _
  have hlen := readB_len (may := bMay) b' (1 + m)
  refine ⟨s2, _, rfl, Br.mk (fun h => ?_) (fun h => ?_)⟩ <;> simp only [bne_iff_ne, ne_eq, bne_eq_false_iff_eq] at h
  · rw [herr h] at hn2
    exact Br.mk (fun _ => lives6 x2) (fun h' => by simp at h' hn2; omega)
  · obtain ⟨h1, h2, h3⟩ := readB_again htb (by omega) h
    generalize readB bMay b' (1 + m) = p at *
    obtain ⟨l, er⟩ := p
    simp only at h h1 h2 h3 hlen hn2 o2
    refine (code_Write_spec s2 l w2 o2.rdr (by omega) (follow_in h2)).mono ?_
    rintro e w3 ⟨⟨s3, rfl, o3⟩, x3⟩
    rw [h2.okW (by omega) (by omega)] at o3 ⊢
    refine ⟨s3, _, rfl, Br.mk (fun _ => ?_) (fun h => by simp at h)⟩
    refine (ref06_Same_spec t s3 b' (wrB l) w3 (ht.ext (x2.tr x3)) (OwY.rdy o3) htb (wrB_in l)).mono ?_
    rintro e w4 ⟨rfl, rfl⟩
    rw [decide_eq_true h1.symm]
    refine ⟨_, rfl, Br.mk (fun _ => ?_) (fun h => by cases h)⟩
    refine (ref05_May_spec s2 l (1 + m) w4 (RdK.ext o2.rdr x3) (by unfold Bd; omega) (by unfold inI; omega)).mono ?_
    rintro e w5 ⟨rfl, x5⟩
    rw [← h3, h2.mayR (by omega)]
    exact ⟨_, rfl, Br.mk (fun _ => lives6 ((x2.tr x3).tr x5)) (fun h => by cases h)⟩
theorem good_follow (l : List Rn) : Follow bMay (-1) (ofC (goodC l)) := by
  have hgl := goodC_len l
  refine Follow.of (fun r hr => ?_) (Nm_ofC _).next (fun r hr => ?_)
  · have h1 := mem_ofC hr
    have h2 := mem_cells hr h1.1
    rw [cells_ofC] at h2
    have h3 := goodC_may l _ h2
    have h4 := h3
    unfold bMay at h4
    simp at h4
    exact ⟨h1.1, by omega, by omega, by omega, h3⟩
  · have hr' : r ∈ ofC (goodC l) := List.mem_of_mem_head? (by rw [hr]; rfl)
    have h1 := mem_ofC hr'
    have h2 := mem_cells hr' h1.1
    rw [cells_ofC] at h2
    have h4 := goodC_may l _ h2
    unfold bMay at h4
    simp at h4
    omega
theorem read_good {g : List Rn} (hF : Follow bMay (-1) g) (hne : g ≠ []) : readB bMay (wrB g) (sumR g) = (g, 0) := by
  have := readG_all (may := bMay) g ((wrB g).length + 1) [] (-1) [] hF hne (by simp)
  rw [List.append_nil, if_pos rfl] at this
  exact this
theorem read_more {g : List Rn} (hF : Follow bMay (-1) g) (hne : g ≠ []) (x : Int) : readB bMay (wrB g ++ [x]) (sumR g) = ([], 2) := by
  have := readG_all (may := bMay) g ((wrB g ++ [x]).length + 1) [x] (-1) [] hF hne (by simp)
  rw [if_neg (by simp)] at this
  exact this
theorem read_other {g : List Rn} (hF : Follow bMay (-1) g) {m : Int} (hm : 1 ≤ m) (h : (readB bMay (wrB g) m).2 = 0) : m = sumR g := by
  obtain ⟨h1, h2, h3⟩ := readB_again (wrB_in g) hm h
  rw [wrB_inj h2 hF h1] at h3
  exact h3.symm
theorem read_less {g : List Rn} (hF : Follow bMay (-1) g) (hne : g ≠ []) (hn : 1 ≤ sumR g) (hl : 1 ≤ (wrB g).length) : (readB bMay ((wrB g).take ((wrB g).length - 1)) (sumR g)).2 ≠ 0 := by
  intro h
  obtain ⟨h1, h2, h3⟩ := readB_again (fun c hc => wrB_in g c (List.mem_of_mem_take hc)) hn h
  generalize (readB bMay ((wrB g).take ((wrB g).length - 1)) (sumR g)).1 = l at *
  have hl0 : l ≠ [] := by
    intro e
    rw [e] at h3
    have : sumR ([] : List Rn) = 0 := rfl
    omega
  obtain ⟨x, hx⟩ := get_lt (l := wrB g) (i := (wrB g).length - 1) (by omega)
  have e : wrB g = wrB l ++ [x] := by
    rw [h1]
    have := List.take_append_drop ((wrB g).length - 1) (wrB g)
    rw [drop_cons hx, List.drop_of_length_le (by omega)] at this
    exact this.symm
  have g1 := read_good hF hne
  rw [e, ← h3, read_more h2 hl0 x] at g1
  simp at g1
theorem CodeRound_good (s : Sl) (l : List Rn) (x other : Int) (w : World) (hs : RdR w s l) (hl : ∀ r ∈ l, inI r.1 ∧ inI r.2) (hx : 0 ≤ x ∧ x < 256) (ho : inI other) :
    Calls Tryd.prog n_law06_CodeRound #[.slice s.a s.n s.c, .int .u8 x, .int .i64 other] w (Good6 w) := by
  have hgl := goodC_len l
  have hgr := ofC_len (goodC l)
  have hF := good_follow l
  have hsum := sumR_ofC (goodC l)
  have hcl := cells_ofC (goodC l)
  have hne : ofC (goodC l) ≠ [] := by intro e; rw [e] at hsum; simp [sumR] at hsum; omega
  apply law06_CodeRound.vc
  refine (ref05_Good_spec s l w hs hl).mono ?_
  rintro e w1 ⟨g, rfl, og, x1⟩
  generalize hgc : ofC (goodC l) = gl at *
  refine ⟨g, rfl, (ref05_Cells_spec g gl w1 og.rdr (by unfold Bd; omega) (fun r hr => by have := hF.pos r hr; omega) (by omega)).mono ?_⟩
  rintro e w2 ⟨c, rfl, oc, x2⟩
  have hcn := RdC.len oc.rdc
  have og2 := OwnK.ext og x2
  refine ⟨c, rfl, (code_Write_spec g gl w2 (OwR.rdr og2) (by omega) (follow_in hF)).mono ?_⟩
  rintro e w4 ⟨⟨b, rfl, ob⟩, x4⟩
  rw [hF.okW (by omega) (by omega)] at ob ⊢
  have hbn := RdY.len (OwY.rdy ob)
  simp only [if_true] at ob hbn
  have hwl := wrB_len gl
  have hw2 : 2 ≤ (wrB gl).length := by
    cases gl with
    | nil => exact absurd rfl hne
    | cons r t =>
      have := hF.mem r (.head _)
      rw [wrB_cons r t ⟨by omega, by omega⟩]
      have := numB_pos this.1 this.2.1
      simp; omega
  refine ⟨b, _, rfl, Br.mk (fun h => by simp at h) (fun _ => Br.mk (fun h => by simp at h; omega) (fun _ => ?_))⟩
  have hn0 : ((c.n : Nat) : Int) = sumR gl := by rw [hcn, hcl, hsum]
  have hbi := wrB_in gl
  rw [hn0]
  have x14 : Ext w w4 := (x1.tr x2).tr x4
  refine (code_Read_spec b (wrB gl) (sumR gl) w4 (OwY.rdy ob) hbi (OwnK.le ob) (by omega) (by omega) (by unfold inI; omega)).mono ?_
  rintro e w7 ⟨⟨s8, rfl, o8⟩, x7⟩
  have hrg := read_good hF hne
  rw [hrg] at o8 ⊢
  refine ⟨s8, _, rfl, Br.mk (fun h => by simp at h) (fun _ => ?_)⟩
  refine (ref05_Same_spec s8 g gl gl w7 o8.rdr (RdK.ext (OwR.rdr og2) (x4.tr x7)) (by unfold Bd; omega)).mono ?_
  rintro e w10 ⟨rfl, x10⟩
  rw [decide_eq_true rfl]
  have ob10 := OwnK.ext ob (x7.tr x10)
  have b6 := around_bd other 600 (by omega)
  refine ⟨_, rfl, Br.mk (fun h => by cases h) (fun _ => (around_spec other 600 w10 ho (by omega) (by unfold inI; omega)).mono ?_)⟩
  rintro e w12 ⟨rfl, rfl⟩
  generalize around other 600 = m at *
  have hwm := wrap_in (n := 1 + m) (by unfold inI; omega)
  refine ⟨_, rfl, ?_⟩
  rw [hwm]
  refine (code_Read_spec b (wrB gl) (1 + m) w12 (OwY.rdy ob10) hbi (OwnK.le ob) (by omega) (by omega) (by unfold inI; omega)).mono ?_
  rintro e w14 ⟨⟨s15, rfl, o15⟩, x14'⟩
  have hn15 := RdR.len o15.rdr
  have ob14 := OwnK.ext ob10 x14'
  have xx := ((x14.tr x7).tr x10).tr x14'
  have herr : (readB bMay (wrB gl) (1 + m)).2 ≠ 0 → (readB bMay (wrB gl) (1 + m)).1 = [] := readG_err _ _ _ _ _
  have hiff : ((readB bMay (wrB gl) (1 + m)).2 = 0) ↔ 1 + m = sumR gl := by
    constructor
    · exact read_other hF (by omega)
    · intro e; rw [e, hrg]
  have fin : ∃ l17 : List Value, Rd w14 b.a l17 ∧ AppPre 1 1 w14 ⟨none, 0, 0⟩ b.n l17 ∧ ∀ (s18 : Sl) (w19 : World), AppRes tByte 1 w14 ⟨none, 0, 0⟩ b.n l17 s18 w19 → 
      ∀ w20 : World, w20 = w19.alloc (.cells #[.int .u8 x] tByte) →
      AppPre 1 1 w20 ⟨s18.a, s18.n, s18.c⟩ 1 [.int .u8 x] ∧ ∀ (s21 : Sl) (w22 : World), AppRes tByte 1 w20 ⟨s18.a, s18.n, s18.c⟩ 1 [.int .u8 x] s21 w22 → w22.heap[w19.heap.size]? = w20.heap[w19.heap.size]? ∧ 
      Calls Tryd.prog n_code_Read #[.slice s21.a s21.n s21.c, .int .i64 (sumR gl)] w22 (fun e w23 => ∃ (s24 : Sl) (x25 : Int), e = .returned (.tuple #[.slice s24.a s24.n s24.c, .int .i64 x25]) ∧ w23.heap[w19.heap.size]? = w22.heap[w19.heap.size]? ∧ 
      (0 : Int) ≤ (IntKind.wrap .i64 (((b.n : Nat) : Int) - 1)) ∧ (IntKind.wrap .i64 (((b.n : Nat) : Int) - 1)) ≤ ((b.c : Nat) : Int) ∧ Calls Tryd.prog n_code_Read #[.slice (slBase b.a (0) (b.c) 1) (((IntKind.wrap .i64 (((b.n : Nat) : Int) - 1)) : Int).toNat - 0) (b.c - 0), .int .i64 (sumR gl)] w23 (fun e w26 => ∃ (s27 : Sl) (x28 : Int), e = .returned (.tuple #[.slice s27.a s27.n s27.c, .int .i64 x28]) ∧ w26.heap[w19.heap.size]? = w23.heap[w19.heap.size]? ∧ 
      Br ((x25 : Int) == 2)
      (Br ((x28 : Int) != 0)
      (Calls Tryd.prog n_law06_lives #[] w26 (fun e w29 => ∃ (b30 : Bool), e = .returned (.bool b30) ∧ w29.heap[w19.heap.size]? = w26.heap[w19.heap.size]? ∧ 
      Good6 w (.returned (.bool b30)) w29))
      (Good6 w (.returned (.bool false)) w26))
      (Good6 w (.returned (.bool false)) w26))) := by
    have o0 : OwnK w.heap.size tByte 1 w14 ⟨none, 0, 0⟩ [] := OwnK.nil
    obtain ⟨hp, hres⟩ := o0.appN (bytes := 1) (more := (wrB gl).map yv) xx.size (by simp) (yv_one _) (by simp; omega) (by simp; omega)
    rw [List.length_map, ← hbn] at hp hres
    refine ⟨_, RdK.flat (OwY.rdy ob14) (by omega), hp, fun s18 w19 hr => ?_⟩
    obtain ⟨o18, hn18, x19, k19, _⟩ := hres s18 w19 hr
    rintro w20 rfl
    have h18 : s18.n = b.n := by rw [hn18]; simp
    have x19' : Ext w w19 := xx.trans x19
    have x19b : Ext w14 w19 := ⟨x19.os, x19.tape, x19.output, x19.size, fun k hk => k19 k (by simp [Sl.blk]) hk⟩
    obtain ⟨hp2, hres2⟩ := OwnK.app1 o18 (bytes := 1) (news := yv x) (.cells #[.int .u8 x] tByte) x19'.size rfl (one_i _ _) (by omega) (by omega)
    refine ⟨hp2, fun s21 w22 hr2 => ?_⟩
    obtain ⟨k22, o21, hn21, x22, kp22, _⟩ := hres2 s21 w22 hr2
    have x22' : Ext w w22 := x19'.trans x22
    have e21 : ([] ++ (wrB gl).map yv) ++ [yv x] = (wrB gl ++ [x]).map yv := by rw [List.nil_append, List.map_append]; rfl
    rw [e21] at o21
    have hlt22 : w19.heap.size < w22.heap.size := by
      have : w22.heap[w19.heap.size]? = some (.cells #[.int .u8 x] tByte) := by rw [k22]; exact Row.new w19 [.int .u8 x] tByte
      exact (Array.getElem?_eq_some_iff.1 this).1
    refine ⟨k22, ?_⟩
    refine (code_Read_spec s21 (wrB gl ++ [x]) (sumR gl) w22 (OwY.rdy o21) (by
      intro c hc
      rcases List.mem_append.1 hc with hc | hc
      · exact hbi c hc
      · simp at hc; subst hc; exact hx) (OwnK.le o21) (by simp; omega) (by omega) (by unfold inI; omega)).mono ?_
    rintro e w23 ⟨⟨s24, rfl, o24⟩, x23⟩
    rw [read_more hF hne x] at o24 ⊢
    have hwb := wrap_in (n := ((b.n : Nat) : Int) - 1) (by unfold inI; omega)
    have hbc := OwnK.le ob
    refine ⟨s24, _, rfl, x23.heap hlt22, ?_⟩
    rw [hwb]
    have ht1 : (((b.n : Nat) : Int) - 1).toNat = b.n - 1 := by omega
    rw [ht1]
    have ob22 : RdY w22 b (wrB gl) := by
      have hob19 := OwnK.ext ob14 x19b
      have := OwnK.keep hob19 (w' := w22) (fun j hj => by
        have h1 := (ob14.own.lt hj)
        have h2 := x19b.size
        refine kp22 j ?_ (by omega)
        intro hs
        rcases ‹s18.blk = _ ∨ s18.blk = _› with h3 | h3
        · rw [h3] at hs; simp [Sl.blk] at hs
        · rw [h3] at hs; simp at hs; omega)
      exact OwY.rdy this
    have hcut := RdK.cut (RdK.ext ob22 x23) (m := b.n - 1) (c' := b.c) (c'' := b.c - 0) (by rw [List.length_map]; omega)
    rw [← List.map_take] at hcut
    refine ⟨by omega, by omega, (code_Read_spec ⟨slBase b.a 0 b.c 1, b.n - 1 - 0, b.c - 0⟩ ((wrB gl).take (b.n - 1)) (sumR gl) w23 hcut (fun c hc => hbi c (List.mem_of_mem_take hc)) (by show b.n - 1 - 0 ≤ b.c - 0; omega) (by rw [List.length_take]; omega) (by omega) (by unfold inI; omega)).mono ?_⟩
    rintro e w26 ⟨⟨s27, rfl, o27⟩, x26⟩
    have hless := read_less hF hne (by omega) (by omega)
    rw [← hbn] at hless
    refine ⟨s27, _, rfl, x26.heap (by have := x23.size; omega), Br.mk (fun _ => Br.mk (fun _ => ?_) (fun h => by
      simp only [bne_eq_false_iff_eq] at h; exact absurd h hless)) (fun h => by simp at h)⟩
    have x26' := (x22'.tr x23).tr x26
    refine (law06_lives_spec w26).mono ?_
    rintro e w29 ⟨rfl, x29⟩
    exact ⟨_, rfl, x29.heap (by have := x23.size; have := x26.size; omega), rfl, x26'.tr x29⟩
  refine ⟨s15, _, rfl, Br.mk (fun h => ?_) (fun _ => Br.mk (fun h => Br.mk (fun h2 => ?_) (fun _ => fin)) (fun _ => fin))⟩
  · exfalso
    have e1 : ((readB bMay (wrB gl) (1 + m)).2 == 0) = (1 + m == sumR gl) := by
      rw [Bool.eq_iff_iff]; simp only [beq_iff_eq]; exact hiff
    rw [e1] at h
    simp at h
  · simp only [bne_iff_ne, ne_eq] at h
    rw [herr fun e => h (hiff.1 e)] at hn15
    simp at h2 hn15; omega
end Go.Proofs.YtbphdgiepimmkaaDoor
