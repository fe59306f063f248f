import Derived.Test.YtbnmglonbhdcbaaGreatDoorKC
import Derived.Test.YtbnmglonbhdcbaaGreatDoorGA
set_option linter.all false
namespace Go.Proofs.YtbnmglonbhdcbaaGreatDoor
open Go Go.Vc Go.RowKit Go.Proofs Go.Chk Go.Runs Go.Code

def in16 (c : Ce) : Ce := (around c.1 16, around c.2.1 32, around c.2.2 16)
theorem in16_ok (c : Ce) : okC (in16 c) ∧ inY (in16 c) ∧ pos (in16 c) = (0, 0) := by
  have h1 := around_bd c.1 16 (by decide)
  have h2 := around_bd c.2.1 32 (by decide)
  have h3 := around_bd c.2.2 16 (by decide)
  unfold in16 okC inI inY pos
  refine ⟨⟨by simp only; omega, by simp only; omega, by simp only; omega⟩, by simp only; omega, ?_⟩
  exact Prod.ext (by simp only; omega) (by simp only; omega)
theorem ld00 (seed : Int) : (ldE seed 1 [] (0, 0)).1 = [((0, 0), made seed (0, 0), false, 0)] := rfl
theorem WorldTwice_law (seed : Int) (a b : Ce) (x y : Int) (ha : okC a) (hb : okC b) (hx : inI x) (hy : inI y) (w : World) : Calls Tryz.prog n_law13_WorldTwice #[.int .i64 seed, cev a, cev b, .int .i64 x, .int .i64 y] w fun e w' => e = .returned (.bool true) ∧ Ext w w' := by
  apply law13_WorldTwice.vc
  intro w0 e0 w1 e1
  have z0 : w0.heap.size = w.heap.size + 1 := by rw [e0]; simp
  have z1 : w1.heap.size = w.heap.size + 2 := by rw [e1]; simp [z0]
  have x1 : Ext w w1 := ((Ext.rfl' w).of_alloc e0).of_alloc e1
  have hA1 : Row w1 w.heap.size (cR a) tCe := (by rw [e0]; exact Row.new w [_, _, _] _ : Row w0 w.heap.size (cR a) tCe).ext ((Ext.rfl' _).of_alloc e1)
  have hB1 : Row w1 w0.heap.size (cR b) tCe := by rw [e1]; exact Row.new w0 [_, _, _] _
  clear e0 e1
  refine (wsNew_spec seed 1 0 w1).mono ?_
  rintro e w2 ⟨o, t, rfl, h2⟩
  rw [lim1] at h2
  have x2 := h2.x
  refine ⟨_, rfl, x2.heap hA1.lt, x2.heap hB1.lt, Br.mk (fun h => by cases h) (fun _ => (wsTable_spec h2).mono ?_)⟩
  rintro e w4 ⟨rfl, hw⟩
  subst hw
  refine ⟨_, rfl, rfl, rfl, Br.mk (fun h => by cases h) (fun _ => (wsLoad_spec h2 (.inl (by simp)) (0, 0)).mono ?_)⟩
  rintro e w6 ⟨rfl, h6, k6⟩
  rw [ld00] at h6
  generalize hl0 : [(((0, 0), made seed (0, 0), false, 0) : En)] = l0 at h6
  have hn0 : nodL l0 := by rw [← hl0]; unfold nodL; simp
  have hh0 : here1 l0 (0, 0) := by rw [← hl0]; exact ⟨_, .head _, rfl⟩
  have hA6 := k6.row (hA1.ext x2)
  have hB6 := k6.row (hB1.ext x2)
  obtain ⟨okc, yc, pc⟩ := in16_ok a
  obtain ⟨okd, yd, pd⟩ := in16_ok b
  have hcd : in16 a = (around a.1 16, around a.2.1 32, around a.2.2 16) := rfl
  have hdd : in16 b = (around b.1 16, around b.2.1 32, around b.2.2 16) := rfl
  refine ⟨_, rfl, k6 _ _ (hA1.ext x2), k6 _ _ (hB1.ext x2), fun p w' => ∃ bc, p = some ⟨bc, 0, none⟩ ∧ Row w' bc (cR (in16 a)) tCe ∧ Ws w1 w' o t seed 1 l0 [] ∧ Row w' w.heap.size (cR a) tCe ∧ Row w' w0.heap.size (cR b) tCe, ?_, ?_⟩
  · have leaf : ∀ wa wb : World, wa = w6.drew.alloc (.cells #[.int .i64 0, .int .i64 0, .int .i64 0] tCe) → wb = wa.setRow w6.drew.heap.size #[.int .i64 (around a.1 16), .int .i64 (around a.2.1 32), .int .i64 (around a.2.2 16)] →
        cR a = cR a ∧ cR b = cR b ∧ ∃ bc, some (Addr.mk w6.drew.heap.size 0 none) = some ⟨bc, 0, none⟩ ∧ Row wb bc (cR (in16 a)) tCe ∧ Ws w1 wb o t seed 1 l0 [] ∧ Row wb w.heap.size (cR a) tCe ∧ Row wb w0.heap.size (cR b) tCe := by
      intro wa wb ea eb
      have xx : Ext w6 wb := ((Ext.dr w6).of_alloc ea).of_setRow eb (Nat.le_refl _)
      refine ⟨rfl, rfl, _, rfl, ?_, h6.ext xx, hA6.ext xx, hB6.ext xx⟩
      rw [eb]; exact Row.set (by rw [ea]; exact Row.new w6.drew [_, _, _] _) _
    have hAd := hA6.ext (Ext.dr w6)
    have hBd := hB6.ext (Ext.dr w6)
    have s1 : ∀ w', Calls Tryz.prog n_ref01_Around #[.int .i64 a.1, .int .i64 16] w' fun e w'' => e = .returned (.int .i64 (around a.1 16)) ∧ w'' = w' := fun w' => around_spec _ _ w' ha.1 (by decide) (by unfold inI; omega)
    have s2 : ∀ w', Calls Tryz.prog n_ref01_Around #[.int .i64 a.2.1, .int .i64 32] w' fun e w'' => e = .returned (.int .i64 (around a.2.1 32)) ∧ w'' = w' := fun w' => around_spec _ _ w' ha.2.1 (by decide) (by unfold inI; omega)
    have s3 : ∀ w', Calls Tryz.prog n_ref01_Around #[.int .i64 a.2.2, .int .i64 16] w' fun e w'' => e = .returned (.int .i64 (around a.2.2 16)) ∧ w'' = w' := fun w' => around_spec _ _ w' ha.2.2 (by decide) (by unfold inI; omega)
    have r1 : ∀ {w'}, Row w' w.heap.size (cR a) tCe → LoadL w' (some ⟨w.heap.size, 1, none⟩) 0 [.int .i64 a.2.1] := fun h => h.loadL fun j hj => by simp at hj; subst hj; rfl
    have r2 : ∀ {w'}, Row w' w.heap.size (cR a) tCe → LoadL w' (some ⟨w.heap.size, 2, none⟩) 0 [.int .i64 a.2.2] := fun h => h.loadL fun j hj => by simp at hj; subst hj; rfl
    refine ⟨(s1 _).mono ?_, fun wa ea => ?_⟩
    · rintro e w9 ⟨rfl, hw⟩; subst hw
      refine ⟨_, rfl, rfl, rfl, r2 hAd, r1 hAd, (s2 _).mono ?_, fun wa ea => ?_⟩
      · rintro e w11 ⟨rfl, hw⟩; subst hw
        refine ⟨_, rfl, rfl, rfl, r2 hAd, (s3 _).mono ?_, fun wa ea => ?_⟩
        · rintro e w13 ⟨rfl, hw⟩; subst hw
          exact ⟨_, rfl, rfl, rfl, fun wa ea wb eb => leaf wa wb ea eb, fun wa ea wb eb => leaf wa wb ea eb⟩
        · refine (s3 _).mono ?_
          rintro e w20 ⟨rfl, hw⟩; subst hw
          exact ⟨_, rfl, rfl, rfl, rfl, fun wb eb => leaf _ wb ea eb⟩
      · have xa := (Ext.rfl' w6.drew).of_alloc ea
        refine (s2 _).mono ?_
        rintro e w24 ⟨rfl, hw⟩; subst hw
        refine ⟨_, rfl, rfl, rfl, rfl, r2 (hAd.ext xa), (s3 _).mono ?_⟩
        rintro e w26 ⟨rfl, hw⟩; subst hw
        exact ⟨_, rfl, rfl, rfl, rfl, fun wb eb => leaf _ wb ea eb⟩
    · have xa := (Ext.rfl' w6.drew).of_alloc ea
      refine (s1 _).mono ?_
      rintro e w30 ⟨rfl, hw⟩; subst hw
      refine ⟨_, rfl, rfl, rfl, rfl, r2 (hAd.ext xa), r1 (hAd.ext xa), (s2 _).mono ?_⟩
      rintro e w32 ⟨rfl, hw⟩; subst hw
      refine ⟨_, rfl, rfl, rfl, rfl, r2 (hAd.ext xa), (s3 _).mono ?_⟩
      rintro e w34 ⟨rfl, hw⟩; subst hw
      exact ⟨_, rfl, rfl, rfl, rfl, fun wb eb => leaf _ wb ea eb⟩
  clear hA6 hB6 h6 k6 h2 hA1 hB1
  rintro us w39' w39 ⟨bc, rfl, hC, h6, hA6, hB6⟩
  refine ⟨fun p w' => ∃ bd, p = some ⟨bd, 0, none⟩ ∧ Row w' bd (cR (in16 b)) tCe ∧ Row w' bc (cR (in16 a)) tCe ∧ Ws w1 w' o t seed 1 l0 [] ∧ Row w' w.heap.size (cR a) tCe ∧ Row w' w0.heap.size (cR b) tCe, ?_, ?_⟩
  · have leaf : ∀ wa wb : World, wa = w39.drew.alloc (.cells #[.int .i64 0, .int .i64 0, .int .i64 0] tCe) → wb = wa.setRow w39.drew.heap.size #[.int .i64 (around b.1 16), .int .i64 (around b.2.1 32), .int .i64 (around b.2.2 16)] →
        cR a = cR a ∧ cR b = cR b ∧ ∃ bd, some (Addr.mk w39.drew.heap.size 0 none) = some ⟨bd, 0, none⟩ ∧ Row wb bd (cR (in16 b)) tCe ∧ Row wb bc (cR (in16 a)) tCe ∧ Ws w1 wb o t seed 1 l0 [] ∧ Row wb w.heap.size (cR a) tCe ∧ Row wb w0.heap.size (cR b) tCe := by
      intro wa wb ea eb
      have xx : Ext w39 wb := ((Ext.dr w39).of_alloc ea).of_setRow eb (Nat.le_refl _)
      refine ⟨rfl, rfl, _, rfl, ?_, hC.ext xx, h6.ext xx, hA6.ext xx, hB6.ext xx⟩
      rw [eb]; exact Row.set (by rw [ea]; exact Row.new w39.drew [_, _, _] _) _
    have hAd := hA6.ext (Ext.dr w39)
    have hBd := hB6.ext (Ext.dr w39)
    have s1 : ∀ w', Calls Tryz.prog n_ref01_Around #[.int .i64 b.1, .int .i64 16] w' fun e w'' => e = .returned (.int .i64 (around b.1 16)) ∧ w'' = w' := fun w' => around_spec _ _ w' hb.1 (by decide) (by unfold inI; omega)
    have s2 : ∀ w', Calls Tryz.prog n_ref01_Around #[.int .i64 b.2.1, .int .i64 32] w' fun e w'' => e = .returned (.int .i64 (around b.2.1 32)) ∧ w'' = w' := fun w' => around_spec _ _ w' hb.2.1 (by decide) (by unfold inI; omega)
    have s3 : ∀ w', Calls Tryz.prog n_ref01_Around #[.int .i64 b.2.2, .int .i64 16] w' fun e w'' => e = .returned (.int .i64 (around b.2.2 16)) ∧ w'' = w' := fun w' => around_spec _ _ w' hb.2.2 (by decide) (by unfold inI; omega)
    have r1 : ∀ {w'}, Row w' w0.heap.size (cR b) tCe → LoadL w' (some ⟨w0.heap.size, 1, none⟩) 0 [.int .i64 b.2.1] := fun h => h.loadL fun j hj => by simp at hj; subst hj; rfl
    have r2 : ∀ {w'}, Row w' w0.heap.size (cR b) tCe → LoadL w' (some ⟨w0.heap.size, 2, none⟩) 0 [.int .i64 b.2.2] := fun h => h.loadL fun j hj => by simp at hj; subst hj; rfl
    refine ⟨(s1 _).mono ?_, fun wa ea => ?_⟩
    · rintro e w9 ⟨rfl, hw⟩; subst hw
      refine ⟨_, rfl, rfl, rfl, r2 hBd, r1 hBd, (s2 _).mono ?_, fun wa ea => ?_⟩
      · rintro e w11 ⟨rfl, hw⟩; subst hw
        refine ⟨_, rfl, rfl, rfl, r2 hBd, (s3 _).mono ?_, fun wa ea => ?_⟩
        · rintro e w13 ⟨rfl, hw⟩; subst hw
          exact ⟨_, rfl, rfl, rfl, fun wa ea wb eb => leaf wa wb ea eb, fun wa ea wb eb => leaf wa wb ea eb⟩
        · refine (s3 _).mono ?_
          rintro e w20 ⟨rfl, hw⟩; subst hw
          exact ⟨_, rfl, rfl, rfl, rfl, fun wb eb => leaf _ wb ea eb⟩
      · have xa := (Ext.rfl' w39.drew).of_alloc ea
        refine (s2 _).mono ?_
        rintro e w24 ⟨rfl, hw⟩; subst hw
        refine ⟨_, rfl, rfl, rfl, rfl, r2 (hBd.ext xa), (s3 _).mono ?_⟩
        rintro e w26 ⟨rfl, hw⟩; subst hw
        exact ⟨_, rfl, rfl, rfl, rfl, fun wb eb => leaf _ wb ea eb⟩
    · have xa := (Ext.rfl' w39.drew).of_alloc ea
      refine (s1 _).mono ?_
      rintro e w30 ⟨rfl, hw⟩; subst hw
      refine ⟨_, rfl, rfl, rfl, rfl, r2 (hBd.ext xa), r1 (hBd.ext xa), (s2 _).mono ?_⟩
      rintro e w32 ⟨rfl, hw⟩; subst hw
      refine ⟨_, rfl, rfl, rfl, rfl, r2 (hBd.ext xa), (s3 _).mono ?_⟩
      rintro e w34 ⟨rfl, hw⟩; subst hw
      exact ⟨_, rfl, rfl, rfl, rfl, fun wb eb => leaf _ wb ea eb⟩
  clear hC h6 hA6 hB6
  rintro us2 w71' w71 ⟨bd, rfl, hD, hC, h6, hA6, hB6⟩
  generalize in16 a = c at *
  generalize in16 b = d at *
  have mX := (bGood_bd x).2.2
  have mY := (bGood_bd y).2.2
  generalize hX : bGood x = X at mX
  generalize hY : bGood y = Y at mY
  -- c is set
  have xd := Ext.dr w71
  refine ⟨_, _, _, row_at (hC.ext xd), (ref04_Good_spec x w71.drew hx).mono ?_⟩
  rintro e w75 ⟨rfl, hw⟩
  subst hw
  rw [hX]
  refine ⟨_, rfl, rfl, rfl, row_at (hC.ext xd), (wsSet_spec (h6.ext xd) c okc X (by simp)).mono ?_⟩
  rintro e w77 ⟨rfl, h77, k77⟩
  obtain ⟨e1, n1, hh1, v1⟩ := set_here hn0 h6.good (c := c) (by rw [pc]; exact hh0) yc mX
  have hC77 := k77.row (hC.ext xd)
  have hD77 := k77.row (hD.ext xd)
  have hA77 := k77.row (hA6.ext xd)
  have hB77 := k77.row (hB6.ext xd)
  have q77 := wsC_len l0 [] c X
  generalize hl1 : (setE l0 c X).1 = l1 at *
  generalize wsC l0 [] c X = ch1 at *
  -- d is set
  have xd2 := Ext.dr w77
  refine ⟨_, rfl, k77 _ _ (hA6.ext xd), k77 _ _ (hB6.ext xd), _, _, _, row_at (hD77.ext xd2), (ref04_Good_spec y w77.drew hy).mono ?_⟩
  rintro e w82 ⟨rfl, hw⟩
  subst hw
  rw [hY]
  refine ⟨_, rfl, rfl, rfl, row_at (hD77.ext xd2), (wsSet_spec (h77.ext xd2) d okd Y (by simp at q77; omega)).mono ?_⟩
  rintro e w84 ⟨rfl, h84, k84⟩
  obtain ⟨e2, n2, hh2, v2⟩ := set_here n1 h77.good (c := d) (by rw [pd]; exact (hh1 _).2 hh0) yd mY
  have hC84 := k84.row (hC77.ext xd2)
  have hD84 := k84.row (hD77.ext xd2)
  have hA84 := k84.row (hA77.ext xd2)
  have hB84 := k84.row (hB77.ext xd2)
  have q84 := wsC_len l1 ch1 d Y
  generalize hl2 : (setE l1 d Y).1 = l2 at *
  generalize wsC l1 ch1 d Y = ch2 at *
  have hc2 : here1 l2 (pos c) := by rw [pc]; exact (hh2 _).2 ((hh1 _).2 hh0)
  have hd2 : here1 l2 (pos d) := by rw [pd]; exact (hh2 _).2 ((hh1 _).2 hh0)
  obtain ⟨s1, n3, hh3, v3⟩ := swap_here n2 h84.good hc2 yc hd2 yd
  refine ⟨_, rfl, k84 _ _ (hA77.ext xd2), k84 _ _ (hB77.ext xd2), _, _, _, row_at hC84, (wsAt_spec h84 c okc).mono ?_⟩
  rintro e w89 ⟨rfl, x89⟩
  refine ⟨_, rfl, x89.heap hA84.lt, x89.heap hB84.lt, _, _, _, row_at (hD84.ext x89), (wsAt_spec (h84.ext x89) d okd).mono ?_⟩
  rintro e w94 ⟨rfl, x94⟩
  have x8494 := x89.tr x94
  have hC94 := hC84.ext x8494
  have hD94 := hD84.ext x8494
  have hA94 := hA84.ext x8494
  have hB94 := hB84.ext x8494
  have h94 := h84.ext x8494
  refine ⟨_, rfl, x94.heap (hA84.ext x89).lt, x94.heap (hB84.ext x89).lt, _, _, _, row_at hC94, _, _, _, row_at hD94, (wsSwap_spec h94 c d okc okd (by simp at q77; omega)).mono ?_⟩
  rintro e w102 ⟨rfl, h102, k102⟩
  have hC102 := k102.row hC94
  have hD102 := k102.row hD94
  have hA102 := k102.row hA94
  have hB102 := k102.row hB94
  have q102 : (swC l2 ch2 c d).length ≤ ch2.length + 2 := by
    unfold swC
    split
    · omega
    · have := wsC_len (setE l2 c (atE l2 d)).1 (wsC l2 ch2 c (atE l2 d)) d (atE l2 c)
      have := wsC_len l2 ch2 c (atE l2 d)
      omega
  rw [s1]
  have vc : atE (swL l2 c d) c = atE l2 d := by
    rw [v3]
    by_cases h : c = d
    · rw [if_pos h, h]
    · rw [if_neg h, if_pos rfl]
  have vd : atE (swL l2 c d) d = atE l2 c := by rw [v3, if_pos rfl]
  generalize hl3 : swL l2 c d = l3 at *
  generalize swC l2 ch2 c d = ch3 at *
  refine ⟨_, rfl, k102 _ _ hA94, k102 _ _ hB94, nope rfl ?_⟩
  refine ⟨_, _, _, row_at hC102, (wsAt_spec h102 c okc).mono ?_⟩
  rintro e w107 ⟨rfl, x107⟩
  refine ⟨_, rfl, x107.heap hA102.lt, x107.heap hB102.lt, nope (by rw [vc]; simp) ?_⟩
  refine ⟨_, _, _, row_at (hD102.ext x107), (wsAt_spec (h102.ext x107) d okd).mono ?_⟩
  rintro e w112 ⟨rfl, x112⟩
  have xx := x107.tr x112
  have hC112 := hC102.ext xx
  have hD112 := hD102.ext xx
  have hA112 := hA102.ext xx
  have hB112 := hB102.ext xx
  have h112 := h102.ext xx
  refine ⟨_, rfl, x112.heap (hA102.ext x107).lt, x112.heap (hB102.ext x107).lt, nope (by rw [vd]; simp) ?_⟩
  refine ⟨_, _, _, row_at hD112, _, _, _, row_at hC112, (wsSwap_spec h112 d c okd okc (by simp at q77; omega)).mono ?_⟩
  rintro e w120 ⟨rfl, h120, k120⟩
  obtain ⟨s2, n4, hh4, v4⟩ := swap_here n3 h112.good (a := d) (b := c) ((hh3 _).2 hd2) yd ((hh3 _).2 hc2) yc
  have hC120 := k120.row hC112
  have hD120 := k120.row hD112
  have hA120 := k120.row hA112
  have hB120 := k120.row hB112
  rw [s2]
  have vc4 : atE (swL l3 d c) c = atE l2 c := by rw [v4, if_pos rfl, vd]
  have vd4 : atE (swL l3 d c) d = atE l2 d := by
    rw [v4]
    by_cases h : d = c
    · rw [if_pos h, vd, h]
    · rw [if_neg h, if_pos rfl, vc]
  generalize swL l3 d c = l4 at *
  refine ⟨_, rfl, k120 _ _ hA112, k120 _ _ hB112, yes rfl ?_⟩
  refine ⟨_, _, _, row_at hC120, (wsAt_spec h120 c okc).mono ?_⟩
  rintro e w125 ⟨rfl, x125⟩
  refine ⟨_, rfl, x125.heap hA120.lt, x125.heap hB120.lt, yes (by rw [vc4]; simp) ?_⟩
  refine ⟨_, _, _, row_at (hD120.ext x125), (wsAt_spec (h120.ext x125) d okd).mono ?_⟩
  rintro e w130 ⟨rfl, x130⟩
  refine ⟨_, rfl, x130.heap (hA120.ext x125).lt, x130.heap (hB120.ext x125).lt, yes (by rw [vd4]; simp) ?_⟩
  refine (lives13_spec w130).mono ?_
  rintro e w132 ⟨rfl, x132⟩
  have xl := x125.tr x130
  exact ⟨_, rfl, x132.heap (hA120.ext xl).lt, x132.heap (hB120.ext xl).lt, rfl, x1.tr ((h120.x.tr xl).tr x132)⟩
end Go.Proofs.YtbnmglonbhdcbaaGreatDoor
