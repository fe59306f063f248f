import Derived.Test.YtalpkjfpmdpbiaaGreatDoorZA
import Derived.Test.YtalpkjfpmdpbiaaGreatDoorGX
set_option linter.all false
namespace Go.Proofs.YtalpkjfpmdpbiaaGreatDoor
open Go Go.Vc Go.RowKit Go.Proofs Go.bQ Go.aB Go.Code Go.kW Go.mw
set_option maxRecDepth 100000
theorem By (aa : Int) {X Y Z : Int} (hX : AV X Z) (hY : 14 ≤ Y ∧ Y ≤ 22) :
  Cm aa X Y Z (ground aa X Z) Y 0 7 (dU ⟨aa, 5, (eP 0, l5 aa 5), [], ⟨4096, 0, []⟩, 64, 0, []⟩ (X, Y, Z) 3) := by
 have hgr := y4 aa X Z
 have hL0 : Lv ⟨aa, 5, (eP 0, l5 aa 5), [], ⟨4096, 0, []⟩, 64, 0, []⟩ (V0 aa) := ⟨BU aa, rfl, fun x hx => by cases hx⟩
 have hsk : nC ⟨aa, 5, (eP 0, l5 aa 5), [], ⟨4096, 0, []⟩, 64, 0, []⟩ 0 := ⟨JC, Nat.le_refl _, JD, Nat.le_refl _⟩
 have hst : St 64 (dU ⟨aa, 5, (eP 0, l5 aa 5), [], ⟨4096, 0, []⟩, 64, 0, []⟩ (X, Y, Z) 3) 7 := ⟨hL0.edit _ _, (hsk.edit _ _).mono (by omega), rfl⟩
 have hd : ∀ n ∈ fL (X, Y, Z), ay (V0 aa n) = 0 := fun n hn => by
  unfold AV at hX
  unfold fL aS ma at hn
  simp only [List.mem_cons, List.not_mem_nil, or_false] at hn
  rcases hn with rfl | rfl | rfl | rfl | rfl | rfl <;> exact Ey (by unfold rK; simp only; omega) (by simp only; omega)
 obtain ⟨l', ch', a1, a2, a3, -⟩ := om (M := ⟨aa, 5, (eP 0, l5 aa 5), [], ⟨4096, 0, []⟩, 64, 0, []⟩) (V := V0 aa) (c := (X, Y, Z)) (BU aa) (qP hX Y).pos (by unfold fx; simp only; omega) hd
 rw [a2] at hst ⊢
 have hq : (cX ⟨4096, 0, []⟩ (X, Y, Z) (0 + 2)).1 = ⟨4096, 0, [(2, (X, Y, Z))]⟩ := rfl
 have hat : cD l' = cK (V0 aa) (X, Y, Z) 3 := funext a3.v
 refine ⟨hst, ?_, He.add _ _, ?_, ?_, ?_, ?_⟩
 ·rw [show cD ({ aa := aa, cap := 5, T := (eP 0, l'), ch := ch', q := (cX ⟨4096, 0, []⟩ (X, Y, Z) (0 + 2)).1, aO := 64, now := 0, eT := [] } : Sm).T.2 = cK (V0 aa) (X, Y, Z) 3 from hat]
  refine ⟨fun n hn => jt (by rintro rfl; simp at hn), fun y hy => jt (by intro q; have := congrArg (·.2.1) q; simp only at this; omega), dN _ _ _, fun y hy => .inl ?_⟩
  rw [jt (by intro q; have := congrArg (·.2.1) q; simp only at this; omega)]
  by_cases q : fx (X, y, Z)
  ·rw [qv aa (qP hX y) q]
   rcases AT (y := y) hgr (by omega) with q | ⟨-, q⟩
   ·exact q
   ·omega
  ·rcases AS aa (qP hX y) q with q | ⟨q, -⟩
   ·exact q
   ·simp only at q; omega
 ·show (0 : Int) = 2 * (Y - Y) + 0
  omega
 ·show (([(2, (X, Y, Z))] : List Go.kW.It).length : Int) ≤ _
  simp only [List.length_singleton]
  omega
 ·show (2 * (Y - Y) + 2, (X, Y, Z)) ∈ ([(2, (X, Y, Z))] : List Go.kW.It)
  rw [show 2 * (Y - Y) + 2 = 2 from by omega]
  exact .head _
 ·intro x hx
  have hx : x ∈ ([(2, (X, Y, Z))] : List Go.kW.It) := hx
  rw [List.mem_singleton.1 hx]
  exact .inl rfl
set_option maxHeartbeats 1000000 in
theorem yC (aa : Int) (c : Ce) (w : World) : Calls Tryz.prog mj #[aa, mq c] w fun e w' => e = .returned (.bool true) ∧ Ext w w' := by
 apply kq.vc
 intro w0 e0
 have x0 : Ext w w0 := (Ext.aq _).ab e0
 have z0 := dR e0
 clear e0
 refine (uY aa 64 ⟨none, 0, 0⟩ rfl w0).mono ?_
 rintro e w9 ⟨s, o, t, F0, occ, s1, s2, s3, rfl, hS0, hO0, -, x9, fF⟩
 have hO0 := hO0.mono (F' := F0) fun i hi => .inl hi
 have z9 := x9.size
 have hb64 : min (max (64 : Int) 1) 64 = 64 := by decide
 have hS0 : SF F0 w9 s o t ⟨aa, 5, (eP 0, l5 aa 5), [], ⟨4096, 0, []⟩, 64, 0, []⟩ occ := by
  have := hS0
  unfold M5 at this
  rw [hb64] at this
  exact this
 refine ⟨_, _, _, _, _, _, s1, s2, s3, ⟨none, 0, 0⟩, _, _, ⟨none, 0, 0⟩, _, _, ⟨none, 0, 0⟩, ⟨none, 0, 0⟩, rfl, x9.k, fun w27 e27 w28 e28 => uS rfl ?_⟩
 have x28 : Ext w9 w28 := ((Ext.aq _).ab e27).ah e28 (Nat.le_refl _)
 have z28 := yA e27 e28
 clear e27 e28
 have hS28 := hS0.ext x28
 have hO28 := hO0.ext x28
 refine (zg hS28).mono ?_
 rintro e w30 ⟨rfl, hw⟩
 subst hw
 obtain ⟨Fw, hW, -, -⟩ := hS28.world
 refine ⟨_, rfl, rfl, rfl, uS rfl ((kT hW).mono ?_)⟩
 rintro e w32 ⟨rfl, hw⟩
 subst hw
 refine ⟨_, rfl, rfl, rfl, ?_⟩
 rw [EY, zB, DU]
 refine uS rfl ((Ac c w32).mono ?_)
 rintro e w25 ⟨rfl, x25⟩
 have z25 := x25.size
 have hm := Ch c
 generalize vY c = m at *
 obtain ⟨X, Y, Z⟩ := m
 have hX : AV X Z := ⟨hm.1, hm.2.2⟩
 have hY : 14 ≤ Y ∧ Y ≤ 22 := hm.2.1
 clear hm
 have hgr := y4 aa X Z
 have hF0 := By aa hX hY
 have hhard : Dw (ground aa X Z) (Wg aa X Z (ground aa X Z)) := Ik hX rfl
 have wide : ∀ y : Int, 0 ≤ y → y ≤ 100 → cW (X, y, Z) := fun y h1 h2 => by unfold AV at hX; unfold cW; simp only; omega
 have hup : ∀ y, ground aa X Z ≤ y → y ≤ 30 → V0 aa (X, y, Z) = 0 ∨ V0 aa (X, y, Z) = 8 ∧ y ≤ 8 := fun y h1 h2 => by
  rw [qv aa (qP hX y) (by unfold fx; simp only; omega)]
  exact AT hgr h1
 have hlw : V0 aa (X, ground aa X Z - 1, Z) = 1 ∨ V0 aa (X, ground aa X Z - 1, Z) = 2 ∨ V0 aa (X, ground aa X Z - 1, Z) = 3 := by
  rw [qv aa (qP hX _) (by unfold fx; simp only; omega)]
  exact (BV hgr (by simp only; omega)).1
 generalize hge : ground aa X Z = g at *
 refine ⟨X, Y, Z, rfl, x25.k, x25.k, fun w29 e29 wb eb => ?_⟩
 have xb : Ext w25 wb := ((Ext.aq _).ab e29).ah eb (Nat.le_refl _)
 have zb := yA e29 eb
 clear e29 eb
 have x28b : Ext w32 wb := x25.tr xb
 have hSb := hS28.ext x28b
 have hOb := hO28.ext x28b
 have x0b : Ext w wb := x0.tr (x9.tr (x28.tr x28b))
 have fFb : ∀ i, F0 i → w.heap.size ≤ i := fun i hi => by have := fF i hi; omega
 have nf : ∀ {wr : World} {F1 F2 : Nat → Prop} {a b : World}, Ext wb wr → ao F0 F1 wr a → ao F1 F2 a b → ∀ i, (i = w.heap.size ∨ i = w9.heap.size ∨ i = w25.heap.size) → b.heap[i]? = a.heap[i]? := fun xr ta tb i hi => tb.mod.same _ (by have := ta.mod.size; have := xr.size; omega) fun hf => by
  have := xr.size
  rcases ta.sub _ hf with q | q
  ·have := hS0.lt q; have := fF i q; omega
  ·omega
 refine ⟨fun y wr => y = g ∧ Ext wb wr, ⟨fun n y wr => y = g + n ∧ y ≤ Y ∧ Ext wb wr, ⟨(Y - g).toNat, rfl, rfl, rfl, by omega, Int.le_refl _, Ext.aq _⟩, ?_⟩, ?_⟩
 ·rintro n us y wr ⟨rfl, hy, xr⟩
  have zr := xr.size
  have wk : IntKind.wrap .i64 (g + (n : Int) - 1) = g + (n : Int) - 1 := wI
  rw [wk]
  refine Br.mk (fun _ => aQ ((hSb.ext xr).tl.at (c := (X, g + (n : Int) - 1, Z)) (wide _ (by omega) (by omega)).ok) ?_) (fun q => ?_)
  ·rintro e w38 ⟨rfl, x38⟩
   have z38 := x38.size
   refine ⟨_, rfl, x38.k, x38.k, x38.k, ?_⟩
   show Br ((V0 aa (X, g + (n : Int) - 1, Z)) == 0) _ _
   by_cases hn : n = 0
   ·subst hn
    rw [show g + ((0 : Nat) : Int) - 1 = g - 1 from by omega]
    refine uS (by rcases hlw with q | q | q <;> (rw [q]; rfl)) (aQ ((hSb.ext (xr.tr x38)).tl.at (c := (X, g - 1, Z)) (wide _ (by omega) (by omega)).ok) ?_)
    rintro e w40 ⟨rfl, x40⟩
    have z40 := x40.size
    refine ⟨_, rfl, x40.k, x40.k, x40.k, ?_⟩
    show Br (decide ((V0 aa (X, g - 1, Z)) ≥ 8)) _ _
    exact uS (by rcases hlw with q | q | q <;> (rw [q]; rfl)) ⟨rfl, rfl, rfl, by omega, xr.tr (x38.tr x40)⟩
   ·rcases hup (g + (n : Int) - 1) (by omega) (by omega) with q | ⟨q, -⟩
    ·exact yes (by rw [q]; rfl) ⟨n - 1, by omega, rfl, rfl, rfl, by omega, by omega, xr.tr x38⟩
    ·refine uS (by rw [q]; rfl) (aQ ((hSb.ext (xr.tr x38)).tl.at (c := (X, g + (n : Int) - 1, Z)) (wide _ (by omega) (by omega)).ok) ?_)
     rintro e w40 ⟨rfl, x40⟩
     have z40 := x40.size
     refine ⟨_, rfl, x40.k, x40.k, x40.k, ?_⟩
     show Br (decide ((V0 aa (X, g + (n : Int) - 1, Z)) ≥ 8)) _ _
     exact yes (by rw [q]; rfl) ⟨n - 1, by omega, rfl, rfl, rfl, by omega, by omega, xr.tr (x38.tr x40)⟩
  ·replace q := eO q
   omega
 rintro us y w44 ⟨rfl, x44⟩
 have z44 := x44.size
 refine ⟨fun wr => Ext wb wr, Br.mk (fun _ => aQ ((hSb.ext x44).tl.at (c := (X, Y, Z)) (wide _ (by omega) (by omega)).ok) ?_) (fun _ => ⟨rfl, rfl, rfl, x44⟩), ?_⟩
 ·rintro e w46 ⟨rfl, x46⟩
  have z46 := x46.size
  refine ⟨_, rfl, x46.k, x46.k, x46.k, ?_⟩
  show Br ((V0 aa (X, Y, Z)) != 0) _ _
  rcases hup Y (by omega) (by omega) with q | ⟨-, q⟩
  ·exact uS (by rw [q]; rfl) ⟨rfl, rfl, rfl, x44.tr x46⟩
  ·omega
 intro us w51 x51
 have z51 := x51.size
 have hsk : nC ⟨aa, 5, (eP 0, l5 aa 5), [], ⟨4096, 0, []⟩, 64, 0, []⟩ 0 := ⟨JC, Nat.le_refl _, JD, Nat.le_refl _⟩
 refine (lO (hSb.ext x51) (X, Y, Z) (wide _ (by omega) (by omega)) 3 (hsk.mono (by omega))).mono ?_
 rintro e w52 ⟨rfl, F1, hS1, t1⟩
 have kp := nf x51 (ao.refl _ _) t1
 refine ⟨_, rfl, kp _ (.inl rfl), kp _ (.inr (.inl rfl)), kp _ (.inr (.inr rfl)), ?_⟩
 have wY : IntKind.wrap .i64 (Y - y) = Y - y := wI
 have wY2 : IntKind.wrap .i64 (2 * (Y - y)) = 2 * (Y - y) := wI
 rw [wY, wY2]
 clear kp
 refine ⟨fun n x wr => ∃ (k j : Nat) (M : Sm) (F' : Nat → Prop), x = k ∧ (k : Int) + n = 2 * (Y - y) ∧ (k = 2 * j ∧ Cm aa X Y Z y (Y - j) 0 (7 + 2560 * k) M ∨ k = 2 * j + 1 ∧ Cm aa X Y Z y (Y - j) 1 (7 + 2560 * k) M) ∧ SF F' wr s o t M occ ∧ ao F0 F' w51 wr, ⟨(2 * (Y - y)).toNat, rfl, rfl, rfl, 0, 0, _, F1, rfl, by omega, .inl ⟨rfl, by
  rw [show Y - ((0 : Nat) : Int) = Y from by omega]
  exact hF0⟩, hS1, t1⟩, ?_⟩
 clear hF0 hS1 t1
 rintro n us2 x wr ⟨k, j, M, F', rfl, hk, hF, hS, hT⟩
 have hOr := (hOb.ext x51).eK hT
 have zr := hT.mod.size
 refine Br.mk (fun hb => ?_) (fun hb => ?_)
 ·replace hb := eN hb
  have hst : St 64 M (7 + 2560 * k) := hF.elim (fun q => q.2.st) (fun q => q.2.st)
  obtain ⟨V, hV⟩ := hst.v
  refine (kK hS hOr hV.due.1 (hst.k.mono (by omega)) (by rw [hst.b]; decide)).mono ?_
  rintro e w53 ⟨rfl, F2, hS2, t2⟩
  have kp := nf x51 hT t2
  have wk : IntKind.wrap .i64 ((k : Int) + 1) = ((k + 1 : Nat) : Int) := by rw [wI]; omega
  refine ⟨_, rfl, kp _ (.inl rfl), kp _ (.inr (.inl rfl)), kp _ (.inr (.inr rfl)), n - 1, by omega, rfl, rfl, rfl, ?_⟩
  rcases hF with ⟨hk2, hF⟩ | ⟨hk2, hF⟩
  ·refine ⟨k + 1, j, _, F2, wk, by omega, .inr ⟨by omega, ?_⟩, hS2, hT.trans t2⟩
   have := hF.wait (by omega) (by omega) (by omega) Ck
   rw [show 7 + 2560 * (k + 1) = 7 + 2560 * k + 2560 from by omega]
   exact this
  ·refine ⟨k + 1, j + 1, _, F2, wk, by omega, .inl ⟨by omega, ?_⟩, hS2, hT.trans t2⟩
   have := hF.step hX hge.symm (by omega) (by omega)
   rw [show 7 + 2560 * (k + 1) = 7 + 2560 * k + 2560 from by omega, show Y - ((j + 1 : Nat) : Int) = Y - (j : Int) - 1 from by omega]
   exact this
 ·replace hb := eO hb
  have hF : Cm aa X Y Z y y 0 (7 + 2560 * k) M := by
   rcases hF with ⟨hk2, hF⟩ | ⟨hk2, hF⟩
   ·rw [show Y - (j : Int) = y from by omega] at hF
    exact hF
   ·omega
  have h3 : cD M.T.2 (X, y, Z) = 3 := hF.vh.pt
  refine aQ (hS.tl.at (c := (X, y, Z)) (wide _ (by omega) (by omega)).ok) ?_
  rintro e w55 ⟨rfl, x55⟩
  have z55 := x55.size
  refine ⟨_, rfl, x55.k, x55.k, x55.k, ?_⟩
  have hR : Iz X Z y (Wg aa X Z y) (7 + 2560 * k + 2560 * 0) M := hF.rest
  have T55 := hT.trans (ao.ar x55)
  refine (GP (O := Ck) (fun i M => Iz X Z y (Wg aa X Z y) (7 + 2560 * k + 2560 * i) M) (fun i N hi hJ => by
   obtain ⟨V, hV⟩ := hJ.st.v
   exact ⟨hV.due.1, hJ.st.k.mono (by omega), by rw [hJ.st.b]; decide, by
    have := hJ.tick hhard
    rw [show 7 + 2560 * k + 2560 * (i + 1) = 7 + 2560 * k + 2560 * i + 2560 from by omega]
    exact this⟩) (hS.ext x55) (hOr.ext x55) hR).mono ?_
  rintro e w57 ⟨r, k2, N, rfl, hJ, F3, hS3, t3⟩
  have kp := nf x51 T55 t3
  refine ⟨_, rfl, kp _ (.inl rfl), kp _ (.inr (.inl rfl)), kp _ (.inr (.inr rfl)), ?_⟩
  have T57 := T55.trans t3
  have z57 := T57.mod.size
  show Br ((cD M.T.2 (X, y, Z)) == 3) _ _
  refine yes (by rw [h3]; rfl) (aQ (hS3.tl.at (c := (X, y, Z)) (wide _ (by omega) (by omega)).ok) ?_)
  rintro e w59 ⟨rfl, x59⟩
  have z59 := x59.size
  refine ⟨_, rfl, x59.k, x59.k, x59.k, ?_⟩
  have h4 : cD N.T.2 (X, y, Z) = 3 := by
   rw [hJ.k (X, y, Z) ⟨rfl, rfl, by simp only; omega, Int.le_refl _⟩]
   exact if_pos rfl
  show Br ((cD N.T.2 (X, y, Z)) == 3) _ _
  refine yes (by rw [h4]; rfl) ((yt w59).mono ?_)
  rintro e w61 ⟨rfl, x61⟩
  obtain ⟨x57, -⟩ := T57.fresh (x0b.tr x51) fFb
  exact ⟨true, rfl, x61.k, x61.k, x61.k, rfl, x57.tr (x59.tr x61)⟩
end Go.Proofs.YtalpkjfpmdpbiaaGreatDoor
