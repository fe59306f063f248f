import Derived.Test.YtalpkjfpmdpbiaaGreatDoorYD
import Derived.Test.YtalpkjfpmdpbiaaGreatDoorWB
import Derived.Test.YtalpkjfpmdpbiaaGreatDoorRF
import Derived.Test.YtalpkjfpmdpbiaaGreatDoorGC
set_option linter.all false
namespace Go.Proofs.YtalpkjfpmdpbiaaGreatDoor
open Go Go.Vc Go.RowKit Go.Proofs Go.bY Go.aD Go.Code Go.j3 Go.ij
set_option maxRecDepth 100000
abbrev E5:TypeId:=33
abbrev K8:TypeId:=89
abbrev cx:TypeId:=39
theorem J9 (ae limit room : Int) {l : List En} (hl : (l.length : Int) < limit) {p : Po} (hp : pJ p) (hn : ∀ e ∈ l, e.1 ≠ p) : y4 ae limit (fW room) l p = ((fW room, l ++ [(p, made ae p, false, 0)]), 0) := by
 have hr : bU limit (fW room) l = ((fW room, l), 0) := by unfold bU; rw [if_pos hl]
 have hd : (qp (fW room) (mY p)).1 = [] := by unfold fW; rw [IE]
 have hf : aU (fun e : En => e.1 == p) l = -1 := g9 fun y hy => by simpa using hn y hy
 unfold y4
 rw [if_neg (by simpa using hp), if_neg (by rw [hf]; decide), hr, if_neg (by simp)]
 simp only [hd, C6]
theorem G8(ae:Int){k:Nat}(hk:k<=5):(l5 ae k).length=k:=by
 unfold l5
 rw [List.length_map,List.length_take]
 have:dC.length=5:=rfl
 omega
theorem IK (ae : Int) {k : Nat} {p : Po} (hp : dC[k]? = some p) : l5 ae (k + 1) = l5 ae k ++ [(p, made ae p, false, 0)] := by
 unfold l5
 rw [List.take_add_one, hp, List.map_append]
 rfl
theorem D6{k:Nat}{p:Po}(hp:dC[k]? =some p):pJ p/\p ∉ dC.take k:=by
 have hk:k<5:=(List.getElem?_eq_some_iff.1 hp).1
 have:k=0\/k=1\/k=2\/k=3\/k=4:=by omega
 rcases this with rfl|rfl|rfl|rfl|rfl<;>(cases hp;decide)
theorem C7 (ae : Int) {k : Nat} {p : Po} (hp : dC[k]? = some p) : ∀ e ∈ l5 ae k, e.1 ≠ p := fun e he q => by
 obtain ⟨x, hx, rfl⟩ := List.mem_map.1 he
 exact (D6 hp).2 (q ▸ hx)
theorem KT (ae : Int) {k : Nat} {p : Po} (hp : dC[k]? = some p) : y4 ae 5 (fW 0) (l5 ae k) p = ((fW 0, l5 ae (k + 1)), 0) := by
 have hk : k < 5 := (List.getElem?_eq_some_iff.1 hp).1
 rw [J9 ae 5 0 (by rw [G8 ae (by omega)]; omega) (D6 hp).1 (C7 ae hp), IK ae hp]
theorem yA (w : World) : Calls Tryz.prog vd #[(4096:Int)] w fun e w' => e = .returned (.agg #[(4096:Int), (0:Int), .slice none 0 0]) ∧ Ext w w' := by
 apply uw.vc
 intro w0 e0 w1 e1
 exact ⟨rfl, ((Ext.ao w).aa e0).af e1 (Nat.le_refl _)⟩
abbrev LB (ae cap : Int) (d : Dk) (s1 s2 s3 s4 : Sl) (b : Int) : List Value := [.int .i64 ae, .int .i64 cap, .int .i64 d.room, .int .i64 d.cS, .int .i64 d.wait, .slice s1.a s1.n s1.c, .slice s2.a s2.n s2.c, .slice s3.a s3.n s3.c, .slice s4.a s4.n s4.c, .int .i64 4096, .int .i64 0, .slice none 0 0, .int .i64 (min (max b 1) 64), .int .i64 0, .slice none 0 0, .slice none 0 0]
theorem yB (ae cap : Int) (d : Dk) (s1 s2 s3 s4 : Sl) (b : Int) (w : World) : Calls Tryz.prog uO #[KO ae cap d s1 s2 s3 s4, b] w fun e w' => e = .returned (.agg (LB ae cap d s1 s2 s3 s4 b).toArray) ∧ Ext w w' := by
 apply (te.vc (a0_5 := s1) (a0_6 := s2) (a0_7 := s3) (a0_8 := s4))
 intro w0 e0 w1 e1
 have x1 : Ext w w1.drew := (((Ext.ao _).aa e0).aa e1).tr (Ext.dr w1)
 have z0 := cL e0
 have z1 : w1.drew.heap.size = w.heap.size + 2 := by show w1.heap.size = _; rw [e1]; simp [z0]
 have r1 : Row w1.drew w.heap.size (LC ae cap d s1 s2 s3 s4) E5 := ((by rw [e0]; exact Row.new w [_, _, _, _, _, _, _, _, _] _ : Row w0 w.heap.size _ E5).ext ((Ext.ao _).aa e1)).ext (Ext.dr w1)
 clear e0 e1
 refine (yA w1.drew).mono ?_
 rintro e w2 ⟨rfl, x2⟩
 have eb : (if 64 < (if 1 > b then 1 else b) then 64 else (if 1 > b then 1 else b)) = min (max b 1) 64 := by
  split <;> split <;> omega
 refine ⟨_, _, ⟨none, 0, 0⟩, rfl, x2.k, x2.k, Lo.wv (r1.ext x2), fun w6 e6 => ?_⟩
 rw [eb]
 exact ⟨rfl, (x1.tr x2).af e6 (by omega)⟩
theorem BI (c : Ce) {g : Nat} {w : World} {τ : TypeId} (hr : Row w g [.slice none 0 0] τ) : Calls Tryz.prog mX #[iR c, .pointer (some ⟨g, 0, none⟩)] w fun e w' => e = .returned (.bool false) ∧ Ext w w' := by
 apply kI.vc
 intro w0 e0
 have x0 : Ext w w0 := (Ext.ao _).aa e0
 clear e0
 refine ⟨fun n x w' => n = 0 ∧ x = 0 ∧ w' = w0, ⟨0, rfl, rfl, rfl, rfl⟩, ?_⟩
 rintro n us x w5 ⟨rfl, rfl, rfl⟩
 have h1 := (hr.ext x0).at 0 rfl
 rw [ba] at h1
 exact ⟨⟨none, 0, 0⟩, h1, Br.mk (fun q => by simp at q) (fun _ => ⟨rfl, x0⟩)⟩
abbrev M5 (ae ax : Int) : Sm := ⟨ae, 5, (fW 0, l5 ae 5), [], ⟨4096, 0, []⟩, min (max ax 1) 64, 0, []⟩
abbrev G9 : List Value := [.int .i64 0, .int .i64 0, .int .i64 (-1), .int .i64 0, .int .i64 1, .int .i64 0, .int .i64 0, .int .i64 (-1), .int .i64 0, .int .i64 1]
theorem BJ {w : World} {g : Nat} {τ : TypeId} (hr : Row w g G9 τ) {k : Nat} {p : Po} (hp : dC[k]? = some p) : ah w (ab (some ⟨g, 0, none⟩) (((k : Nat) : Int).toNat * 2)) 0 [p.1, p.2] := by
 have hk : k < 5 := (List.getElem?_eq_some_iff.1 hp).1
 have h2 : G9[k * 2]? = some (.int .i64 p.1) ∧ G9[k * 2 + 1]? = some (.int .i64 p.2) := by
  have : k = 0 ∨ k = 1 ∨ k = 2 ∨ k = 3 ∨ k = 4 := by omega
  rcases this with rfl | rfl | rfl | rfl | rfl <;> (cases hp; exact ⟨rfl, rfl⟩)
 refine dp fun i u hu => ?_
 rw [cj, Nat.zero_add]
 match i, hu with
 | 0, hu => exact hr.at _ (by rw [← hu]; exact h2.1)
 | 1, hu => exact hr.at _ (by rw [← hu]; exact h2.2)
theorem qH (ae ax : Int) (sl : Sl) (hsl : sl.n = 0) (w : World) : Calls Tryz.prog lj #[ae, ax, sl] w fun e w' =>
  ∃ (s o t : Nat) (F : Nat → Prop) (occ : Value) (s1 s2 s3 : Sl), e = .returned (.tuple #[.pointer (some ⟨s, 0, none⟩), .agg (LB ae 5 (fW 0) s1 s2 s3 ⟨none, 0, 0⟩ ax).toArray]) ∧ SF F w' s o t (M5 ae ax) occ ∧ Oc occ (fun _ => false) (fun i => F i ∨ i < w.heap.size) w' ∧ RT (fun i => ¬ F i) w' (fW 0, l5 ae 5) s1 s2 s3 ∧ Ext w w' ∧ ∀ i, F i → w.heap.size ≤ i := by
 apply (oT.vc (a2 := sl))
 intro w0 e0
 have x0 : Ext w w0 := (Ext.ao _).aa e0
 have z0 := cL e0
 have ra0 : ∃ cs, Row w0 w.heap.size cs cx := ⟨_, by rw [e0]; exact Row.new w [_, _, _, _, _, _, _, _, _, _, _, _, _, _, _, _] _⟩
 clear e0
 obtain ⟨csa, ra0⟩ := ra0
 refine (Ey ae 5 0 w0).mono ?_
 rintro e w1 ⟨o, t, F0, rfl, hF0, x1, fF0⟩
 have hlim : (min (max (5 : Int) 1) 16) = 5 := by decide
 rw [hlim] at hF0
 have z1 := x1.size
 refine ⟨_, rfl, x1.k, (BK (P := fun i => ¬ F0 i ∧ i ≠ w.heap.size) ae 5 0 w1).mono ?_⟩
 rw [hlim]
 rintro e w3 ⟨sa0, sb0, sc0, rfl, h3, x3⟩
 have z3 := x3.size
 refine ⟨_, _, _, _, _, sa0, sb0, sc0, ⟨none, 0, 0⟩, rfl, x3.k, fun w13 e13 w14 e14 => ?_⟩
 have x14 : Ext w3 w14 := ((Ext.ao _).aa e13).af e14 (Nat.le_refl _)
 have z14 := rB e13 e14
 have rr14 : Row w14 w3.heap.size (LC ae 5 (fW 0) sa0 sb0 sc0 ⟨none, 0, 0⟩) E5 := by rw [e14]; exact Row.set (by rw [e13]; exact Row.new w3 [_, _, _, _, _, _, _, _, _] _) _
 clear e13 e14
 refine rT rfl ((A3 (hF0.ext (x3.tr x14))).mono ?_)
 rintro e w16 ⟨rfl, hw⟩
 subst hw
 refine ⟨_, rfl, rfl, rfl, rT rfl fun w19 e19 => ?_⟩
 have x19 : Ext w16 w19 := (Ext.ao _).aa e19
 have z19 := cL e19
 have rp19 : Row w19 w16.heap.size G9 K8 := by rw [e19]; exact Row.new w16 [_, _, _, _, _, _, _, _, _, _] _
 clear e19
 have x119 := x3.tr (x14.tr x19)
 have hR19 : RT (Nf (fun i => i ≠ w3.heap.size ∧ i ≠ w.heap.size) F0) w19 (fW 0, l5 ae 0) sa0 sb0 sc0 := h3.same fun i hp hi => ⟨(x14.tr x19).heap hi, hp.1, by omega, hp.2⟩
 refine ⟨fun n x sd cp ro fl wt sa sb sc sdd wr => ∃ (k : Nat) (F : Nat → Prop), x = k ∧ k + n = 5 ∧ sd = ae ∧ cp = 5 ∧ ro = (fW 0).room ∧ fl = (fW 0).cS ∧ wt = (fW 0).wait ∧ sdd = ⟨none, 0, 0⟩ ∧ WF F wr o t ae 5 (fW 0, l5 ae k) [] ∧ RT (Nf (fun i => i ≠ w3.heap.size ∧ i ≠ w.heap.size) F) wr (fW 0, l5 ae k) sa sb sc ∧ Ext w wr ∧ (∀ i, F i → w.heap.size ≤ i) ∧ Row wr w.heap.size csa cx ∧ (∃ cs, Row wr w3.heap.size cs E5) ∧ Row wr w16.heap.size G9 K8, ⟨5, rfl, rfl, 0, F0, rfl, rfl, rfl, rfl, rfl, rfl, rfl, rfl, hF0.ext x119, hR19, x0.tr (x1.tr x119), fun i hi => by have := fF0 i hi; omega, ra0.ext (x1.tr x119), ⟨_, rr14.ext x19⟩, rp19⟩, ?_⟩
 clear hR19 hF0 fF0 h3 ra0 rr14 rp19
 rintro n us x sd cp ro fl wt sa sb sc sdd wr ⟨k, F, rfl, hkn, rfl, rfl, rfl, rfl, rfl, rfl, hT, hR, xw, fF, hra, ⟨csr, hrr⟩, hrp⟩
 have l1 := hra.lt
 have l2 := hrr.lt
 have l3 := hrp.lt
 have i33 : sX cx ∧ sX E5 ∧ sX K8 := by decide
 refine Br.mk (fun hb => ?_) (fun hb => ?_)
 ·replace hb := dj hb
  have hk : k < 5 := by omega
  obtain ⟨p, hp⟩ := aI (l := dC) (i := k) (by have : dC.length = 5 := rfl; omega)
  have hld := KT sd hp
  have hl5 := G8 sd (k := k) (by omega)
  have wk : IntKind.wrap .i64 ((k : Int) + 1) = ((k + 1 : Nat) : Int) := by rw [wI]; omega
  refine ⟨⟨rfl, by omega, hb⟩, p.1, p.2, BJ hrp hp, (BF hT (Nat.zero_le _) p).mono ?_⟩
  rintro e w37 ⟨rfl, hr⟩
  rw [hld] at hr
  obtain ⟨F', h', ht⟩ := hr
  have kp : ∀ {j : Nat} {cs : List Value} {τ : TypeId}, Row wr j cs τ → sX τ → τ ≠ nz → τ ≠ cV → w37.heap[j]? = wr.heap[j]? := fun hr q1 q2 q3 => ht.mod.same _ hr.lt (hT.aZ hr q1 q2 q3)
  have ka := kp hra i33.1 (by decide) (by decide)
  have kr := kp hrr i33.2.1 (by decide) (by decide)
  have kp5 := kp hrp i33.2.2 (by decide) (by decide)
  have ra37 := hra.same ka
  have rr37 := hrr.same kr
  have rp37 := hrp.same kp5
  have z37 := ht.mod.size
  have hR37 : RT (Nf (fun i => i ≠ w3.heap.size ∧ i ≠ w.heap.size) F') w37 (fW 0, l5 sd k) sa sb sc := hR.same fun i hp hi => ⟨ht.mod.same i hi hp.1, fun q => (ht.sub i q).elim hp.1 (by omega), hp.2⟩
  obtain ⟨xw37, fF37⟩ := ht.fresh xw fF
  have xd := Ext.dr w37
  have zd : w37.drew.heap.size = w37.heap.size := rfl
  have ho : Ex (fW 0, l5 sd k) := hT.K6 (m := 0) (n := 0) ⟨Nat.zero_le _, (fun e he => by
   obtain ⟨x, hx, rfl⟩ := List.mem_map.1 he
   exact ⟨Int.le_refl _, Int.le_refl _⟩), (by
   have h5 := zQ sd
   unfold su at h5 ⊢
   have e5 : (l5 sd 5).map (·.1) = (l5 sd k).map (·.1) ++ ((dC.drop k).map fun p : Po => ((p, made sd p, false, (0 : Int)) : En)).map (·.1) := by
    rw [← List.map_append, l5, l5, ← List.map_append, List.take_append_drop]
    rfl
   rw [e5] at h5
   exact (List.nodup_append.1 h5).1)⟩ (by omega)
  have hin5 : inI 5 := by unfold inI; omega
  refine ⟨_, rfl, ka, kr, kp5, ⟨rfl, by omega, hb⟩, p.1, p.2, BJ (rp37.ext xd) hp, ?_, fun w54 e54 => ?_⟩
  ·refine (qc (ae := sd) (cap := 5) (hR37.ext xd) ((h'.fw (N := fun i => i ≠ w3.heap.size ∧ i ≠ w.heap.size) (fun i hi => ⟨by omega, by omega⟩)).ext xd) ho (Nat.zero_le _) hin5 p (by simp only; omega) (C7 sd hp)).mono ?_
   rintro e w41 ⟨ta, tb, tc, rfl, h41, x41⟩
   rw [hld] at h41 ⊢
   have z41 := x41.size
   refine ⟨_, _, _, _, _, ta, tb, tc, _, rfl, x41.k, x41.k, x41.k, fun w51 e51 w52 e52 w53 e53 => ?_⟩
   have x52 : Ext w41 w52 := ((Ext.ao _).aa e51).af e52 (Nat.le_refl _)
   clear e51 e52
   have xx := xd.tr (x41.tr x52)
   have rr52 := rr37.ext xx
   have h52 := h'.ext xx
   have hnw : ¬ F' w3.heap.size := h52.aZ rr52 i33.2.1 (by decide) (by decide)
   have n1 : w.heap.size ≠ w3.heap.size := by omega
   have n3 : w16.heap.size ≠ w3.heap.size := by omega
   exact ⟨n - 1, by omega, rfl, rfl, k + 1, F', wk, by omega, rfl, rfl, rfl, rfl, rfl, rfl, h52.same fun i hi => by rw [e53, setRow_other _ _ _ _ (fun q => hnw (by rw [← q]; exact hi))], (h41.ext x52).same fun i hp _ => ⟨by rw [e53, setRow_other _ _ _ _ hp.2.1], hp⟩, (xw37.tr xx).af e53 (by omega), fF37, (ra37.ext xx).same (by rw [e53, setRow_other _ _ _ _ n1]), ⟨_, by rw [e53]; exact Row.set rr52 _⟩, (rp37.ext xx).same (by rw [e53, setRow_other _ _ _ _ n3])⟩
  ·have x54 : Ext w37 w54 := xd.aa e54
   have z54 := cL e54
   clear e54
   refine (qc (ae := sd) (cap := 5) (P := Nf (fun i => i ≠ w3.heap.size ∧ i ≠ w.heap.size ∧ i ≠ w37.drew.heap.size) F') (hR37.same fun i hp hi => ⟨x54.heap hi, hp.1, hp.2.1, hp.2.2, by omega⟩) (fun i hi => ⟨fun q => by have := h'.lt q; omega, by omega, by omega, by omega⟩) ho (Nat.zero_le _) hin5 p (by simp only; omega) (C7 sd hp)).mono ?_
   rintro e w55 ⟨ta, tb, tc, rfl, h55, x55⟩
   rw [hld] at h55 ⊢
   have z55 := x55.size
   refine ⟨_, _, _, _, _, ta, tb, tc, _, rfl, x55.k, x55.k, x55.k, x55.k, fun w65 e65 w66 e66 => ?_⟩
   have xx := x54.tr x55
   have x65 : Ext w37 w65 := xx.af e65 (by omega)
   have h65 : RT (Nf (fun i => i ≠ w3.heap.size ∧ i ≠ w.heap.size) F') w65 (fW 0, l5 sd (k + 1)) ta tb tc := h55.same fun i hp _ => ⟨by rw [e65, setRow_other _ _ _ _ hp.2.2.2], hp.1, hp.2.1, hp.2.2.1⟩
   clear e65
   have rr65 := rr37.ext x65
   have h65' := h'.ext x65
   have hnw : ¬ F' w3.heap.size := h65'.aZ rr65 i33.2.1 (by decide) (by decide)
   have n1 : w.heap.size ≠ w3.heap.size := by omega
   have n3 : w16.heap.size ≠ w3.heap.size := by omega
   exact ⟨n - 1, by omega, rfl, rfl, k + 1, F', wk, by omega, rfl, rfl, rfl, rfl, rfl, rfl, h65'.same fun i hi => by rw [e66, setRow_other _ _ _ _ (fun q => hnw (by rw [← q]; exact hi))], h65.same fun i hp _ => ⟨by rw [e66, setRow_other _ _ _ _ hp.2.1], hp⟩, (xw37.tr x65).af e66 (by omega), fF37, (ra37.ext x65).same (by rw [e66, setRow_other _ _ _ _ n1]), ⟨_, by rw [e66]; exact Row.set rr65 _⟩, (rp37.ext x65).same (by rw [e66, setRow_other _ _ _ _ n3])⟩
 replace hb := dH hb
 have hk5 : k = 5 := by omega
 subst hk5
 refine (BA hT ax).mono ?_
 rintro e w67 ⟨s, Fs, rfl, hS, x67, fFs⟩
 have z67 := x67.size
 refine ⟨_, rfl, x67.k, x67.k, x67.k, (yB sd 5 (fW 0) sa sb sc ⟨none, 0, 0⟩ ax w67).mono ?_⟩
 rintro e w69 ⟨rfl, x69⟩
 have z69 := x69.size
 refine ⟨_, _, _, _, _, sa, sb, sc, ⟨none, 0, 0⟩, _, _, ⟨none, 0, 0⟩, _, _, ⟨none, 0, 0⟩, ⟨none, 0, 0⟩, rfl, x69.k, x69.k, x69.k, fun w86 e86 w87 e87 => ?_⟩
 have x87 : Ext w69 w87 := ((Ext.ao _).aa e86).af e87 (Nat.le_refl _)
 have z87 := rB e86 e87
 have rx87 : ∃ cs, Row w87 w69.heap.size cs cx := ⟨_, by rw [e87]; exact Row.set (by rw [e86]; exact Row.new w69 [_, _, _, _, _, _, _, _, _, _, _, _, _, _, _, _] _) _⟩
 obtain ⟨csx, rx87⟩ := rx87
 clear e86 e87
 have xx := x67.tr (x69.tr x87)
 refine ⟨fun a b c d e f g h i j k l m n o' p w' => a = sd ∧ b = 5 ∧ c = (fW 0).room ∧ d = (fW 0).cS ∧ e = (fW 0).wait ∧ f = ⟨sa.a, sa.n, sa.c⟩ ∧ g = ⟨sb.a, sb.n, sb.c⟩ ∧ h = ⟨sc.a, sc.n, sc.c⟩ ∧ i = ⟨none, 0, 0⟩ ∧ j = 4096 ∧ k = 0 ∧ l = ⟨none, 0, 0⟩ ∧ m = min (max ax 1) 64 ∧ n = 0 ∧ o' = ⟨none, 0, 0⟩ ∧ p = ⟨none, 0, 0⟩ ∧ w' = w87, ⟨fun q x a b c d e f g h i j k l m n o' p w' => x = 0 ∧ a = sd ∧ b = 5 ∧ c = (fW 0).room ∧ d = (fW 0).cS ∧ e = (fW 0).wait ∧ f = ⟨sa.a, sa.n, sa.c⟩ ∧ g = ⟨sb.a, sb.n, sb.c⟩ ∧ h = ⟨sc.a, sc.n, sc.c⟩ ∧ i = ⟨none, 0, 0⟩ ∧ j = 4096 ∧ k = 0 ∧ l = ⟨none, 0, 0⟩ ∧ m = min (max ax 1) 64 ∧ n = 0 ∧ o' = ⟨none, 0, 0⟩ ∧ p = ⟨none, 0, 0⟩ ∧ w' = w87, ⟨0, rfl, rfl, rfl, rfl, rfl, rfl, rfl, rfl, rfl, rfl, rfl, rfl, rfl, rfl, rfl, rfl, rfl, rfl, rfl, rfl, rfl⟩, ?_⟩, ?_⟩
 ·rintro q us x a b c d e f g h i j k l m n o' p w' ⟨rfl, rfl, rfl, rfl, rfl, rfl, rfl, rfl, rfl, rfl, rfl, rfl, rfl, rfl, rfl, rfl, rfl, rfl⟩
  refine Br.mk (fun q => by rw [hsl] at q; simp at q) (fun _ => ⟨rfl, rfl, rfl, rfl, rfl, rfl, rfl, rfl, rfl, rfl, rfl, rfl, rfl, rfl, rfl, rfl, rfl, rfl, rfl, rfl⟩)
 rintro us a b c d e f g h i j k l m n' o' p w' ⟨rfl, rfl, rfl, rfl, rfl, rfl, rfl, rfl, rfl, rfl, rfl, rfl, rfl, rfl, rfl, rfl, rfl⟩
 refine yes rfl fun w140 e140 w141 e141 => ?_
 have x141 : Ext w' w141 := ((Ext.ao _).aa e140).af e141 (Nat.le_refl _)
 have z141 : w141.heap.size = w'.heap.size + 1 := by rw [e141, e140]; simp
 have rb141 : ∃ τ, Row w141 w'.heap.size [.slice none 0 0] τ ∧ sX τ ∧ τ ≠ nz ∧ τ ≠ cV ∧ τ ≠ rG ∧ τ ≠ Q.du ∧ τ ≠ Q.aS ∧ τ ≠ jY := ⟨37, by rw [e141]; exact Row.set (by rw [e140]; exact Row.new w' [_] _) _, by decide⟩
 clear e140 e141
 obtain ⟨τb, rb141, ob⟩ := rb141
 have xx141 := xx.tr x141
 have hS141 := hS.ext (x69.tr (x87.tr x141))
 refine (Aq hS141 (.func 42) #[] #[.pointer (some ⟨w'.heap.size, 0, none⟩)]).mono ?_
 rintro e w142 ⟨rfl, ⟨F2, hS2, hT2⟩, hm2⟩
 obtain ⟨gS, sdS, hrS, -, hsF, -, -⟩ := hS141.row
 have hra141 := (hra.ext xx141)
 have hrr141 := (hrr.ext xx141)
 have hrp141 := (hrp.ext xx141)
 have hrx141 := rx87.ext x141
 have hsl : wr.heap.size ≤ s ∨ F s := (fFs s hsF).symm
 have hsw := hS.lt hsF
 have od : cx ≠ rG ∧ E5 ≠ rG ∧ K8 ≠ rG ∧ cx ≠ Q.du ∧ cx ≠ Q.aS ∧ cx ≠ jY := by decide
 have z142 := hm2.size
 refine ⟨rfl, hm2.same _ hra141.lt (hra141.ne hrS od.1), hm2.same _ hrr141.lt (hrr141.ne hrS od.2.1), hm2.same _ hrp141.lt (hrp141.ne hrS od.2.2.1), hm2.same _ hrx141.lt (hrx141.ne hrS od.1), fun w143 e143 => ?_⟩
 have xd142 := Ext.dr w142
 have zd142 : w142.drew.heap.size = w142.heap.size := rfl
 have hra142 := (hm2.row hra141 (hra141.ne hrS od.1)).ext xd142
 have rb142 := (hm2.row rb141 (rb141.ne hrS ob.2.2.2.1)).ext xd142
 have hS142 := hS2.ext xd142
 have hnw : ¬ F2 w.heap.size := hS142.j4 hra142 i33.1 (by decide) (by decide) od.1 od.2.2.2.1 od.2.2.2.2.1 od.2.2.2.2.2
 have hnb : ¬ F2 w'.heap.size := hS142.j4 rb142 ob.1 ob.2.1 ob.2.2.1 ob.2.2.2.1 ob.2.2.2.2.1 ob.2.2.2.2.2.1 ob.2.2.2.2.2.2
 have hS143 : SF F2 w143 s o t (M5 a ax) (.func (.func 42) #[] #[.pointer (some ⟨w'.heap.size, 0, none⟩)]) := hS142.same fun i hi => by rw [e143, setRow_other _ _ _ _ (fun q => hnw (by rw [← q]; exact hi))]
 have nbw : w'.heap.size ≠ w.heap.size := by have := xx.size; omega
 have rb143 : Row w143 w'.heap.size [.slice none 0 0] τb := rb142.same (by rw [e143, setRow_other _ _ _ _ nbw])
 have z143 := vj e143
 have hF2 : ∀ i, F2 i → w.heap.size ≤ i := fun i hi => by
  rcases hT2.sub i hi with q | q
  ·rcases fFs i q with q | q
   ·exact fF i q
   ·omega
  ·have := xx141.size; omega
 have hFr : ∀ i, ¬ F i → i < wr.heap.size → ¬ F2 i := fun i hn hi q => by
  have hx := xx141.size
  rcases hT2.sub i q with q | q
  ·exact (fFs i q).elim hn (by omega)
  ·omega
 refine ⟨s, o, t, F2, _, sa, sb, sc, rfl, hS143, ⟨fun i => i = w'.heap.size, fun i hi => ⟨by rw [hi]; exact rb143.lt, by rw [hi]; exact fun q => q.elim hnb (by have := xx.size; have := xw.size; omega)⟩, fun w2 hk c hc => ?_⟩, hR.same fun i hp hi => ⟨?_, hFr i hp.1 hi⟩, ?_, hF2⟩
 ·exact fD (by kernel_rfl) rfl (BI c (rb143.same (hk _ rfl)))
 ·rw [e143, setRow_other _ _ _ _ hp.2.2]
  have hx := xx141.size
  have hix : i ≠ s := fun q => by
   rcases fFs s hsF with q2 | q2
   ·exact hp.1 (q ▸ q2)
   ·omega
  exact (hm2.same i (by omega) hix).trans (xx141.heap hi)
 ·have hsw' : w.heap.size ≤ s := by
   rcases fFs s hsF with q2 | q2
   ·exact fF s q2
   ·omega
  exact ((hm2.ext (xw.tr xx141) fun i hi => hi ▸ hsw').tr xd142).af e143 (Nat.le_refl _)
end Go.Proofs.YtalpkjfpmdpbiaaGreatDoor
namespace Go.Proofs.YtalpkjfpmdpbiaaGreatDoor
open Go Go.Vc Go.RowKit Go.Proofs Go.bY Go.aD Go.Code Go.j3 Go.ij
set_option maxRecDepth 100000
theorem DT {c n : Ce} (h : n ∈ eK c) : n ≠ c := by
 unfold eK a8 rR at h
 simp only [List.mem_cons, List.not_mem_nil, or_false] at h
 intro q
 subst q
 rcases h with h | h | h | h | h | h <;> (have h1 := congrArg (·.1) h; have h2 := congrArg (·.2.1) h; have h3 := congrArg (·.2.2) h; simp only at h1 h2 h3; omega)
theorem lC(V:Ce->Int)(c:Ce)(b:Int):iu V c b c=b:=if_pos rfl
theorem gP{V:Ce->Int}{c c':Ce}{b:Int}(h:c'≠c):iu V c b c'=V c':=if_neg h
theorem Lg:aE 0=true:=by decide+kernel
theorem Lh:aE 3=true:=by decide+kernel
section
variable{M:Sm}{V:Ce->Int}{c:Ce}{O:Ce->Bool}
theorem DU{c:Ce}(hp:pos c=(0,0)):pos c ∈ dC:=by rw [hp];decide
theorem tz (hs : Hs M.T.2 V) (hp : pos c = (0, 0)) (hy : ig c) (hn : ∀ n ∈ eK c, aQ (V n) = 0) :
  ∃ l' ch', (aX M.T.2 c 3).2 = 0 ∧ dS M c 3 = { M with T := (M.T.1, l'), ch := ch', q := (bM M.q c (M.now + 2)).1 } ∧ Hs l' (iu V c 3) ∧ ch'.length ≤ M.ch.length + 1 := by
 obtain ⟨e1, h1⟩ := hs.set (DU hp) hy Lh
 have hf : cW (aX M.T.2 c 3).1 = iu V c 3 := funext h1.v
 have hw : eY (iu V c 3) c = [c] := CQ (by rw [lC, wE]; decide) fun n hm => by rw [gP (DT hm)]; exact hn n hm
 refine ⟨_, _, e1, ?_, h1, rS M.T.2 M.ch c 3⟩
 unfold dS
 rw [if_pos e1, hf]
 unfold m7
 rw [hw]
 show _ = ({ M with T := _, ch := _, q := _ } : Sm)
 simp only [List.foldl_cons, List.foldl_nil, lC, wE]
theorem Gu (hs : Hs M.T.2 V) (hp : pos c = (0, 0)) (hy : ig c) (hn : ∀ n ∈ eK c, aQ (V n) = 0) :
  ∃ l', (aX M.T.2 c 0).2 = 0 ∧ dS M c 0 = { M with T := (M.T.1, l'), ch := mV M.T.2 M.ch c 0 } ∧ Hs l' (iu V c 0) := by
 obtain ⟨e1, h1⟩ := hs.set (DU hp) hy Lg
 have hf : cW (aX M.T.2 c 0).1 = iu V c 0 := funext h1.v
 have hw : eY (iu V c 0) c = [] := Bf (by rw [lC]; exact lD) fun n hm => by rw [gP (DT hm)]; exact hn n hm
 refine ⟨_, e1, ?_, h1⟩
 unfold dS
 rw [if_pos e1, hf]
 unfold m7
 rw [hw]
 rfl
theorem JU (c : Ce) : a8 c ≠ c := DT (by simp [eK])
theorem Gv (hs : Hs M.T.2 V) (hp : pos c = (0, 0)) (hy : ig c) (hy2 : ig (a8 c)) (hV : V c = 3) (hl : V (a8 c) = 0) (hn : ∀ n ∈ eK c, aQ (V n) = 0) (hn2 : ∀ n ∈ eK (a8 c), n ≠ c → aQ (V n) = 0) (hO : O (a8 c) = false) :
  ∃ l' ch', gd O M c = { M with T := (M.T.1, l'), ch := ch', q := (bM M.q (a8 c) (M.now + 2)).1 } ∧ Hs l' (iu (iu V c 0) (a8 c) 3) ∧ ch'.length ≤ M.ch.length + 2 := by
 have hf : cW M.T.2 = V := funext hs.v
 have hr := JV hs hp
 have hnx : jz (cW M.T.2) c = [(c, 0), (a8 c, 3)] := by rw [hf]; exact Gw hV hl
 have hh : ¬ pV O M c = true := by unfold pV; rw [hO, Bool.and_false, Bool.and_false]; decide
 obtain ⟨l1, a1, a2, a3⟩ := Gu hs hp hy hn
 have hc1 : aR M (c, 0) = dS M c 0 := by unfold aR; rw [if_neg (by simp only; rw [hf, hV]; decide)]
 have e1 : aR M (c, 0) = { M with T := (M.T.1, l1), ch := mV M.T.2 M.ch c 0 } := hc1.trans a2
 have hn2' : ∀ n ∈ eK (a8 c), aQ (iu V c 0 n) = 0 := fun n hm => by
  by_cases q : n = c
  ·rw [q, lC]; exact lD
  ·rw [gP q]; exact hn2 n hm q
 obtain ⟨l2, ch2, b1, b2, b3, b4⟩ := tz (M := { M with T := (M.T.1, l1), ch := mV M.T.2 M.ch c 0 }) (c := a8 c) a3 hp hy2 hn2'
 have hc2 : aR { M with T := (M.T.1, l1), ch := mV M.T.2 M.ch c 0 } (a8 c, 3) = dS { M with T := (M.T.1, l1), ch := mV M.T.2 M.ch c 0 } (a8 c) 3 := by
  unfold aR
  rw [if_neg (by simp only; rw [a3.v, gP (JU c), hl]; decide)]
 refine ⟨l2, ch2, ?_, b3, by have := rS M.T.2 M.ch c 0; simp only at b4; omega⟩
 unfold gd
 rw [if_neg (by rw [hr]; decide), if_neg hh, hnx]
 show aR (aR M (c, 0)) (a8 c, 3) = _
 rw [e1, hc2, b2]
end
end Go.Proofs.YtalpkjfpmdpbiaaGreatDoor
namespace Go.Proofs.YtalpkjfpmdpbiaaGreatDoor
open Go Go.Vc Go.RowKit Go.Proofs Go.bY Go.aD Go.Code Go.j3 Go.ij
set_option maxRecDepth 100000
def yr(c:Ce):Ce:=(5+c.1 % 6,14+c.2.1 % 9,5+c.2.2 % 6)
theorem DY(c:Ce):(5<=(yr c).1/\(yr c).1<=10)/\(14<=(yr c).2.1/\(yr c).2.1<=22)/\5<=(yr c).2.2/\(yr c).2.2<=10:=by
 unfold yr
 simp only
 omega
theorem Bk (c : Ce) (w : World) : Calls Tryz.prog nM #[iR c] w fun e w' => e = .returned (iR (yr c)) ∧ Ext w w' := by
 apply lV.vc
 intro w0 e0 w1 e1
 have x1 : Ext w w1.drew := (((Ext.ao _).aa e0).aa e1).tr (Ext.dr w1)
 have z0 := cL e0
 have z1 : w1.drew.heap.size = w.heap.size + 2 := by show w1.heap.size = _; rw [e1]; simp [z0]
 have r1 : Row w1.drew w.heap.size (di c) jY := ((by rw [e0]; exact Row.new w [_, _, _] _ : Row w0 w.heap.size _ jY).ext ((Ext.ao _).aa e1)).ext (Ext.dr w1)
 clear e0 e1
 have hb := DY c
 unfold yr at hb ⊢
 simp only at hb
 refine (fk c.1 6 (by decide) (by decide) w1.drew).mono ?_
 rintro e w2 ⟨rfl, h2⟩
 have x2 : Ext w1.drew w2 := by rw [h2]; exact Ext.ao _
 have z2 := x2.size
 refine ⟨_, rfl, x2.k, x2.k, (r1.ext x2).aL (o := 2) (fun j hj => by
  match j, hj with
  | 0, _ => rfl), (r1.ext x2).aL (o := 1) (fun j hj => by
  match j, hj with
  | 0, _ => rfl), (fk c.2.1 9 (by decide) (by decide) w2).mono ?_⟩
 rintro e w4 ⟨rfl, h4⟩
 have x4 : Ext w2 w4 := by rw [h4]; exact Ext.ao _
 have z4 := x4.size
 have x24 := x2.tr x4
 refine ⟨_, rfl, x4.k, x4.k, (r1.ext x24).aL (o := 2) (fun j hj => by
  match j, hj with
  | 0, _ => rfl), (fk c.2.2 6 (by decide) (by decide) w4).mono ?_⟩
 rintro e w6 ⟨rfl, h6⟩
 have x6 : Ext w4 w6 := by rw [h6]; exact Ext.ao _
 have z6 := x6.size
 have q1 : IntKind.wrap .i64 (5 + c.1 % 6) = 5 + c.1 % 6 := wI
 have q2 : IntKind.wrap .i64 (14 + c.2.1 % 9) = 14 + c.2.1 % 9 := wI
 have q3 : IntKind.wrap .i64 (5 + c.2.2 % 6) = 5 + c.2.2 % 6 := wI
 refine ⟨_, rfl, x6.k, x6.k, fun w8 e8 => ?_⟩
 rw [q1, q2, q3]
 exact ⟨rfl, (x1.tr (x24.tr x6)).af e8 (by omega)⟩
def V0 (ae : Int) : Ce → Int := cW (l5 ae 5)
def AI(c:Ce):Prop:=(1<=c.1/\c.1<=14)/\(15<=c.2.1/\c.2.1<=30)/\1<=c.2.2/\c.2.2<=14
theorem AI.pos {c : Ce} (h : AI c) : pos c = (0, 0) := by
 unfold AI at h
 unfold Go.bY.pos
 exact Prod.ext (by show c.1 / 16 = 0; omega) (by show c.2.2 / 16 = 0; omega)
theorem AI.y{c:Ce}(h:AI c):ig c:=by unfold AI at h;unfold ig;omega
theorem AI.K9{c:Ce}(h:AI c):og c:=by unfold AI at h;unfold og;omega
theorem AI.LK {c : Ce} (h : AI c) (ae : Int) : V0 ae c = 0 := GZ ae (by unfold AI at h; omega) (DU h.pos)
theorem AI.wA {c : Ce} (h : AI c) (ae : Int) : ∀ n ∈ eK c, V0 ae n = 0 := fun n hn => by
 unfold AI at h
 unfold eK a8 rR at hn
 simp only [List.mem_cons, List.not_mem_nil, or_false] at hn
 have key : ∀ n : Ce, (0 ≤ n.1 ∧ n.1 ≤ 15) → (14 ≤ n.2.1 ∧ n.2.1 < 32) → (0 ≤ n.2.2 ∧ n.2.2 ≤ 15) → V0 ae n = 0 := fun n h1 h2 h3 => GZ ae h2 (DU (Prod.ext (by show n.1 / 16 = 0; omega) (by show n.2.2 / 16 = 0; omega)))
 rcases hn with rfl | rfl | rfl | rfl | rfl | rfl <;> exact key _ (by simp only; omega) (by simp only; omega) (by simp only; omega)
theorem CR:(1:Int)<=1/\(1:Int)<=64:=by decide
theorem LL:(0:Int)<=0/\(0:Int)<=((0:Nat):Int):=by decide
theorem LM:(0:Int)<=0/\(0:Int)<=1099511627776:=by decide
theorem LN:(0:Int)<=1/\(1:Int)<=1099511627776:=by decide
theorem LO:(0:Int)<=2/\(2:Int)<=1099511627776:=by decide
theorem JW (ae ax : Int) : nC (M5 ae ax) 0 := ⟨LL, Nat.le_refl _, LM, Nat.le_refl _⟩
section
variable{F F':Nat->Prop}{w w':World}{s o t:Nat}{M M':Sm}{occ:Value}{O:Ce->Bool}
theorem Cj (h : SF F w s o t M occ) : Calls Tryz.prog bE #[.pointer (some ⟨o, 0, none⟩)] w fun e w' => ∃ sc : Sl, e = .returned sc ∧ ag 0 cV 4 w' sc (M.ch.map vW) ∧ fX F w s o t { M with ch := [] } occ w' := by
 obtain ⟨Fw, hW, hsub, hres⟩ := h.world
 refine (C5 hW).mono ?_
 rintro e w' ⟨sc, F', rfl, ho, hW', hs, hm⟩
 exact ⟨sc, rfl, ho, hres ⟨F', hW', hm.mono fun i _ q => q ▸ hW.Lk, fun i hi => .inl (hs i hi)⟩⟩
end
theorem LP : AI (5, 20, 5) ∧ AI (7, 20, 5) ∧ AI (5, 19, 5) := by unfold AI; decide
set_option maxHeartbeats 1000000 in
theorem Ak (w : World) : Calls Tryz.prog qi #[] w fun e w' => e = .returned (.bool true) ∧ Ext w w' := by
 apply pj.vc
 refine (qH 1 1 ⟨none, 0, 0⟩ rfl w).mono ?_
 rintro e w0 ⟨s, o, t, F, occ, s1, s2, s3, rfl, hS, hO, -, x0, fF⟩
 have hO := hO.mono (F' := F) fun i hi => .inl hi
 have z0 := x0.size
 refine ⟨_, _, _, _, _, _, s1, s2, s3, ⟨none, 0, 0⟩, _, _, ⟨none, 0, 0⟩, _, _, ⟨none, 0, 0⟩, ⟨none, 0, 0⟩, rfl, fun w18 e18 w19 e19 => rT rfl ?_⟩
 have x19 : Ext w0 w19 := ((Ext.ao _).aa e18).af e19 (Nat.le_refl _)
 have z19 := rB e18 e19
 clear e18 e19
 have nf : ∀ {F1 F2 : Nat → Prop} {a b : World}, ar F F1 w19 a → ar F1 F2 a b → b.heap[w0.heap.size]? = a.heap[w0.heap.size]? := fun ta tb => tb.mod.same _ (by have := ta.mod.size; omega) fun hf => by
  rcases ta.sub _ hf with q | q
  ·have := hS.lt q; omega
  ·omega
 have vj : Hs (M5 1 1).T.2 (V0 1) := DX 1
 obtain ⟨u1, u2, u3⟩ := LP
 have d1 : ∀ n ∈ eK (5, 20, 5), aQ (V0 1 n) = 0 := fun n hn => by rw [u1.wA 1 n hn]; exact lD
 obtain ⟨l1, ch1, a1, a2, a3, a4⟩ := tz vj u1.pos u1.y d1
 refine (mj (hS.ext x19) (5, 20, 5) u1.K9.wide 3 ((JW 1 1).mono (by omega))).mono ?_
 rintro e w20 ⟨rfl, F1, hS1, t1⟩
 rw [a2] at hS1
 have d2 : ∀ n ∈ eK (7, 20, 5), aQ (iu (V0 1) (5, 20, 5) 3 n) = 0 := fun n hn => by
  rw [gP (by
   rintro rfl
   revert hn
   decide), u2.wA 1 n hn]
  exact lD
 obtain ⟨l2, ch2, b1, b2, b3, b4⟩ := tz (M := { M5 1 1 with T := (fW 0, l1), ch := ch1, q := (bM (M5 1 1).q (5, 20, 5) ((M5 1 1).now + 2)).1 }) a3 u2.pos u2.y d2
 refine ⟨_, rfl, nf (ar.refl _ _) t1, ?_⟩
 have k1 : nC { M5 1 1 with T := (fW 0, l1), ch := ch1, q := (bM (M5 1 1).q (5, 20, 5) ((M5 1 1).now + 2)).1 } 10 := by
  have := (JW 1 1).edit (5, 20, 5) 3
  rw [a2] at this
  exact this.mono (by omega)
 refine (mj hS1 (7, 20, 5) u2.K9.wide 3 (k1.mono (by omega))).mono ?_
 rintro e w22 ⟨rfl, F2, hS2, t2⟩
 have k2 := k1.edit (7, 20, 5) 3
 have T2 := t1.trans t2
 refine ⟨_, rfl, nf t1 t2, ?_⟩
 have e2 : dS { M5 1 1 with T := (fW 0, l1), ch := ch1, q := (bM (M5 1 1).q (5, 20, 5) ((M5 1 1).now + 2)).1 } (7, 20, 5) 3 = ⟨1, 5, (fW 0, l2), ch2, ⟨4096, 0, [(2, (5, 20, 5)), (2, (7, 20, 5))]⟩, 1, 0, []⟩ := by rw [b2]; rfl
 rw [e2] at hS2 k2
 have k2 := k2.mono (show 10 + 7 ≤ 100 by decide)
 have hO2 := (hO.ext x19).cm T2
 have c12 : ((5, 20, 5) : Ce) ≠ (7, 20, 5) := by decide
 have g1 : jZ ⟨1, 5, (fW 0, l2), ch2, ⟨4096, 0, [(2, (5, 20, 5)), (2, (7, 20, 5))]⟩, 1, 0, []⟩ = [] := rfl
 have g2 : j5 (fun _ => false) ⟨1, 5, (fW 0, l2), ch2, ⟨4096, 0, [(2, (5, 20, 5)), (2, (7, 20, 5))]⟩, 1, 0, []⟩ = ⟨1, 5, (fW 0, l2), ch2, ⟨4096, 0, [(2, (5, 20, 5)), (2, (7, 20, 5))]⟩, 1, 1, []⟩ := by
  unfold j5; rw [g1]; rfl
 refine (lK hS2 hO2 (by rw [g1]; intro y hy; cases hy) (k2.mono (by omega)) CR).mono ?_
 rw [g2]
 rintro e w24 ⟨rfl, F3, hS3, t3⟩
 have T3 := T2.trans t3
 have hO3 := hO2.cm t3
 refine ⟨_, rfl, nf T2 t3, ?_⟩
 have g3 : jZ ⟨1, 5, (fW 0, l2), ch2, ⟨4096, 0, [(2, (5, 20, 5)), (2, (7, 20, 5))]⟩, 1, 1, []⟩ = [(5, 20, 5)] := rfl
 have g4 : jw ⟨1, 5, (fW 0, l2), ch2, ⟨4096, 0, [(2, (5, 20, 5)), (2, (7, 20, 5))]⟩, 1, 1, []⟩ = ⟨1, 5, (fW 0, l2), ch2, ⟨4096, 0, [(2, (7, 20, 5))]⟩, 1, 2, []⟩ := rfl
 have v1 : iu (iu (V0 1) (5, 20, 5) 3) (7, 20, 5) 3 (5, 20, 5) = 3 := by rw [gP c12, lC]
 have vl : iu (iu (V0 1) (5, 20, 5) 3) (7, 20, 5) 3 (5, 19, 5) = 0 := by rw [gP (by decide), gP (by decide)]; exact u3.LK 1
 have far : ∀ {n : Ce}, n ≠ (5, 20, 5) → n ≠ (7, 20, 5) → V0 1 n = 0 → aQ (iu (iu (V0 1) (5, 20, 5) 3) (7, 20, 5) 3 n) = 0 := fun h1 h2 h3 => by rw [gP h2, gP h1, h3]; exact lD
 have k3 : nC ⟨1, 5, (fW 0, l2), ch2, ⟨4096, 0, [(2, (5, 20, 5)), (2, (7, 20, 5))]⟩, 1, 1, []⟩ 100 := ⟨k2.l, k2.c, LN, k2.d⟩
 have k3s : nC ⟨1, 5, (fW 0, l2), ch2, ⟨4096, 0, [(2, (7, 20, 5))]⟩, 1, 2, []⟩ 100 := ⟨k2.l, k2.c, LO, k2.d⟩
 obtain ⟨l4, ch4, f1, f2, f3⟩ := Gv (M := ⟨1, 5, (fW 0, l2), ch2, ⟨4096, 0, [(2, (7, 20, 5))]⟩, 1, 2, []⟩) (O := fun _ => false) (c := (5, 20, 5)) b3 u1.pos u1.y u3.y v1 vl (fun n hn => far (DT hn) (by
  rintro rfl
  revert hn
  decide) (u1.wA 1 n hn)) (fun n hn hne => far hne (by
  rintro rfl
  revert hn
  decide) (u3.wA 1 n hn)) rfl
 have f1 : gd (fun _ => false) ⟨1, 5, (fW 0, l2), ch2, ⟨4096, 0, [(2, (7, 20, 5))]⟩, 1, 2, []⟩ (5, 20, 5) = ⟨1, 5, (fW 0, l4), ch4, ⟨4096, 0, [(2, (7, 20, 5)), (4, (5, 19, 5))]⟩, 1, 2, []⟩ := f1
 have g5 : j5 (fun _ => false) ⟨1, 5, (fW 0, l2), ch2, ⟨4096, 0, [(2, (5, 20, 5)), (2, (7, 20, 5))]⟩, 1, 1, []⟩ = ⟨1, 5, (fW 0, l4), ch4, ⟨4096, 0, [(2, (7, 20, 5)), (4, (5, 19, 5))]⟩, 1, 2, []⟩ := by
  unfold j5
  rw [g3, g4]
  exact f1
 refine (lK hS3 hO3 (by
  rw [g3]
  intro y hy
  rw [List.mem_singleton.1 hy]
  exact u1.K9) (k3.mono (by omega)) CR).mono ?_
 rw [g5, g3]
 rintro e w26 ⟨rfl, F4, hS4, t4⟩
 have T4 := T3.trans t4
 have hO4 := hO3.cm t4
 have k4 := k3s.Jn (fun _ => false) (5, 20, 5)
 rw [f1] at k4
 refine ⟨_, rfl, nf T3 t4, yes rfl ?_⟩
 have g6 : jZ ⟨1, 5, (fW 0, l4), ch4, ⟨4096, 0, [(2, (7, 20, 5)), (4, (5, 19, 5))]⟩, 1, 2, []⟩ = [(7, 20, 5)] := rfl
 refine (lK hS4 hO4 (by
  rw [g6]
  intro y hy
  rw [List.mem_singleton.1 hy]
  exact u2.K9) (k4.mono (by omega)) CR).mono ?_
 rw [g6]
 rintro e w28 ⟨rfl, F5, hS5, t5⟩
 have T5 := T4.trans t5
 refine ⟨_, rfl, nf T4 t5, rfl, ?_⟩
 exact (T5.fresh (x0.tr x19) fF).1
end Go.Proofs.YtalpkjfpmdpbiaaGreatDoor
