import Derived.Test.YtalpkjfpmdpbiaaGreatDoorYD
import Derived.Test.YtalpkjfpmdpbiaaGreatDoorWB
import Derived.Test.YtalpkjfpmdpbiaaGreatDoorRF
import Derived.Test.YtalpkjfpmdpbiaaGreatDoorGC
set_option linter.all false
namespace Go.Proofs.YtalpkjfpmdpbiaaGreatDoor
open Go Go.Vc Go.RowKit Go.Proofs Go.bQ Go.aB Go.Code Go.kW Go.mw
set_option maxRecDepth 100000
abbrev C6:TypeId:=33
abbrev Je:TypeId:=89
abbrev zn:TypeId:=39
theorem HY (aa limit room : Int) {l : List En} (hl : (l.length : Int) < limit) {p : Po} (hp : ow p) (hn : ∀ e ∈ l, e.1 ≠ p) : wJ aa limit (eP room) l p = ((eP room, l ++ [(p, made aa p, false, 0)]), 0) := by
 have hr : bK limit (eP room) l = ((eP room, l), 0) := by unfold bK; rw [if_pos hl]
 have hd : (oU (eP room) (l8 p)).1 = [] := by unfold eP; rw [Gs]
 have hf : aR (fun e : En => e.1 == p) l = -1 := gD fun y hy => by simpa using hn y hy
 unfold wJ
 rw [if_neg (by simpa using hp), if_neg (by rw [hf]; decide), hr, if_neg (by simp)]
 simp only [hd, A9]
theorem EU (aa:Int) {k:Nat} (hk:k<=5):(l5 aa k).length=k:=by
 unfold l5
 rw [List.length_map,List.length_take]
 have:di.length=5:=rfl
 omega
theorem GA (aa:Int) {k:Nat} {p:Po} (hp:di[k]? =some p):l5 aa (k+1)=l5 aa k++ [(p,made aa p,false,0)]:=by
 unfold l5
 rw [List.take_add_one,hp,List.map_append]
 rfl
theorem BZ {k:Nat} {p:Po} (hp:di[k]? =some p):ow p/\p ∉ di.take k:=by
 have hk:k<5:=(List.getElem?_eq_some_iff.1 hp).1
 have:k=0\/k=1\/k=2\/k=3\/k=4:=by omega
 rcases this with rfl|rfl|rfl|rfl|rfl<;>(cases hp;decide)
theorem Ba (aa:Int) {k:Nat} {p:Po} (hp:di[k]? =some p):∀e ∈ l5 aa k,e.1≠p:=fun e he q=>by
 obtain ⟨x,hx,rfl⟩:=List.mem_map.1 he
 exact (BZ hp).2 (q▸hx)
theorem IQ (aa : Int) {k : Nat} {p : Po} (hp : di[k]? = some p) : wJ aa 5 (eP 0) (l5 aa k) p = ((eP 0, l5 aa (k + 1)), 0) := by
 have hk : k < 5 := (List.getElem?_eq_some_iff.1 hp).1
 rw [HY aa 5 0 (by rw [EU aa (by omega)]; omega) (BZ hp).1 (Ba aa hp), GA aa hp]
theorem vS (w : World) : Calls Tryz.prog sY #[(4096:Int)] w fun e w' => e = .returned (.agg #[(4096:Int), (0:Int), .slice none 0 0]) ∧ Ext w w' := by
 apply sh.vc
 intro w0 e0 w1 e1
 exact ⟨rfl, ((Ext.aq w).ab e0).ah e1 (Nat.le_refl _)⟩
abbrev JI (aa cap : Int) (d : Dk) (s1 s2 s3 s4 : Sl) (b : Int) : List Value := [.int .i64 aa, .int .i64 cap, .int .i64 d.room, .int .i64 d.dW, .int .i64 d.wait, .slice s1.a s1.n s1.c, .slice s2.a s2.n s2.c, .slice s3.a s3.n s3.c, .slice s4.a s4.n s4.c, .int .i64 4096, .int .i64 0, .slice none 0 0, .int .i64 (min (max b 1) 64), .int .i64 0, .slice none 0 0, .slice none 0 0]
theorem vT (aa cap : Int) (d : Dk) (s1 s2 s3 s4 : Sl) (b : Int) (w : World) : Calls Tryz.prog sL #[JK aa cap d s1 s2 s3 s4, b] w fun e w' => e = .returned (.agg (JI aa cap d s1 s2 s3 s4 b).toArray) ∧ Ext w w' := by
 apply (q8.vc (a0_5 := s1) (a0_6 := s2) (a0_7 := s3) (a0_8 := s4))
 intro w0 e0 w1 e1
 have x1 : Ext w w1.drew := (((Ext.aq _).ab e0).ab e1).tr (Ext.dr w1)
 have z0 := dR e0
 have z1 : w1.drew.heap.size = w.heap.size + 2 := by show w1.heap.size = _; rw [e1]; simp [z0]
 have r1 : Row w1.drew w.heap.size (JL aa cap d s1 s2 s3 s4) C6 := ((by rw [e0]; exact Row.new w [_, _, _, _, _, _, _, _, _] _ : Row w0 w.heap.size _ C6).ext ((Ext.aq _).ab e1)).ext (Ext.dr w1)
 clear e0 e1
 refine (vS w1.drew).mono ?_
 rintro e w2 ⟨rfl, x2⟩
 have eb : (if 64 < (if 1 > b then 1 else b) then 64 else (if 1 > b then 1 else b)) = min (max b 1) 64 := by
  split <;> split <;> omega
 refine ⟨_, _, ⟨none, 0, 0⟩, rfl, x2.k, x2.k, Lo.wv (r1.ext x2), fun w6 e6 => ?_⟩
 rw [eb]
 exact ⟨rfl, (x1.tr x2).ah e6 (by omega)⟩
theorem zo (c : Ce) {g : Nat} {w : World} {τ : TypeId} (hr : Row w g [.slice none 0 0] τ) : Calls Tryz.prog l6 #[mq c, .pointer (some ⟨g, 0, none⟩)] w fun e w' => e = .returned (.bool false) ∧ Ext w w' := by
 apply jZ.vc
 intro w0 e0
 have x0 : Ext w w0 := (Ext.aq _).ab e0
 clear e0
 refine ⟨fun n x w' => n = 0 ∧ x = 0 ∧ w' = w0, ⟨0, rfl, rfl, rfl, rfl⟩, ?_⟩
 rintro n us x w5 ⟨rfl, rfl, rfl⟩
 have h1 := (hr.ext x0).at 0 rfl
 rw [bf] at h1
 exact ⟨⟨none, 0, 0⟩, h1, Br.mk (fun q => by simp at q) (fun _ => ⟨rfl, x0⟩)⟩
abbrev M5 (aa aO : Int) : Sm := ⟨aa, 5, (eP 0, l5 aa 5), [], ⟨4096, 0, []⟩, min (max aO 1) 64, 0, []⟩
abbrev EV:List Value:=[.int .i64 0,.int .i64 0,.int .i64 (-1),.int .i64 0,.int .i64 1,.int .i64 0,.int .i64 0,.int .i64 (-1),.int .i64 0,.int .i64 1]
theorem zp {w : World} {g : Nat} {τ : TypeId} (hr : Row w g EV τ) {k : Nat} {p : Po} (hp : di[k]? = some p) : aj w (ae (some ⟨g, 0, none⟩) (((k : Nat) : Int).toNat * 2)) 0 [p.1, p.2] := by
 have hk : k < 5 := (List.getElem?_eq_some_iff.1 hp).1
 have h2 : EV[k * 2]? = some (.int .i64 p.1) ∧ EV[k * 2 + 1]? = some (.int .i64 p.2) := by
  have : k = 0 ∨ k = 1 ∨ k = 2 ∨ k = 3 ∨ k = 4 := by omega
  rcases this with rfl | rfl | rfl | rfl | rfl <;> (cases hp; exact ⟨rfl, rfl⟩)
 refine mG fun i u hu => ?_
 rw [iI, Nat.zero_add]
 match i, hu with
 | 0, hu => exact hr.at _ (by rw [← hu]; exact h2.1)
 | 1, hu => exact hr.at _ (by rw [← hu]; exact h2.2)
theorem uY (aa aO : Int) (sl : Sl) (hsl : sl.n = 0) (w : World) : Calls Tryz.prog kj #[aa, aO, sl] w fun e w' =>
  ∃ (s o t : Nat) (F : Nat → Prop) (occ : Value) (s1 s2 s3 : Sl), e = .returned (.tuple #[.pointer (some ⟨s, 0, none⟩), .agg (JI aa 5 (eP 0) s1 s2 s3 ⟨none, 0, 0⟩ aO).toArray]) ∧ SF F w' s o t (M5 aa aO) occ ∧ Oc occ (fun _ => false) (fun i => F i ∨ i < w.heap.size) w' ∧ RT (fun i => ¬ F i) w' (eP 0, l5 aa 5) s1 s2 s3 ∧ Ext w w' ∧ ∀ i, F i → w.heap.size ≤ i := by
 apply (nB.vc (a2 := sl))
 intro w0 e0
 have x0 : Ext w w0 := (Ext.aq _).ab e0
 have z0 := dR e0
 have ra0 : ∃ cs, Row w0 w.heap.size cs zn := ⟨_, by rw [e0]; exact Row.new w [_, _, _, _, _, _, _, _, _, _, _, _, _, _, _, _] _⟩
 clear e0
 obtain ⟨csa, ra0⟩ := ra0
 refine (Cy aa 5 0 w0).mono ?_
 rintro e w1 ⟨o, t, F0, rfl, hF0, x1, fF0⟩
 have hlim : (min (max (5 : Int) 1) 16) = 5 := by decide
 rw [hlim] at hF0
 have z1 := x1.size
 refine ⟨_, rfl, x1.k, (zq (P := fun i => ¬ F0 i ∧ i ≠ w.heap.size) aa 5 0 w1).mono ?_⟩
 rw [hlim]
 rintro e w3 ⟨sa0, sb0, sc0, rfl, h3, x3⟩
 have z3 := x3.size
 refine ⟨_, _, _, _, _, sa0, sb0, sc0, ⟨none, 0, 0⟩, rfl, x3.k, fun w13 e13 w14 e14 => ?_⟩
 have x14 : Ext w3 w14 := ((Ext.aq _).ab e13).ah e14 (Nat.le_refl _)
 have z14 := yA e13 e14
 have rr14 : Row w14 w3.heap.size (JL aa 5 (eP 0) sa0 sb0 sc0 ⟨none, 0, 0⟩) C6 := by rw [e14]; exact Row.set (by rw [e13]; exact Row.new w3 [_, _, _, _, _, _, _, _, _] _) _
 clear e13 e14
 refine uS rfl ((yM (hF0.ext (x3.tr x14))).mono ?_)
 rintro e w16 ⟨rfl, hw⟩
 subst hw
 refine ⟨_, rfl, rfl, rfl, uS rfl fun w19 e19 => ?_⟩
 have x19 : Ext w16 w19 := (Ext.aq _).ab e19
 have z19 := dR e19
 have rp19 : Row w19 w16.heap.size EV Je := by rw [e19]; exact Row.new w16 [_, _, _, _, _, _, _, _, _, _] _
 clear e19
 have x119 := x3.tr (x14.tr x19)
 have hR19 : RT (Nf (fun i => i ≠ w3.heap.size ∧ i ≠ w.heap.size) F0) w19 (eP 0, l5 aa 0) sa0 sb0 sc0 := h3.same fun i hp hi => ⟨(x14.tr x19).heap hi, hp.1, by omega, hp.2⟩
 refine ⟨fun n x sd cp ro fl wt sa sb sc sdd wr => ∃ (k : Nat) (F : Nat → Prop), x = k ∧ k + n = 5 ∧ sd = aa ∧ cp = 5 ∧ ro = (eP 0).room ∧ fl = (eP 0).dW ∧ wt = (eP 0).wait ∧ sdd = ⟨none, 0, 0⟩ ∧ WF F wr o t aa 5 (eP 0, l5 aa k) [] ∧ RT (Nf (fun i => i ≠ w3.heap.size ∧ i ≠ w.heap.size) F) wr (eP 0, l5 aa k) sa sb sc ∧ Ext w wr ∧ (∀ i, F i → w.heap.size ≤ i) ∧ Row wr w.heap.size csa zn ∧ (∃ cs, Row wr w3.heap.size cs C6) ∧ Row wr w16.heap.size EV Je, ⟨5, rfl, rfl, 0, F0, rfl, rfl, rfl, rfl, rfl, rfl, rfl, rfl, hF0.ext x119, hR19, x0.tr (x1.tr x119), fun i hi => by have := fF0 i hi; omega, ra0.ext (x1.tr x119), ⟨_, rr14.ext x19⟩, rp19⟩, ?_⟩
 clear hR19 hF0 fF0 h3 ra0 rr14 rp19
 rintro n us x sd cp ro fl wt sa sb sc sdd wr ⟨k, F, rfl, hkn, rfl, rfl, rfl, rfl, rfl, rfl, hT, hR, xw, fF, hra, ⟨csr, hrr⟩, hrp⟩
 have l1 := hra.lt
 have l2 := hrr.lt
 have l3 := hrp.lt
 have i33 : tY zn ∧ tY C6 ∧ tY Je := by decide
 refine Br.mk (fun hb => ?_) (fun hb => ?_)
 ·replace hb := eN hb
  have hk : k < 5 := by omega
  obtain ⟨p, hp⟩ := aN (l := di) (i := k) (by have : di.length = 5 := rfl; omega)
  have hld := IQ sd hp
  have hl5 := EU sd (k := k) (by omega)
  have wk : IntKind.wrap .i64 ((k : Int) + 1) = ((k + 1 : Nat) : Int) := by rw [wI]; omega
  refine ⟨⟨rfl, by omega, hb⟩, p.1, p.2, zp hrp hp, (zl hT (Nat.zero_le _) p).mono ?_⟩
  rintro e w37 ⟨rfl, hr⟩
  rw [hld] at hr
  obtain ⟨F', h', ht⟩ := hr
  have kp : ∀ {j : Nat} {cs : List Value} {τ : TypeId}, Row wr j cs τ → tY τ → τ ≠ qX → τ ≠ gz → w37.heap[j]? = wr.heap[j]? := fun hr q1 q2 q3 => ht.mod.same _ hr.lt (hT.a9 hr q1 q2 q3)
  have ka := kp hra i33.1 (by decide) (by decide)
  have kr := kp hrr i33.2.1 (by decide) (by decide)
  have kp5 := kp hrp i33.2.2 (by decide) (by decide)
  have ra37 := hra.same ka
  have rr37 := hrr.same kr
  have rp37 := hrp.same kp5
  have z37 := ht.mod.size
  have hR37 : RT (Nf (fun i => i ≠ w3.heap.size ∧ i ≠ w.heap.size) F') w37 (eP 0, l5 sd k) sa sb sc := hR.same fun i hp hi => ⟨ht.mod.same i hi hp.1, fun q => (ht.sub i q).elim hp.1 (by omega), hp.2⟩
  obtain ⟨xw37, fF37⟩ := ht.fresh xw fF
  have xd := Ext.dr w37
  have zd : w37.drew.heap.size = w37.heap.size := rfl
  have ho : Jd (eP 0, l5 sd k) := hT.Jq (m := 0) (n := 0) ⟨Nat.zero_le _, (fun e he => by
   obtain ⟨x, hx, rfl⟩ := List.mem_map.1 he
   exact ⟨Int.le_refl _, Int.le_refl _⟩), (by
   have h5 := xW sd
   unfold qC at h5 ⊢
   have e5 : (l5 sd 5).map (·.1) = (l5 sd k).map (·.1) ++ ((di.drop k).map fun p : Po => ((p, made sd p, false, (0 : Int)) : En)).map (·.1) := by
    rw [← List.map_append, l5, l5, ← List.map_append, List.take_append_drop]
    rfl
   rw [e5] at h5
   exact (List.nodup_append.1 h5).1)⟩ (by omega)
  have hin5 : inI 5 := by unfold inI; omega
  refine ⟨_, rfl, ka, kr, kp5, ⟨rfl, by omega, hb⟩, p.1, p.2, zp (rp37.ext xd) hp, ?_, fun w54 e54 => ?_⟩
  ·refine (oL (aa := sd) (cap := 5) (hR37.ext xd) ((h'.fw (N := fun i => i ≠ w3.heap.size ∧ i ≠ w.heap.size) (fun i hi => ⟨by omega, by omega⟩)).ext xd) ho (Nat.zero_le _) hin5 p (by simp only; omega) (Ba sd hp)).mono ?_
   rintro e w41 ⟨ta, tb, tc, rfl, h41, x41⟩
   rw [hld] at h41 ⊢
   have z41 := x41.size
   refine ⟨_, _, _, _, _, ta, tb, tc, _, rfl, x41.k, x41.k, x41.k, fun w51 e51 w52 e52 w53 e53 => ?_⟩
   have x52 : Ext w41 w52 := ((Ext.aq _).ab e51).ah e52 (Nat.le_refl _)
   clear e51 e52
   have xx := xd.tr (x41.tr x52)
   have rr52 := rr37.ext xx
   have h52 := h'.ext xx
   have hnw : ¬ F' w3.heap.size := h52.a9 rr52 i33.2.1 (by decide) (by decide)
   have n1 : w.heap.size ≠ w3.heap.size := by omega
   have n3 : w16.heap.size ≠ w3.heap.size := by omega
   exact ⟨n - 1, by omega, rfl, rfl, k + 1, F', wk, by omega, rfl, rfl, rfl, rfl, rfl, rfl, h52.same fun i hi => by rw [e53, setRow_other _ _ _ _ (fun q => hnw (by rw [← q]; exact hi))], (h41.ext x52).same fun i hp _ => ⟨by rw [e53, setRow_other _ _ _ _ hp.2.1], hp⟩, (xw37.tr xx).ah e53 (by omega), fF37, (ra37.ext xx).same (by rw [e53, setRow_other _ _ _ _ n1]), ⟨_, by rw [e53]; exact Row.set rr52 _⟩, (rp37.ext xx).same (by rw [e53, setRow_other _ _ _ _ n3])⟩
  ·have x54 : Ext w37 w54 := xd.ab e54
   have z54 := dR e54
   clear e54
   refine (oL (aa := sd) (cap := 5) (P := Nf (fun i => i ≠ w3.heap.size ∧ i ≠ w.heap.size ∧ i ≠ w37.drew.heap.size) F') (hR37.same fun i hp hi => ⟨x54.heap hi, hp.1, hp.2.1, hp.2.2, by omega⟩) (fun i hi => ⟨fun q => by have := h'.lt q; omega, by omega, by omega, by omega⟩) ho (Nat.zero_le _) hin5 p (by simp only; omega) (Ba sd hp)).mono ?_
   rintro e w55 ⟨ta, tb, tc, rfl, h55, x55⟩
   rw [hld] at h55 ⊢
   have z55 := x55.size
   refine ⟨_, _, _, _, _, ta, tb, tc, _, rfl, x55.k, x55.k, x55.k, x55.k, fun w65 e65 w66 e66 => ?_⟩
   have xx := x54.tr x55
   have x65 : Ext w37 w65 := xx.ah e65 (by omega)
   have h65 : RT (Nf (fun i => i ≠ w3.heap.size ∧ i ≠ w.heap.size) F') w65 (eP 0, l5 sd (k + 1)) ta tb tc := h55.same fun i hp _ => ⟨by rw [e65, setRow_other _ _ _ _ hp.2.2.2], hp.1, hp.2.1, hp.2.2.1⟩
   clear e65
   have rr65 := rr37.ext x65
   have h65' := h'.ext x65
   have hnw : ¬ F' w3.heap.size := h65'.a9 rr65 i33.2.1 (by decide) (by decide)
   have n1 : w.heap.size ≠ w3.heap.size := by omega
   have n3 : w16.heap.size ≠ w3.heap.size := by omega
   exact ⟨n - 1, by omega, rfl, rfl, k + 1, F', wk, by omega, rfl, rfl, rfl, rfl, rfl, rfl, h65'.same fun i hi => by rw [e66, setRow_other _ _ _ _ (fun q => hnw (by rw [← q]; exact hi))], h65.same fun i hp _ => ⟨by rw [e66, setRow_other _ _ _ _ hp.2.1], hp⟩, (xw37.tr x65).ah e66 (by omega), fF37, (ra37.ext x65).same (by rw [e66, setRow_other _ _ _ _ n1]), ⟨_, by rw [e66]; exact Row.set rr65 _⟩, (rp37.ext x65).same (by rw [e66, setRow_other _ _ _ _ n3])⟩
 replace hb := eO hb
 have hk5 : k = 5 := by omega
 subst hk5
 refine (zf hT aO).mono ?_
 rintro e w67 ⟨s, Fs, rfl, hS, x67, fFs⟩
 have z67 := x67.size
 refine ⟨_, rfl, x67.k, x67.k, x67.k, (vT sd 5 (eP 0) sa sb sc ⟨none, 0, 0⟩ aO w67).mono ?_⟩
 rintro e w69 ⟨rfl, x69⟩
 have z69 := x69.size
 refine ⟨_, _, _, _, _, sa, sb, sc, ⟨none, 0, 0⟩, _, _, ⟨none, 0, 0⟩, _, _, ⟨none, 0, 0⟩, ⟨none, 0, 0⟩, rfl, x69.k, x69.k, x69.k, fun w86 e86 w87 e87 => ?_⟩
 have x87 : Ext w69 w87 := ((Ext.aq _).ab e86).ah e87 (Nat.le_refl _)
 have z87 := yA e86 e87
 have rx87 : ∃ cs, Row w87 w69.heap.size cs zn := ⟨_, by rw [e87]; exact Row.set (by rw [e86]; exact Row.new w69 [_, _, _, _, _, _, _, _, _, _, _, _, _, _, _, _] _) _⟩
 obtain ⟨csx, rx87⟩ := rx87
 clear e86 e87
 have xx := x67.tr (x69.tr x87)
 refine ⟨fun a b c d e f g h i j k l m n o' p w' => a = sd ∧ b = 5 ∧ c = (eP 0).room ∧ d = (eP 0).dW ∧ e = (eP 0).wait ∧ f = ⟨sa.a, sa.n, sa.c⟩ ∧ g = ⟨sb.a, sb.n, sb.c⟩ ∧ h = ⟨sc.a, sc.n, sc.c⟩ ∧ i = ⟨none, 0, 0⟩ ∧ j = 4096 ∧ k = 0 ∧ l = ⟨none, 0, 0⟩ ∧ m = min (max aO 1) 64 ∧ n = 0 ∧ o' = ⟨none, 0, 0⟩ ∧ p = ⟨none, 0, 0⟩ ∧ w' = w87, ⟨fun q x a b c d e f g h i j k l m n o' p w' => x = 0 ∧ a = sd ∧ b = 5 ∧ c = (eP 0).room ∧ d = (eP 0).dW ∧ e = (eP 0).wait ∧ f = ⟨sa.a, sa.n, sa.c⟩ ∧ g = ⟨sb.a, sb.n, sb.c⟩ ∧ h = ⟨sc.a, sc.n, sc.c⟩ ∧ i = ⟨none, 0, 0⟩ ∧ j = 4096 ∧ k = 0 ∧ l = ⟨none, 0, 0⟩ ∧ m = min (max aO 1) 64 ∧ n = 0 ∧ o' = ⟨none, 0, 0⟩ ∧ p = ⟨none, 0, 0⟩ ∧ w' = w87, ⟨0, rfl, rfl, rfl, rfl, rfl, rfl, rfl, rfl, rfl, rfl, rfl, rfl, rfl, rfl, rfl, rfl, rfl, rfl, rfl, rfl, rfl⟩, ?_⟩, ?_⟩
 ·rintro q us x a b c d e f g h i j k l m n o' p w' ⟨rfl, rfl, rfl, rfl, rfl, rfl, rfl, rfl, rfl, rfl, rfl, rfl, rfl, rfl, rfl, rfl, rfl, rfl⟩
  refine Br.mk (fun q => by rw [hsl] at q; simp at q) (fun _ => ⟨rfl, rfl, rfl, rfl, rfl, rfl, rfl, rfl, rfl, rfl, rfl, rfl, rfl, rfl, rfl, rfl, rfl, rfl, rfl, rfl⟩)
 rintro us a b c d e f g h i j k l m n' o' p w' ⟨rfl, rfl, rfl, rfl, rfl, rfl, rfl, rfl, rfl, rfl, rfl, rfl, rfl, rfl, rfl, rfl, rfl⟩
 refine yes rfl fun w140 e140 w141 e141 => ?_
 have x141 : Ext w' w141 := ((Ext.aq _).ab e140).ah e141 (Nat.le_refl _)
 have z141 : w141.heap.size = w'.heap.size + 1 := by rw [e141, e140]; simp
 have rb141 : ∃ τ, Row w141 w'.heap.size [.slice none 0 0] τ ∧ tY τ ∧ τ ≠ qX ∧ τ ≠ gz ∧ τ ≠ tp ∧ τ ≠ Q.ea ∧ τ ≠ Q.aU ∧ τ ≠ mK := ⟨37, by rw [e141]; exact Row.set (by rw [e140]; exact Row.new w' [_] _) _, by decide⟩
 clear e140 e141
 obtain ⟨τb, rb141, ob⟩ := rb141
 have xx141 := xx.tr x141
 have hS141 := hS.ext (x69.tr (x87.tr x141))
 refine (ya hS141 (.func 42) #[] #[.pointer (some ⟨w'.heap.size, 0, none⟩)]).mono ?_
 rintro e w142 ⟨rfl, ⟨F2, hS2, hT2⟩, hm2⟩
 obtain ⟨gS, sdS, hrS, -, hsF, -, -⟩ := hS141.row
 have hra141 := (hra.ext xx141)
 have hrr141 := (hrr.ext xx141)
 have hrp141 := (hrp.ext xx141)
 have hrx141 := rx87.ext x141
 have hsl : wr.heap.size ≤ s ∨ F s := (fFs s hsF).symm
 have hsw := hS.lt hsF
 have od : zn ≠ tp ∧ C6 ≠ tp ∧ Je ≠ tp ∧ zn ≠ Q.ea ∧ zn ≠ Q.aU ∧ zn ≠ mK := by decide
 have z142 := hm2.size
 refine ⟨rfl, hm2.same _ hra141.lt (hra141.ne hrS od.1), hm2.same _ hrr141.lt (hrr141.ne hrS od.2.1), hm2.same _ hrp141.lt (hrp141.ne hrS od.2.2.1), hm2.same _ hrx141.lt (hrx141.ne hrS od.1), fun w143 e143 => ?_⟩
 have xd142 := Ext.dr w142
 have zd142 : w142.drew.heap.size = w142.heap.size := rfl
 have hra142 := (hm2.row hra141 (hra141.ne hrS od.1)).ext xd142
 have rb142 := (hm2.row rb141 (rb141.ne hrS ob.2.2.2.1)).ext xd142
 have hS142 := hS2.ext xd142
 have hnw : ¬ F2 w.heap.size := hS142.B0 hra142 i33.1 (by decide) (by decide) od.1 od.2.2.2.1 od.2.2.2.2.1 od.2.2.2.2.2
 have hnb : ¬ F2 w'.heap.size := hS142.B0 rb142 ob.1 ob.2.1 ob.2.2.1 ob.2.2.2.1 ob.2.2.2.2.1 ob.2.2.2.2.2.1 ob.2.2.2.2.2.2
 have hS143 : SF F2 w143 s o t (M5 a aO) (.func (.func 42) #[] #[.pointer (some ⟨w'.heap.size, 0, none⟩)]) := hS142.same fun i hi => by rw [e143, setRow_other _ _ _ _ (fun q => hnw (by rw [← q]; exact hi))]
 have nbw : w'.heap.size ≠ w.heap.size := by have := xx.size; omega
 have rb143 : Row w143 w'.heap.size [.slice none 0 0] τb := rb142.same (by rw [e143, setRow_other _ _ _ _ nbw])
 have z143 := Ap e143
 have hF2 : ∀ i, F2 i → w.heap.size ≤ i := fun i hi => by
  rcases hT2.sub i hi with q | q
  ·rcases fFs i q with q | q
   ·exact fF i q
   ·omega
  ·have := xx141.size; omega
 have hFr : ∀ i, ¬ F i → i < wr.heap.size → ¬ F2 i := fun i hn hi q => by
  have hx := xx141.size
  rcases hT2.sub i q with q | q
  ·exact (fFs i q).elim hn (by omega)
  ·omega
 refine ⟨s, o, t, F2, _, sa, sb, sc, rfl, hS143, ⟨fun i => i = w'.heap.size, fun i hi => ⟨by rw [hi]; exact rb143.lt, by rw [hi]; exact fun q => q.elim hnb (by have := xx.size; have := xw.size; omega)⟩, fun w2 hk c hc => ?_⟩, hR.same fun i hp hi => ⟨?_, hFr i hp.1 hi⟩, ?_, hF2⟩
 ·exact fc (by kernel_rfl) rfl (zo c (rb143.same (hk _ rfl)))
 ·rw [e143, setRow_other _ _ _ _ hp.2.2]
  have hx := xx141.size
  have hix : i ≠ s := fun q => by
   rcases fFs s hsF with q2 | q2
   ·exact hp.1 (q ▸ q2)
   ·omega
  exact (hm2.same i (by omega) hix).trans (xx141.heap hi)
 ·have hsw' : w.heap.size ≤ s := by
   rcases fFs s hsF with q2 | q2
   ·exact fF s q2
   ·omega
  exact ((hm2.ext (xw.tr xx141) fun i hi => hi ▸ hsw').tr xd142).ah e143 (Nat.le_refl _)
end Go.Proofs.YtalpkjfpmdpbiaaGreatDoor
namespace Go.Proofs.YtalpkjfpmdpbiaaGreatDoor
open Go Go.Vc Go.RowKit Go.Proofs Go.bQ Go.aB Go.Code Go.kW Go.mw
set_option maxRecDepth 100000
theorem wE {c n : Ce} (h : n ∈ fL c) : n ≠ c := by
 unfold fL aS ma at h
 simp only [List.mem_cons, List.not_mem_nil, or_false] at h
 intro q
 subst q
 rcases h with h | h | h | h | h | h <;> (have h1 := congrArg (·.1) h; have h2 := congrArg (·.2.1) h; have h3 := congrArg (·.2.2) h; simp only at h1 h2 h3; omega)
theorem dN (V:Ce->Int) (c:Ce) (b:Int):cK V c b c=b:=if_pos rfl
theorem ei {V:Ce->Int} {c c':Ce} {b:Int} (h:c'≠c):cK V c b c'=V c':=if_neg h
theorem IK:aC 0=true:=by decide+kernel
theorem IL:aC 3=true:=by decide+kernel
section
variable {M:Sm} {V:Ce->Int} {c:Ce} {O:Ce->Bool}
theorem sP {c:Ce} (hp:pos c=(0,0)):pos c ∈ di:=by rw [hp];decide
theorem om (hs : Hs M.T.2 V) (hp : pos c = (0, 0)) (hy : fx c) (hn : ∀ n ∈ fL c, ay (V n) = 0) :
  ∃ l' ch', (cc M.T.2 c 3).2 = 0 ∧ dU M c 3 = { M with T := (M.T.1, l'), ch := ch', q := (cX M.q c (M.now + 2)).1 } ∧ Hs l' (cK V c 3) ∧ ch'.length ≤ M.ch.length + 1 := by
 obtain ⟨e1, h1⟩ := hs.set (sP hp) hy IL
 have hf : cD (cc M.T.2 c 3).1 = cK V c 3 := funext h1.v
 have hw : bW (cK V c 3) c = [c] := AO (by rw [dN, pk]; decide) fun n hm => by rw [ei (wE hm)]; exact hn n hm
 refine ⟨_, _, e1, ?_, h1, ux M.T.2 M.ch c 3⟩
 unfold dU
 rw [if_pos e1, hf]
 unfold cL
 rw [hw]
 show _ = ({ M with T := _, ch := _, q := _ } : Sm)
 simp only [List.foldl_cons, List.foldl_nil, dN, pk]
theorem Ep (hs : Hs M.T.2 V) (hp : pos c = (0, 0)) (hy : fx c) (hn : ∀ n ∈ fL c, ay (V n) = 0) :
  ∃ l', (cc M.T.2 c 0).2 = 0 ∧ dU M c 0 = { M with T := (M.T.1, l'), ch := yN M.T.2 M.ch c 0 } ∧ Hs l' (cK V c 0) := by
 obtain ⟨e1, h1⟩ := hs.set (sP hp) hy IK
 have hf : cD (cc M.T.2 c 0).1 = cK V c 0 := funext h1.v
 have hw : bW (cK V c 0) c = [] := yZ (by rw [dN]; exact kC) fun n hm => by rw [ei (wE hm)]; exact hn n hm
 refine ⟨_, e1, ?_, h1⟩
 unfold dU
 rw [if_pos e1, hf]
 unfold cL
 rw [hw]
 rfl
theorem HN (c:Ce):aS c≠c:=wE (by simp [fL])
theorem Er (hs : Hs M.T.2 V) (hp : pos c = (0, 0)) (hy : fx c) (hy2 : fx (aS c)) (hV : V c = 3) (hl : V (aS c) = 0) (hn : ∀ n ∈ fL c, ay (V n) = 0) (hn2 : ∀ n ∈ fL (aS c), n ≠ c → ay (V n) = 0) (hO : O (aS c) = false) :
  ∃ l' ch', fO O M c = { M with T := (M.T.1, l'), ch := ch', q := (cX M.q (aS c) (M.now + 2)).1 } ∧ Hs l' (cK (cK V c 0) (aS c) 3) ∧ ch'.length ≤ M.ch.length + 2 := by
 have hf : cD M.T.2 = V := funext hs.v
 have hr := AP hs hp
 have hnx : de (cD M.T.2) c = [(c, 0), (aS c, 3)] := by rw [hf]; exact Es hV hl
 have hh : ¬ kD O M c = true := by unfold kD; rw [hO, Bool.and_false, Bool.and_false]; decide
 obtain ⟨l1, a1, a2, a3⟩ := Ep hs hp hy hn
 have hc1 : aM M (c, 0) = dU M c 0 := by unfold aM; rw [if_neg (by simp only; rw [hf, hV]; decide)]
 have e1 : aM M (c, 0) = { M with T := (M.T.1, l1), ch := yN M.T.2 M.ch c 0 } := hc1.trans a2
 have hn2' : ∀ n ∈ fL (aS c), ay (cK V c 0 n) = 0 := fun n hm => by
  by_cases q : n = c
  ·rw [q, dN]; exact kC
  ·rw [ei q]; exact hn2 n hm q
 obtain ⟨l2, ch2, b1, b2, b3, b4⟩ := om (M := { M with T := (M.T.1, l1), ch := yN M.T.2 M.ch c 0 }) (c := aS c) a3 hp hy2 hn2'
 have hc2 : aM { M with T := (M.T.1, l1), ch := yN M.T.2 M.ch c 0 } (aS c, 3) = dU { M with T := (M.T.1, l1), ch := yN M.T.2 M.ch c 0 } (aS c) 3 := by
  unfold aM
  rw [if_neg (by simp only; rw [a3.v, ei (HN c), hl]; decide)]
 refine ⟨l2, ch2, ?_, b3, by have := ux M.T.2 M.ch c 0; simp only at b4; omega⟩
 unfold fO
 rw [if_neg (by rw [hr]; decide), if_neg hh, hnx]
 show aM (aM M (c, 0)) (aS c, 3) = _
 rw [e1, hc2, b2]
end
end Go.Proofs.YtalpkjfpmdpbiaaGreatDoor
namespace Go.Proofs.YtalpkjfpmdpbiaaGreatDoor
open Go Go.Vc Go.RowKit Go.Proofs Go.bQ Go.aB Go.Code Go.kW Go.mw
set_option maxRecDepth 100000
def vY (c:Ce):Ce:=(5+c.1 % 6,14+c.2.1 % 9,5+c.2.2 % 6)
theorem Ch (c:Ce):(5<=(vY c).1/\(vY c).1<=10)/\(14<=(vY c).2.1/\(vY c).2.1<=22)/\5<=(vY c).2.2/\(vY c).2.2<=10:=by
 unfold vY
 simp only
 omega
theorem Ac (c : Ce) (w : World) : Calls Tryz.prog mJ #[mq c] w fun e w' => e = .returned (mq (vY c)) ∧ Ext w w' := by
 apply kX.vc
 intro w0 e0 w1 e1
 have x1 : Ext w w1.drew := (((Ext.aq _).ab e0).ab e1).tr (Ext.dr w1)
 have z0 := dR e0
 have z1 : w1.drew.heap.size = w.heap.size + 2 := by show w1.heap.size = _; rw [e1]; simp [z0]
 have r1 : Row w1.drew w.heap.size (dp c) mK := ((by rw [e0]; exact Row.new w [_, _, _] _ : Row w0 w.heap.size _ mK).ext ((Ext.aq _).ab e1)).ext (Ext.dr w1)
 clear e0 e1
 have hb := Ch c
 unfold vY at hb ⊢
 simp only at hb
 refine (kz c.1 6 (by decide) (by decide) w1.drew).mono ?_
 rintro e w2 ⟨rfl, h2⟩
 have x2 : Ext w1.drew w2 := by rw [h2]; exact Ext.aq _
 have z2 := x2.size
 refine ⟨_, rfl, x2.k, x2.k, (r1.ext x2).aX (o := 2) (fun j hj => by
  match j, hj with
  | 0, _ => rfl), (r1.ext x2).aX (o := 1) (fun j hj => by
  match j, hj with
  | 0, _ => rfl), (kz c.2.1 9 (by decide) (by decide) w2).mono ?_⟩
 rintro e w4 ⟨rfl, h4⟩
 have x4 : Ext w2 w4 := by rw [h4]; exact Ext.aq _
 have z4 := x4.size
 have x24 := x2.tr x4
 refine ⟨_, rfl, x4.k, x4.k, (r1.ext x24).aX (o := 2) (fun j hj => by
  match j, hj with
  | 0, _ => rfl), (kz c.2.2 6 (by decide) (by decide) w4).mono ?_⟩
 rintro e w6 ⟨rfl, h6⟩
 have x6 : Ext w4 w6 := by rw [h6]; exact Ext.aq _
 have z6 := x6.size
 have q1 : IntKind.wrap .i64 (5 + c.1 % 6) = 5 + c.1 % 6 := wI
 have q2 : IntKind.wrap .i64 (14 + c.2.1 % 9) = 14 + c.2.1 % 9 := wI
 have q3 : IntKind.wrap .i64 (5 + c.2.2 % 6) = 5 + c.2.2 % 6 := wI
 refine ⟨_, rfl, x6.k, x6.k, fun w8 e8 => ?_⟩
 rw [q1, q2, q3]
 exact ⟨rfl, (x1.tr (x24.tr x6)).ah e8 (by omega)⟩
def V0 (aa:Int):Ce->Int:=cD (l5 aa 5)
def yr (c:Ce):Prop:=(1<=c.1/\c.1<=14)/\(15<=c.2.1/\c.2.1<=30)/\1<=c.2.2/\c.2.2<=14
theorem yr.pos {c:Ce} (h:yr c):pos c=(0,0):=by
 unfold yr at h
 unfold Go.bQ.pos
 exact Prod.ext (by show c.1 / 16=0;omega) (by show c.2.2 / 16=0;omega)
theorem yr.y {c:Ce} (h:yr c):fx c:=by unfold yr at h;unfold fx;omega
theorem yr.Jf {c:Ce} (h:yr c):pQ c:=by unfold yr at h;unfold pQ;omega
theorem yr.JQ {c:Ce} (h:yr c) (aa:Int):V0 aa c=0:=EM aa (by unfold yr at h;omega) (sP h.pos)
theorem yr.ur {c:Ce} (h:yr c) (aa:Int):∀n ∈ fL c,V0 aa n=0:=fun n hn=>by
 unfold yr at h
 unfold fL aS ma at hn
 simp only [List.mem_cons,List.not_mem_nil,or_false]at hn
 have key:∀n:Ce,(0<=n.1/\n.1<=15)->(14<=n.2.1/\n.2.1<32)->(0<=n.2.2/\n.2.2<=15)->V0 aa n=0:=fun n h1 h2 h3=>EM aa h2 (sP (Prod.ext (by show n.1 / 16=0;omega) (by show n.2.2 / 16=0;omega)))
 rcases hn with rfl|rfl|rfl|rfl|rfl|rfl<;>exact key _ (by simp only;omega) (by simp only;omega) (by simp only;omega)
theorem CF:(1:Int)<=1/\(1:Int)<=64:=by decide
theorem JC:(0:Int)<=0/\(0:Int)<=((0:Nat):Int):=by decide
theorem JD:(0:Int)<=0/\(0:Int)<=1099511627776:=by decide
theorem JR:(0:Int)<=1/\(1:Int)<=1099511627776:=by decide
theorem JS:(0:Int)<=2/\(2:Int)<=1099511627776:=by decide
theorem IX (aa aO : Int) : nC (M5 aa aO) 0 := ⟨JC, Nat.le_refl _, JD, Nat.le_refl _⟩
section
variable {F F':Nat->Prop} {w w':World} {s o t:Nat} {M M':Sm} {occ:Value} {O:Ce->Bool}
end
theorem JT:yr (5,20,5)/\yr (7,20,5)/\yr (5,19,5):=by unfold yr;decide
set_option maxHeartbeats 1000000 in
theorem yt (w : World) : Calls Tryz.prog oR #[] w fun e w' => e = .returned (.bool true) ∧ Ext w w' := by
 apply nT.vc
 refine (uY 1 1 ⟨none, 0, 0⟩ rfl w).mono ?_
 rintro e w0 ⟨s, o, t, F, occ, s1, s2, s3, rfl, hS, hO, -, x0, fF⟩
 have hO := hO.mono (F' := F) fun i hi => .inl hi
 have z0 := x0.size
 refine ⟨_, _, _, _, _, _, s1, s2, s3, ⟨none, 0, 0⟩, _, _, ⟨none, 0, 0⟩, _, _, ⟨none, 0, 0⟩, ⟨none, 0, 0⟩, rfl, fun w18 e18 w19 e19 => uS rfl ?_⟩
 have x19 : Ext w0 w19 := ((Ext.aq _).ab e18).ah e19 (Nat.le_refl _)
 have z19 := yA e18 e19
 clear e18 e19
 have nf : ∀ {F1 F2 : Nat → Prop} {a b : World}, ao F F1 w19 a → ao F1 F2 a b → b.heap[w0.heap.size]? = a.heap[w0.heap.size]? := fun ta tb => tb.mod.same _ (by have := ta.mod.size; omega) fun hf => by
  rcases ta.sub _ hf with q | q
  ·have := hS.lt q; omega
  ·omega
 have Ap : Hs (M5 1 1).T.2 (V0 1) := BU 1
 obtain ⟨u1, u2, u3⟩ := JT
 have d1 : ∀ n ∈ fL (5, 20, 5), ay (V0 1 n) = 0 := fun n hn => by rw [u1.ur 1 n hn]; exact kC
 obtain ⟨l1, ch1, a1, a2, a3, a4⟩ := om Ap u1.pos u1.y d1
 refine (lO (hS.ext x19) (5, 20, 5) u1.Jf.wide 3 ((IX 1 1).mono (by omega))).mono ?_
 rintro e w20 ⟨rfl, F1, hS1, t1⟩
 rw [a2] at hS1
 have d2 : ∀ n ∈ fL (7, 20, 5), ay (cK (V0 1) (5, 20, 5) 3 n) = 0 := fun n hn => by
  rw [ei (by
   rintro rfl
   revert hn
   decide), u2.ur 1 n hn]
  exact kC
 obtain ⟨l2, ch2, b1, b2, b3, b4⟩ := om (M := { M5 1 1 with T := (eP 0, l1), ch := ch1, q := (cX (M5 1 1).q (5, 20, 5) ((M5 1 1).now + 2)).1 }) a3 u2.pos u2.y d2
 refine ⟨_, rfl, nf (ao.refl _ _) t1, ?_⟩
 have k1 : nC { M5 1 1 with T := (eP 0, l1), ch := ch1, q := (cX (M5 1 1).q (5, 20, 5) ((M5 1 1).now + 2)).1 } 10 := by
  have := (IX 1 1).edit (5, 20, 5) 3
  rw [a2] at this
  exact this.mono (by omega)
 refine (lO hS1 (7, 20, 5) u2.Jf.wide 3 (k1.mono (by omega))).mono ?_
 rintro e w22 ⟨rfl, F2, hS2, t2⟩
 have k2 := k1.edit (7, 20, 5) 3
 have T2 := t1.trans t2
 refine ⟨_, rfl, nf t1 t2, ?_⟩
 have e2 : dU { M5 1 1 with T := (eP 0, l1), ch := ch1, q := (cX (M5 1 1).q (5, 20, 5) ((M5 1 1).now + 2)).1 } (7, 20, 5) 3 = ⟨1, 5, (eP 0, l2), ch2, ⟨4096, 0, [(2, (5, 20, 5)), (2, (7, 20, 5))]⟩, 1, 0, []⟩ := by rw [b2]; rfl
 rw [e2] at hS2 k2
 have k2 := k2.mono (show 10 + 7 ≤ 100 by decide)
 have hO2 := (hO.ext x19).eK T2
 have c12 : ((5, 20, 5) : Ce) ≠ (7, 20, 5) := by decide
 have g1 : ju ⟨1, 5, (eP 0, l2), ch2, ⟨4096, 0, [(2, (5, 20, 5)), (2, (7, 20, 5))]⟩, 1, 0, []⟩ = [] := rfl
 have g2 : ig (fun _ => false) ⟨1, 5, (eP 0, l2), ch2, ⟨4096, 0, [(2, (5, 20, 5)), (2, (7, 20, 5))]⟩, 1, 0, []⟩ = ⟨1, 5, (eP 0, l2), ch2, ⟨4096, 0, [(2, (5, 20, 5)), (2, (7, 20, 5))]⟩, 1, 1, []⟩ := by
  unfold ig; rw [g1]; rfl
 refine (kK hS2 hO2 (by rw [g1]; intro y hy; cases hy) (k2.mono (by omega)) CF).mono ?_
 rw [g2]
 rintro e w24 ⟨rfl, F3, hS3, t3⟩
 have T3 := T2.trans t3
 have hO3 := hO2.eK t3
 refine ⟨_, rfl, nf T2 t3, ?_⟩
 have g3 : ju ⟨1, 5, (eP 0, l2), ch2, ⟨4096, 0, [(2, (5, 20, 5)), (2, (7, 20, 5))]⟩, 1, 1, []⟩ = [(5, 20, 5)] := rfl
 have g4 : aT ⟨1, 5, (eP 0, l2), ch2, ⟨4096, 0, [(2, (5, 20, 5)), (2, (7, 20, 5))]⟩, 1, 1, []⟩ = ⟨1, 5, (eP 0, l2), ch2, ⟨4096, 0, [(2, (7, 20, 5))]⟩, 1, 2, []⟩ := rfl
 have v1 : cK (cK (V0 1) (5, 20, 5) 3) (7, 20, 5) 3 (5, 20, 5) = 3 := by rw [ei c12, dN]
 have vl : cK (cK (V0 1) (5, 20, 5) 3) (7, 20, 5) 3 (5, 19, 5) = 0 := by rw [ei (by decide), ei (by decide)]; exact u3.JQ 1
 have far : ∀ {n : Ce}, n ≠ (5, 20, 5) → n ≠ (7, 20, 5) → V0 1 n = 0 → ay (cK (cK (V0 1) (5, 20, 5) 3) (7, 20, 5) 3 n) = 0 := fun h1 h2 h3 => by rw [ei h2, ei h1, h3]; exact kC
 have k3 : nC ⟨1, 5, (eP 0, l2), ch2, ⟨4096, 0, [(2, (5, 20, 5)), (2, (7, 20, 5))]⟩, 1, 1, []⟩ 100 := ⟨k2.l, k2.c, JR, k2.d⟩
 have k3s : nC ⟨1, 5, (eP 0, l2), ch2, ⟨4096, 0, [(2, (7, 20, 5))]⟩, 1, 2, []⟩ 100 := ⟨k2.l, k2.c, JS, k2.d⟩
 obtain ⟨l4, ch4, f1, f2, f3⟩ := Er (M := ⟨1, 5, (eP 0, l2), ch2, ⟨4096, 0, [(2, (7, 20, 5))]⟩, 1, 2, []⟩) (O := fun _ => false) (c := (5, 20, 5)) b3 u1.pos u1.y u3.y v1 vl (fun n hn => far (wE hn) (by
  rintro rfl
  revert hn
  decide) (u1.ur 1 n hn)) (fun n hn hne => far hne (by
  rintro rfl
  revert hn
  decide) (u3.ur 1 n hn)) rfl
 have f1 : fO (fun _ => false) ⟨1, 5, (eP 0, l2), ch2, ⟨4096, 0, [(2, (7, 20, 5))]⟩, 1, 2, []⟩ (5, 20, 5) = ⟨1, 5, (eP 0, l4), ch4, ⟨4096, 0, [(2, (7, 20, 5)), (4, (5, 19, 5))]⟩, 1, 2, []⟩ := f1
 have g5 : ig (fun _ => false) ⟨1, 5, (eP 0, l2), ch2, ⟨4096, 0, [(2, (5, 20, 5)), (2, (7, 20, 5))]⟩, 1, 1, []⟩ = ⟨1, 5, (eP 0, l4), ch4, ⟨4096, 0, [(2, (7, 20, 5)), (4, (5, 19, 5))]⟩, 1, 2, []⟩ := by
  unfold ig
  rw [g3, g4]
  exact f1
 refine (kK hS3 hO3 (by
  rw [g3]
  intro y hy
  rw [List.mem_singleton.1 hy]
  exact u1.Jf) (k3.mono (by omega)) CF).mono ?_
 rw [g5, g3]
 rintro e w26 ⟨rfl, F4, hS4, t4⟩
 have T4 := T3.trans t4
 have hO4 := hO3.eK t4
 have k4 := k3s.IS (fun _ => false) (5, 20, 5)
 rw [f1] at k4
 refine ⟨_, rfl, nf T3 t4, yes rfl ?_⟩
 have g6 : ju ⟨1, 5, (eP 0, l4), ch4, ⟨4096, 0, [(2, (7, 20, 5)), (4, (5, 19, 5))]⟩, 1, 2, []⟩ = [(7, 20, 5)] := rfl
 refine (kK hS4 hO4 (by
  rw [g6]
  intro y hy
  rw [List.mem_singleton.1 hy]
  exact u2.Jf) (k4.mono (by omega)) CF).mono ?_
 rw [g6]
 rintro e w28 ⟨rfl, F5, hS5, t5⟩
 have T5 := T4.trans t5
 refine ⟨_, rfl, nf T4 t5, rfl, ?_⟩
 exact (T5.fresh (x0.tr x19) fF).1
end Go.Proofs.YtalpkjfpmdpbiaaGreatDoor
