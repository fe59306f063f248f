import Derived.Test.YtbnmglonbhdcbaaGreatDoorWA
import Derived.Test.YtbnmglonbhdcbaaGreatDoorGX
set_option linter.all false
namespace Go.Proofs.YtbnmglonbhdcbaaGreatDoor
open Go Go.Vc Go.RowKit Go.Proofs Go.Chk Go.Runs Go.Code
section
variable {N F F' : Nat → Prop} {w w' v v' : World} {s1 s2 s3 s4 : Sl} {T T' : Tb} {ch ch' : List Cg} {seed cap limit : Int} {o t a b m n k : Nat}
theorem wTake_spec (h : WF F w o t seed limit T ch) : Calls Tryz.prog n_world_World_Take #[.pointer (some ⟨o, 0, none⟩)] w fun e w' => ∃ sc F', e = .returned (.slice sc.a sc.n sc.c) ∧ OwnK 0 tChg 4 w' sc (ch.map cgv) ∧ WF F' w' o t seed limit T [] ∧ (∀ i, F' i → F i) ∧ Mod (fun j => j = o) w w' := by
 obtain ⟨F1, sc, h1, h2, h3, rfl⟩ := h
 apply world_World_Take.vc
 obtain ⟨p1, p2⟩ := h2.put1 (j := 1) (v := .slice none 0 0) (by simp) rfl
 refine ⟨sc, h2.at 1 rfl, ⟨rfl, p1⟩, fun w1 e1 => ?_⟩
 obtain ⟨q1, q2⟩ := p2 w1 e1
 have hso : ∀ b, sc.blk = some b → b ≠ o := fun b hb => by
  obtain ⟨cs', hr'⟩ := own_row h3 (by decide) hb
  exact hr'.ne h2 (by decide)
 refine ⟨sc, _, rfl, q2.ownK h3 hso, ⟨F1, ⟨none, 0, 0⟩, h1.keep q2 fun i hi e => h1.no_row h2 (by decide) (e ▸ hi), q1, OwnK.nil, rfl⟩, fun i hi => ?_, q2⟩
 rcases hi with hi | hi | hi
 ·exact .inl hi
 ·exact .inr (.inl hi)
 ·cases hi
theorem WF.hasO (h : WF F w o t seed limit T ch) : F o := by
 obtain ⟨F1, s, -, -, -, rfl⟩ := h
 exact .inr (.inl rfl)
theorem WF.okt (h : WF F w o t seed cap T ch) (hi : Iv m n T) (hm : m ≤ 400000) : Okt T := by
 obtain ⟨F1, hT, -⟩ := h.table
 exact hT.okt hi hm
theorem wfLoad_spec (h : WF F w o t seed limit T ch) (hW : T.1.l.length ≤ 1000000) (p : Po) :
  Calls Tryz.prog n_table_Table_Load #[.pointer (some ⟨t, 0, none⟩), pv p] w fun e w' => e = .returned (.int .i64 (ldE seed limit T.1 T.2 p).2) ∧ WRes F w o t seed limit (ldE seed limit T.1 T.2 p).1 ch w' := by
 obtain ⟨F1, hT, -, hres⟩ := h.table
 refine (tfLoad_spec hT hW p).mono ?_
 rintro e w' ⟨rfl, hr⟩
 exact ⟨rfl, hres hr⟩
theorem wfUnload_spec (h : WF F w o t seed limit T ch) (hW : T.1.l.length ≤ 1000000) (p : Po) :
  Calls Tryz.prog n_table_Table_Unload #[.pointer (some ⟨t, 0, none⟩), pv p] w fun e w' => e = .returned (.int .i64 (unldE T.1 T.2 p).2) ∧ WRes F w o t seed limit (unldE T.1 T.2 p).1 ch w' := by
 obtain ⟨F1, hT, -, hres⟩ := h.table
 refine (tfUnload_spec hT hW p).mono ?_
 rintro e w' ⟨rfl, hr⟩
 exact ⟨rfl, hres hr⟩
theorem wfAt_spec (h : WF F w o t seed limit T ch) (c : Ce) (hc : okC c) :
  Calls Tryz.prog n_table_Table_At #[.pointer (some ⟨t, 0, none⟩), cev c] w fun e w' => e = .returned (.int .i64 (atE T.2 c)) ∧ Ext w w' := by
 obtain ⟨F1, hT, -⟩ := h.table
 exact tfAt_spec hT c hc
theorem rg_turn (hG : RG (Bx (Nf N F) a b) w s4 ch) (ht : Turned F F' w w') : RG (Bx (Nf N F') a b) w' s4 ch :=
 hG.same fun i hp hi => ⟨ht.mod.same i hi hp.1.1, ⟨fun q => (ht.sub i q).elim hp.1.1 (by omega), hp.1.2⟩, hp.2⟩
theorem WF.fw (h : WF F w o t seed cap T ch) (hN : Fw N w) : Fw (Nf N F) w := fun i hi => ⟨fun q => by have := h.lt q; omega, hN i hi⟩
def DoW (N F : Nat → Prop) (w : World) (o t : Nat) (seed cap : Int) (m n k : Nat) (e : Ending) (w' : World) : Prop :=
 ∃ (F' : Nat → Prop) (T' : Tb) (ch' : List Cg) (s1' s2' s3' s4' : Sl), e = .returned (.tuple #[wvR seed cap T'.1 s1' s2' s3' s4', .bool true]) ∧ WF F' w' o t seed cap T' ch' ∧ RT (Nf N F') w' T' s1' s2' s3' ∧ RG (Nf N F') w' s4' ch' ∧ Turned F F' w w' ∧ Iv m n T' ∧ ch'.length ≤ k
theorem fin_doW {B g : Nat} {c : Array Value} {w30 : World} (hF : WF F w o t seed cap T ch) (x : Ext w v) (hR : RT (Bx (Nf N F) w.heap.size B) v T' s1 s2 s3) (hG : RG (Bx (Nf N F) w.heap.size B) v s4 ch') (hB : w.heap.size ≤ g ∧ g < B) (hBv : B ≤ v.heap.size) (hr : WRes F v o t seed cap T' ch' w') (hi : Iv m n T') (hk : ch'.length ≤ k) (e : w30 = w'.setRow g c) :
  DoW N F w o t seed cap m n k (.returned (.tuple #[wvR seed cap T'.1 s1 s2 s3 s4, .bool true])) w30 := by
 obtain ⟨F', h', ht⟩ := hr
 have h1 : Turned F F' w w' := (Turned.of_ext x).trans ht
 have hg : ∀ i, F' i → i ≠ g := fun i hf q => by
  rcases ht.sub i hf with q2 | q2
  ·have := hF.lt q2; omega
  ·omega
 refine ⟨F', T', ch', s1, s2, s3, s4, rfl, h'.same fun i hi => by rw [e, setRow_other _ _ _ _ (hg i hi)], ((rt_turn hR ht).box e hB).out, ((rg_turn hG ht).box e hB).out, ⟨⟨by rw [e]; exact h1.mod.os, by rw [e]; exact h1.mod.tape, by rw [e]; exact h1.mod.output, by rw [e]; simpa using h1.mod.size, fun i hi hn => ?_⟩, h1.sub⟩, hi, hk⟩
 rw [e, setRow_other _ _ _ _ (by omega)]
 exact h1.mod.same i hi hn
theorem wr_keep (hF : WF F w o t seed cap T ch) (hr : WRes F v o t seed cap T' ch' w') {j : Nat} (hj : w.heap.size ≤ j) (hjv : j < v.heap.size) : w'.heap[j]? = v.heap[j]? := by
 obtain ⟨F', h', ht⟩ := hr
 exact ht.mod.same j hjv fun q => by have := hF.lt q; omega
theorem iv_swap {D : Dk} {l : List En} (h : Iv m n (D, l)) (a b : Ce) : Iv m n (D, swL l a b) := by
 unfold swL
 split
 ·exact h
 ·exact iv_set (iv_set h a _) b _
theorem swC_len (l : List En) (ch : List Cg) (a b : Ce) : (swC l ch a b).length ≤ ch.length + 2 := by
 unfold swC
 split
 ·omega
 ·have := wsC_len (setE l a (atE l b)).1 (wsC l ch a (atE l b)) b (atE l a)
  have := wsC_len l ch a (atE l b)
  omega
end
theorem Lo.wv {w : World} {g : Nat} {cs : List Value} {τ : TypeId} (h : Row w g cs τ) : LoadL w (some ⟨g, 0, none⟩) 0 cs := h.loadL (fun j hj => by rw [Nat.zero_add])
set_option maxRecDepth 100000 in
theorem does13_spec {N F : Nat → Prop} {w : World} {s1 s2 s3 s4 : Sl} {T : Tb} {ch : List Cg} {seed cap : Int} {o t m n k : Nat} (hF : WF F w o t seed cap T ch) (hR : RT (Nf N F) w T s1 s2 s3) (hG : RG (Nf N F) w s4 ch) (hN : Fw N w) (hi : Iv m n T) (hm : m ≤ 100000) (hk : ch.length ≤ k) (hk1 : k ≤ 1000) (hcap : inI cap)
  (k0 bb px pz c1 c2 c3 d1 d2 d3 : Int) (hd : ∀ x ∈ [k0, bb, px, pz, c1, c2, c3, d1, d2, d3], inI x) :
  Calls Tryz.prog n_law13_does #[.pointer (some ⟨o, 0, none⟩), wvR seed cap T.1 s1 s2 s3 s4, .agg #[.int .i64 k0, .int .i64 bb, .int .i64 px, .int .i64 pz, .int .i64 c1, .int .i64 c2, .int .i64 c3, .int .i64 d1, .int .i64 d2, .int .i64 d3]] w (DoW N F w o t seed cap (m + 1) n (k + 2)) := by
 apply (law13_does.vc (a1_5 := s1) (a1_6 := s2) (a1_7 := s3) (a1_8 := s4))
 have hok := hF.okt hi (by omega)
 have hlen := hF.len
 have hmD := hi.m
 have ipx := hd px (by simp)
 have ipz := hd pz (by simp)
 have ic1 := hd c1 (by simp)
 have ic2 := hd c2 (by simp)
 have ic3 := hd c3 (by simp)
 have id1 := hd d1 (by simp)
 have id2 := hd d2 (by simp)
 have id3 := hd d3 (by simp)
 intro w0 e0 w1 e1 w2 e2
 have x2 : Ext w w2 := (((Ext.rfl' _).of_alloc e0).of_alloc e1).of_alloc e2
 have z0 : w0.heap.size = w.heap.size + 1 := by rw [e0]; simp
 have z1 : w1.heap.size = w.heap.size + 2 := by rw [e1]; simp [z0]
 have z2 : w2.heap.size = w.heap.size + 3 := by rw [e2]; simp [z1]
 have rt2 : Row w2 w.heap.size (wvL seed cap T.1 s1 s2 s3 s4) 92 := (by rw [e0]; exact Row.new w [_, _, _, _, _, _, _, _, _] _ : Row w0 w.heap.size _ 92).ext (((Ext.rfl' _).of_alloc e1).of_alloc e2)
 clear e0 e1 e2
 refine (rPos_spec (px, pz) ⟨ipx, ipz⟩ w2).mono ?_
 rintro e w3 ⟨rfl, x3⟩
 have z3 := x3.size
 refine ⟨_, _, rfl, x3.heap (by omega), x3.heap (by omega), x3.heap (by omega), fun w6 e6 w7 e7 => ?_⟩
 have x7 : Ext w3 w7 := ((Ext.rfl' _).of_alloc e6).of_setRow e7 (Nat.le_refl _)
 have z7 : w7.heap.size = w3.heap.size + 1 := by rw [e7, e6]; simp
 clear e6 e7
 refine (rCell_spec (c1, c2, c3) ⟨ic1, ic2, ic3⟩ w7).mono ?_
 rintro e w8 ⟨rfl, x8⟩
 have z8 := x8.size
 have okc := cellK_ok (c1, c2, c3)
 refine ⟨_, _, _, rfl, x8.heap (by omega), x8.heap (by omega), x8.heap (by omega), x8.heap (by omega), fun w12 e12 w13 e13 => ?_⟩
 have x13 : Ext w8 w13 := ((Ext.rfl' _).of_alloc e12).of_setRow e13 (Nat.le_refl _)
 have z13 : w13.heap.size = w8.heap.size + 1 := by rw [e13, e12]; simp
 clear e12 e13
 have x013 := x2.tr (x3.tr (x7.tr (x8.tr x13)))
 refine (wTable_spec (hF.ext x013)).mono ?_
 rintro e w14 ⟨rfl, hw⟩
 subst hw
 have rt14 := rt2.ext (x3.tr (x7.tr (x8.tr x13)))
 generalize cellK (c1, c2, c3) = c at *
 generalize posK (px, pz) = p at *
 have hR14 := hR.into x013 w14.heap.size
 have hG14 := hG.into x013 w14.heap.size
 have hP14 : Fw (Bx (Nf N F) w.heap.size w14.heap.size) w14 := (WF.fw hF hN).bx x013 (Nat.le_refl _)
 have hz1 : T.1.l.length ≤ 100000 := by unfold mD at hmD; omega
 have hTi : Iv m n (T.1, T.2) := hi
 refine ⟨_, rfl, rfl, rfl, rfl, rfl, rfl, nope rfl ?_⟩
 refine Br.mk (fun q => ?_) (fun _ => Br.mk (fun q => ?_) (fun _ => Br.mk (fun q => ?_) (fun _ => Br.mk (fun q => ?_) (fun _ => ?_))))
 ·refine (rLoad12_spec (seed := seed) (cap := cap) hR14 hP14 hok (by omega) hcap p).mono ?_
  rintro e w17 ⟨sa, sb, sc, rfl, h17, x17⟩
  have z17 := x17.size
  refine ⟨_, _, _, _, _, sa, sb, sc, _, rfl, x17.heap (by omega), x17.heap (by omega), x17.heap (by omega), x17.heap (by omega), x17.heap (by omega), fun w27 e27 w28 e28 w29 e29 => ?_⟩
  have x28 : Ext w17 w28 := ((Ext.rfl' _).of_alloc e27).of_setRow e28 (Nat.le_refl _)
  have z28 : w28.heap.size = w17.heap.size + 1 := by rw [e28, e27]; simp
  have z29 : w29.heap.size = w28.heap.size := by rw [e29]; simp
  have r29 : Row w29 w.heap.size (wvL seed cap (ldE seed cap T.1 T.2 p).1.1 sa sb sc s4) 92 := by rw [e29]; exact Row.set (rt14.ext (x17.tr x28)) _
  have h29 := (h17.ext x28).box e29 ⟨by omega, by omega⟩
  have g29 := (hG14.ext (x17.tr x28)).box e29 ⟨by omega, by omega⟩
  have x29 : Ext w w29 := (x013.tr (x17.tr x28)).of_setRow e29 (Nat.le_refl _)
  clear e27 e28 e29
  have xd := Ext.dr w29
  have zd : w29.drew.heap.size = w29.heap.size := rfl
  refine (wfLoad_spec (hF.ext (x29.tr xd)) (by omega) p).mono ?_
  rintro e w30 ⟨rfl, hr⟩
  have kp : ∀ {j}, w.heap.size ≤ j → j < w29.drew.heap.size → w30.heap[j]? = w29.drew.heap[j]? := fun h1 h2 => wr_keep hF hr h1 h2
  refine ⟨_, rfl, kp (by omega) (by omega), kp (by omega) (by omega), kp (by omega) (by omega), kp (by omega) (by omega), kp (by omega) (by omega), kp (by omega) (by omega), Lo.wv ((r29.ext xd).same (kp (by omega) (by omega))), fun w32 e32 => ?_⟩
  rw [show (((ldE seed cap T.1 T.2 p).2 : Int) == (ldE seed cap T.1 T.2 p).2) = true by simp]
  exact fin_doW hF (x29.tr xd) (h29.ext xd) (g29.ext xd) ⟨by omega, by omega⟩ (by omega) hr (iv_ld hTi ..) (by omega) e32
 ·refine (rUnload12_spec (seed := seed) (cap := cap) hR14 hP14 hok p).mono ?_
  rintro e w17 ⟨sa, sb, sc, rfl, h17, x17⟩
  have z17 := x17.size
  refine ⟨_, _, _, _, _, sa, sb, sc, _, rfl, x17.heap (by omega), x17.heap (by omega), x17.heap (by omega), x17.heap (by omega), x17.heap (by omega), fun w27 e27 w28 e28 w29 e29 => ?_⟩
  have x28 : Ext w17 w28 := ((Ext.rfl' _).of_alloc e27).of_setRow e28 (Nat.le_refl _)
  have z28 : w28.heap.size = w17.heap.size + 1 := by rw [e28, e27]; simp
  have z29 : w29.heap.size = w28.heap.size := by rw [e29]; simp
  have r29 : Row w29 w.heap.size (wvL seed cap (unldE T.1 T.2 p).1.1 sa sb sc s4) 92 := by rw [e29]; exact Row.set (rt14.ext (x17.tr x28)) _
  have h29 := (h17.ext x28).box e29 ⟨by omega, by omega⟩
  have g29 := (hG14.ext (x17.tr x28)).box e29 ⟨by omega, by omega⟩
  have x29 : Ext w w29 := (x013.tr (x17.tr x28)).of_setRow e29 (Nat.le_refl _)
  clear e27 e28 e29
  have xd := Ext.dr w29
  have zd : w29.drew.heap.size = w29.heap.size := rfl
  refine (wfUnload_spec (hF.ext (x29.tr xd)) (by omega) p).mono ?_
  rintro e w30 ⟨rfl, hr⟩
  have kp : ∀ {j}, w.heap.size ≤ j → j < w29.drew.heap.size → w30.heap[j]? = w29.drew.heap[j]? := fun h1 h2 => wr_keep hF hr h1 h2
  refine ⟨_, rfl, kp (by omega) (by omega), kp (by omega) (by omega), kp (by omega) (by omega), kp (by omega) (by omega), kp (by omega) (by omega), kp (by omega) (by omega), Lo.wv ((r29.ext xd).same (kp (by omega) (by omega))), fun w32 e32 => ?_⟩
  rw [show (((unldE T.1 T.2 p).2 : Int) == (unldE T.1 T.2 p).2) = true by simp]
  exact fin_doW hF (x29.tr xd) (h29.ext xd) (g29.ext xd) ⟨by omega, by omega⟩ (by omega) hr (iv_unld hTi ..) (by omega) e32
 ·refine (rCell_spec (d1, d2, d3) ⟨id1, id2, id3⟩ w14).mono ?_
  rintro e w49 ⟨rfl, x49⟩
  have z49 := x49.size
  have okd := cellK_ok (d1, d2, d3)
  generalize cellK (d1, d2, d3) = d at *
  refine ⟨_, _, _, rfl, x49.heap (by omega), x49.heap (by omega), x49.heap (by omega), x49.heap (by omega), x49.heap (by omega), fun w53 e53 w54 e54 => ?_⟩
  have x54 : Ext w49 w54 := ((Ext.rfl' _).of_alloc e53).of_setRow e54 (Nat.le_refl _)
  have z54 : w54.heap.size = w49.heap.size + 1 := by rw [e54, e53]; simp
  clear e53 e54
  have x454 := x49.tr x54
  refine (rSwap13_spec (seed := seed) (cap := cap) (hR14.ext x454) (hG14.ext x454) (hP14.ext x454) hok (by omega) c d okc okd).mono ?_
  rintro e w55 ⟨sa, sb, sc, sd, rfl, h55, g55, x55⟩
  have z55 := x55.size
  refine ⟨_, _, _, _, _, sa, sb, sc, sd, _, rfl, x55.heap (by omega), x55.heap (by omega), x55.heap (by omega), x55.heap (by omega), x55.heap (by omega), x55.heap (by omega), fun w66 e66 w67 e67 => ?_⟩
  have x67 : Ext w55 w67 := ((Ext.rfl' _).of_alloc e66).of_setRow e67 (Nat.le_refl _)
  have z67 : w67.heap.size = w55.heap.size + 1 := by rw [e67, e66]; simp
  have r67 : Row w67 w55.heap.size (wvL seed cap T.1 sa sb sc sd) 92 := by rw [e67]; exact Row.set (by rw [e66]; exact Row.new w55 [_, _, _, _, _, _, _, _, _] _) _
  clear e66 e67
  have xd := x67.tr (Ext.dr w67)
  have zd : w67.drew.heap.size = w67.heap.size := rfl
  have xw := x013.tr (x454.tr (x55.tr xd))
  refine (wSwap_spec (hF.ext xw) c d okc okd (by omega)).mono ?_
  rintro e w68 ⟨rfl, hr⟩
  have kp : ∀ {j}, w.heap.size ≤ j → j < w67.drew.heap.size → w68.heap[j]? = w67.drew.heap[j]? := fun h1 h2 => wr_keep hF hr h1 h2
  refine ⟨_, rfl, kp (by omega) (by omega), kp (by omega) (by omega), kp (by omega) (by omega), kp (by omega) (by omega), kp (by omega) (by omega), kp (by omega) (by omega), kp (by omega) (by omega), Lo.wv ((r67.ext (Ext.dr w67)).same (kp (by omega) (by omega))), fun w70 e70 => ?_⟩
  rw [show ((swK T.2 c d : Int) == swK T.2 c d) = true by simp]
  have hl := swC_len T.2 ch c d
  exact fin_doW hF xw (h55.ext xd) (g55.ext xd) ⟨by omega, by omega⟩ (by omega) hr ((iv_swap hTi c d).mono (by omega) (Nat.le_refl _)) (by omega) e70
 ·intro w71 e71
  have z71 : w71.heap.size = w14.heap.size := by rw [e71]; simp
  have r71 : Row w71 w.heap.size (wvL seed cap T.1 s1 s2 s3 ⟨none, 0, 0⟩) 92 := by rw [e71]; exact Row.set rt14 _
  have h71 := hR14.box e71 ⟨by omega, by omega⟩
  have g71 := hG14.box e71 ⟨by omega, by omega⟩
  have x71 : Ext w w71 := x013.of_setRow e71 (Nat.le_refl _)
  clear e71
  have xd := Ext.dr w71
  have zd : w71.drew.heap.size = w71.heap.size := rfl
  have xw := x71.tr xd
  have ho := hF.hasO
  have hol := hF.lt ho
  refine (wTake_spec (hF.ext xw)).mono ?_
  rintro e w72 ⟨sc, F', rfl, hO, hW, hsub, hmod⟩
  have z72 := hmod.size
  have kp : ∀ {j}, w.heap.size ≤ j → j < w71.drew.heap.size → w72.heap[j]? = w71.drew.heap[j]? := fun h1 h2 => hmod.same _ h2 (by omega)
  have r72 := (r71.ext xd).same (kp (by omega) (by omega))
  have g72 : RdK w72 s4 4 (ch.map cgv) := ((g71.ext xd).same (P' := fun _ => True) fun i hp hi => ⟨hmod.same i hi fun q => hp.1.1 (q ▸ ho), trivial⟩).r
  refine ⟨sc, rfl, kp (by omega) (by omega), kp (by omega) (by omega), kp (by omega) (by omega), kp (by omega) (by omega), kp (by omega) (by omega), Lo.wv r72, (changes_spec (hO.rd (by decide)) g72 (by omega)).mono ?_⟩
  rintro e w74 ⟨rfl, x74⟩
  refine ⟨true, rfl, x74.heap (by omega), x74.heap (by omega), x74.heap (by omega), x74.heap (by omega), x74.heap (by omega), Lo.wv (r72.ext x74), fun w76 e76 => ?_⟩
  have hr : WRes F w71.drew o t seed cap T [] w74 := ⟨F', hW.ext x74, ⟨(hmod.mono fun i _ q => q ▸ ho).trans (Mod.of_ext x74), fun i hi => .inl (hsub i hi)⟩⟩
  exact fin_doW hF xw (h71.ext xd) RG.nil ⟨by omega, by omega⟩ (by omega) hr (hi.mono (by omega) (Nat.le_refl _)) (by simp) e76
 ·refine (rSet13_spec (seed := seed) (cap := cap) hR14 hG14 hP14 hok (by omega) c okc bb).mono ?_
  rintro e w55 ⟨sa, sb, sc, sd, rfl, h55, g55, x55⟩
  have z55 := x55.size
  refine ⟨_, _, _, _, _, sa, sb, sc, sd, _, rfl, x55.heap (by omega), x55.heap (by omega), x55.heap (by omega), x55.heap (by omega), x55.heap (by omega), fun w66 e66 w67 e67 => ?_⟩
  have x67 : Ext w55 w67 := ((Ext.rfl' _).of_alloc e66).of_setRow e67 (Nat.le_refl _)
  have z67 : w67.heap.size = w55.heap.size + 1 := by rw [e67, e66]; simp
  have r67 : Row w67 w55.heap.size (wvL seed cap T.1 sa sb sc sd) 92 := by rw [e67]; exact Row.set (by rw [e66]; exact Row.new w55 [_, _, _, _, _, _, _, _, _] _) _
  clear e66 e67
  have xd := x67.tr (Ext.dr w67)
  have zd : w67.drew.heap.size = w67.heap.size := rfl
  have xw := x013.tr (x55.tr xd)
  refine (wSet_spec (hF.ext xw) c okc bb (by omega)).mono ?_
  rintro e w68 ⟨rfl, hr⟩
  have kp : ∀ {j}, w.heap.size ≤ j → j < w67.drew.heap.size → w68.heap[j]? = w67.drew.heap[j]? := fun h1 h2 => wr_keep hF hr h1 h2
  refine ⟨_, rfl, kp (by omega) (by omega), kp (by omega) (by omega), kp (by omega) (by omega), kp (by omega) (by omega), kp (by omega) (by omega), kp (by omega) (by omega), Lo.wv ((r67.ext (Ext.dr w67)).same (kp (by omega) (by omega))), fun w70 e70 => ?_⟩
  rw [show (((setE T.2 c bb).2 : Int) == (setE T.2 c bb).2) = true by simp]
  have hl := wsC_len T.2 ch c bb
  exact fin_doW hF xw (h55.ext xd) (g55.ext xd) ⟨by omega, by omega⟩ (by omega) hr ((iv_set hTi c bb).mono (by omega) (Nat.le_refl _)) (by omega) e70
theorem ok0 : okC (0, 0, 0) := by unfold okC inI; simp
theorem at_base13 (M : List Int) (hM : M = made 0 (0, 0)) : atE [(((0, 0), M, false, 0) : En)] (0, 0, 0) = 1 := by
 have h0 : M[0]? = some 1 := by
  rw [hM, made_get 0 (0, 0) (by decide)]
  unfold ofG
  rw [if_neg (by decide), if_pos (by decide)]
 show kAt (0, 0) M (0, 0, 0) = 1
 have hk : inK (0, 0) (0, 0, 0) = true := by decide
 unfold kAt
 rw [hk, if_pos rfl]
 show atC M 0 = 1
 unfold atC
 rw [if_neg (by decide), List.getD_eq_getElem?_getD]
 show (M[0]?).getD (-1) = 1
 rw [h0]; rfl
set_option maxRecDepth 100000 in
theorem lives13_spec (w : World) : Calls Tryz.prog n_law13_lives #[] w fun e w' => e = .returned (.bool true) ∧ Ext w w' := by
 apply law13_lives.vc
 refine (wNew_spec 0 1 100 w).mono ?_
 rintro e w0 ⟨o, t, F, rfl, h0, x0, f0⟩
 have hlim : (min (max (1 : Int) 1) 16) = 1 := by decide
 rw [hlim] at h0
 refine ⟨_, rfl, Br.mk (fun h => by cases h) (fun _ => (wView_spec h0).mono ?_)⟩
 rintro e w2 ⟨rfl, rfl⟩
 refine ⟨_, rfl, (wTable_spec h0).mono ?_⟩
 rintro e w4 ⟨rfl, rfl⟩
 refine ⟨_, rfl, ?_⟩
 rw [fnC_func, isNilF_func, AndL_nil]
 refine nope rfl ?_
 refine Br.mk (fun h => ?_) (fun _ => ?_)
 ·cases h
 obtain ⟨F1, hT, hsub, -⟩ := h0.table
 have fin : ∀ i, F1 i → w.heap.size ≤ i := fun i hi => f0 i (hsub i hi)
 refine callV_of (by kernel_rfl) rfl ((tfAt_spec hT (0, 0, 0) ok0).mono ?_)
 rintro e w6 ⟨rfl, x6⟩
 have e1' : ldE 0 1 ((dk0 100, ([] : List En)) : Tb).1 ((dk0 100, ([] : List En)) : Tb).2 (0, 0) = ((dk0 100, [((0, 0), made 0 (0, 0), false, 0)]), 0) := ld_first 0 1 100 (by decide) (by decide)
 refine ⟨_, rfl, (tfLoad_spec (hT.ext x6) (Nat.zero_le _) (0, 0)).mono ?_⟩
 rw [e1']
 rintro e w8 ⟨rfl, F8, h8, t8⟩
 refine ⟨_, rfl, yes rfl ?_⟩
 have hb := at_base13 (made 0 (0, 0)) rfl
 generalize made 0 (0, 0) = M at *
 refine callV_of (by kernel_rfl) rfl ((tfAt_spec h8 (0, 0, 0) ok0).mono ?_)
 rintro e w10 ⟨rfl, x10⟩
 refine ⟨_, rfl, ?_, ?_⟩
 ·show Ending.returned (.bool (atE [(((0, 0), M, false, 0) : En)] (0, 0, 0) == 1)) = _
  rw [hb]; rfl
 ·exact ((t8.fresh (x0.tr x6) fin).1).tr x10
end Go.Proofs.YtbnmglonbhdcbaaGreatDoor
namespace Go.Proofs.YtbnmglonbhdcbaaGreatDoor
open Go Go.Vc Go.RowKit Go.Proofs Go.Chk Go.Runs Go.Code
theorem row26 : offT 26 := by decide
theorem row92 : offT 92 := by decide
theorem ten {r : List Int} (h : r.length = 10) : ∃ k b px pz c1 c2 c3 d1 d2 d3, r = [k, b, px, pz, c1, c2, c3, d1, d2, d3] := by
 match r, h with
 | [k, b, px, pz, c1, c2, c3, d1, d2, d3], _ => exact ⟨k, b, px, pz, c1, c2, c3, d1, d2, d3, rfl⟩
theorem Lo.tv {w : World} {g : Nat} {seed cap : Int} {d : Dk} {s1 s2 s3 s4 : Sl} {τ : TypeId} (h : Row w g (wvL seed cap d s1 s2 s3 s4) τ) : LoadL w (some ⟨g, 0, none⟩) 0 [.int .i64 seed, .int .i64 cap, .int .i64 d.room, .int .i64 d.fails, .int .i64 d.wait, .slice s1.a s1.n s1.c, .slice s2.a s2.n s2.c, .slice s3.a s3.n s3.c] := h.loadL (fun j hj => by
 rw [Nat.zero_add]
 match j, hj with
 | 0, _ => rfl
 | 1, _ => rfl
 | 2, _ => rfl
 | 3, _ => rfl
 | 4, _ => rfl
 | 5, _ => rfl
 | 6, _ => rfl
 | 7, _ => rfl)
set_option maxRecDepth 100000 in
theorem WorldPlays_law (seed limit : Int) (s : Sl) (z : List (List Int)) (c : Ce) (w : World) (hc : okC c) (hs : RdK w s 10 (z.map fun r => r.map fun n => .int .i64 n)) (hz : ∀ r ∈ z, r.length = 10 ∧ ∀ n ∈ r, inI n) :
  Calls Tryz.prog n_law13_WorldPlays #[.int .i64 seed, .int .i64 limit, .slice s.a s.n s.c, cev c] w fun e w' => e = .returned (.bool true) ∧ Ext w w' := by
 apply (law13_WorldPlays.vc (a2 := s))
 have hsn := hs.n
 rw [List.length_map] at hsn
 intro w0 e0
 have x0 : Ext w w0 := (Ext.rfl' _).of_alloc e0
 have z0 : w0.heap.size = w.heap.size + 1 := by rw [e0]; simp
 have rc0 : Row w0 w.heap.size [.int .i64 c.1, .int .i64 c.2.1, .int .i64 c.2.2] 26 := by rw [e0]; exact Row.new w [_, _, _] _
 clear e0
 refine (wNew_spec seed limit 200000 w0).mono ?_
 rintro e w1 ⟨o, t, F0, rfl, hF0, x1, fF0⟩
 have z1 := x1.size
 refine ⟨_, rfl, x1.heap (by omega), nope rfl ((wView_spec hF0).mono ?_)⟩
 rintro e w3 ⟨rfl, hw⟩
 subst hw
 refine ⟨_, rfl, rfl, ?_⟩
 rw [fnC_func, isNilF_func, AndL_nil]
 refine nope rfl ((rNew13_spec (P := fun i => ¬ F0 i) seed limit 200000 w3).mono ?_)
 rintro e w5 ⟨sa0, sb0, sc0, rfl, h5, x5⟩
 have z5 := x5.size
 have hcap : inI (min (max limit 1) 16) := by unfold inI; omega
 generalize min (max limit 1) 16 = cap at *
 have hmd0 : mD (dk0 200000) ≤ 0 := Nat.le_refl _
 generalize dk0 200000 = D0 at *
 refine ⟨_, _, _, _, _, sa0, sb0, sc0, ⟨none, 0, 0⟩, rfl, x5.heap (by omega), fun w15 e15 w16 e16 => ?_⟩
 have x16 : Ext w5 w16 := ((Ext.rfl' _).of_alloc e15).of_setRow e16 (Nat.le_refl _)
 have z16 : w16.heap.size = w5.heap.size + 1 := by rw [e16, e15]; simp
 have rr16 : Row w16 w5.heap.size (wvL seed cap D0 sa0 sb0 sc0 ⟨none, 0, 0⟩) 92 := by rw [e16]; exact Row.set (by rw [e15]; exact Row.new w5 [_, _, _, _, _, _, _, _, _] _) _
 clear e15 e16
 refine (rCell_spec c hc w16).mono ?_
 rintro e w17 ⟨rfl, x17⟩
 have z17 := x17.size
 have okown := cellK_ok c
 have okpown : okP (pos (cellK c)) := by
  have h1 := around_bd c.1 80 (by decide)
  have h3 := around_bd c.2.2 80 (by decide)
  refine pos_okP ?_ ?_ <;> (unfold cellK; simp only; omega)
 generalize cellK c = own at *
 refine ⟨_, _, _, rfl, x17.heap (by omega), x17.heap (by omega), fun w21 e21 w22 e22 => ?_⟩
 have x22 : Ext w17 w22 := ((Ext.rfl' _).of_alloc e21).of_setRow e22 (Nat.le_refl _)
 have z22 : w22.heap.size = w17.heap.size + 1 := by rw [e22, e21]; simp
 have ro22 : Row w22 w17.heap.size [.int .i64 own.1, .int .i64 own.2.1, .int .i64 own.2.2] 26 := by rw [e22]; exact Row.set (by rw [e21]; exact Row.new w17 [_, _, _] _) _
 clear e21 e22
 have x522 := x16.tr (x17.tr x22)
 have hR22 : RT (Nf (fun i => i ≠ w5.heap.size) F0) w22 (D0, []) sa0 sb0 sc0 := h5.same fun i hp hi => ⟨x522.heap hi, hp, by omega⟩
 refine ⟨fun n i sd cp ro fl wt sa sb sc sdd wr => ∃ (k : Nat) (F : Nat → Prop) (T : Tb) (ch : List Cg), i = k ∧ k + n = z.length ∧ k ≤ 25 ∧ sd = seed ∧ cp = cap ∧ ro = T.1.room ∧ fl = T.1.fails ∧ wt = T.1.wait ∧ WF F wr o t seed cap T ch ∧ RT (Nf (fun i => i ≠ w5.heap.size) F) wr T sa sb sc ∧ RG (Nf (fun i => i ≠ w5.heap.size) F) wr sdd ch ∧ Iv k 0 T ∧ ch.length ≤ 2 * k ∧ Ext w wr ∧ (∀ i, F i → w.heap.size ≤ i) ∧ Row wr w.heap.size [.int .i64 c.1, .int .i64 c.2.1, .int .i64 c.2.2] 26 ∧ Row wr w5.heap.size (wvL seed cap T.1 sa sb sc sdd) 92 ∧ Row wr w17.heap.size [.int .i64 own.1, .int .i64 own.2.1, .int .i64 own.2.2] 26, ⟨z.length, rfl, rfl, 0, F0, (D0, []), [], rfl, by omega, by omega, rfl, rfl, rfl, rfl, rfl, hF0.ext (x5.tr x522), hR22, RG.nil, ⟨by omega, (fun e he => by cases he), List.nodup_nil⟩, by simp, x0.tr (x1.tr (x5.tr x522)), fun i hi => by have := fF0 i hi; omega, rc0.ext (x1.tr (x5.tr x522)), rr16.ext (x17.tr x22), ro22⟩, ?_⟩
 clear hR22 hF0 fF0 h5 rc0 rr16 ro22
 rintro n us i sd cp ro fl wt sa sb sc sdd wr ⟨k, F, T, ch, rfl, hk, hk25, rfl, rfl, rfl, rfl, rfl, hT, hR, hG, hI, hch, xw, fF, hrc, hrr, hro⟩
 have l1 := hrc.lt
 have l2 := hrr.lt
 have l3 := hro.lt
 have hok := hT.okt hI (by omega)
 refine Br.mk (fun hc => Br.mk (fun hc25 => ?_) (fun _ => ?_)) (fun _ => ?_)
 rotate_left
 ·
  have xd := Ext.dr wr
  have zd : wr.drew.heap.size = wr.heap.size := rfl
  refine (wTop_spec (hT.ext xd) own.1 own.2.2 okown.1 okown.2.2).mono ?_
  rintro e w109 ⟨rfl, x109⟩
  have z109 := x109.size
  have xa := xd.tr x109
  refine ⟨_, rfl, x109.heap (by omega), x109.heap (by omega), x109.heap (by omega), (hro.ext xa).loadL (o := 2) (fun j hj => by
   match j, hj with
   | 0, _ => rfl), (hro.ext xa).loadL (o := 0) (fun j hj => by
   match j, hj with
   | 0, _ => rfl), Lo.wv (hrr.ext xa), (rTop_spec (seed := sd) (cap := cp) (s4 := sdd) (hR.ext xa) hok hI.nod own.1 own.2.2 okown.1 okown.2.2).mono ?_⟩
  rintro e w111 ⟨rfl, x111⟩
  have z111 := x111.size
  have xb := xa.tr x111
  refine ⟨_, rfl, x111.heap (by omega), x111.heap (by omega), x111.heap (by omega), yes (by simp) ?_⟩
  have hW := hT.ext xb
  have ho := hW.hasO
  have hno : ∀ {j : Nat} {cs : List Value} {τ : TypeId}, Row wr j cs τ → offT τ → τ ≠ tWorld → τ ≠ tChg → j ≠ o := fun hr h1 h2 h3 q => hT.no_row hr h1 h2 h3 (q ▸ hT.hasO)
  refine (wTake_spec hW).mono ?_
  rintro e w113 ⟨sc', F', rfl, hO, hW', hsub, hmod⟩
  have z113 := hmod.size
  have kp : ∀ {j}, j ≠ o → j < w111.heap.size → w113.heap[j]? = w111.heap[j]? := fun h1 h2 => hmod.same _ h2 h1
  have g113 : RdK w113 sdd 4 (ch.map cgv) := ((hG.ext xb).same (P' := fun _ => True) fun i hp hi => ⟨hmod.same i hi fun q => hp.1 (q ▸ hT.hasO), trivial⟩).r
  have n1 := hno hrc row26 (by decide) (by decide)
  have n2 := hno hrr row92 (by decide) (by decide)
  have n3 := hno hro row26 (by decide) (by decide)
  have rr113 := (hrr.ext xb).same (kp n2 (by omega))
  refine ⟨sc', rfl, kp n1 (by omega), kp n2 (by omega), kp n3 (by omega), rr113.loadL (o := 8) (fun j hj => by
   match j, hj with
   | 0, _ => rfl), (changes_spec (hO.rd (by decide)) g113 (by omega)).mono ?_⟩
  rintro e w115 ⟨rfl, x115⟩
  have z115 := x115.size
  have x0115 : Ext w w115 := (hmod.ext (xw.tr xb) fun i hi => hi ▸ fF _ hT.hasO).tr x115
  refine ⟨true, rfl, x115.heap (by omega), x115.heap (by omega), x115.heap (by omega), yes rfl ?_⟩
  refine (wTake_spec (hW'.ext x115)).mono ?_
  rintro e w117 ⟨sc2, F2, rfl, hO2, hW2, hsub2, hmod2⟩
  have z117 := hmod2.size
  have kp2 : ∀ {j}, j ≠ o → j < w115.heap.size → w117.heap[j]? = w115.heap[j]? := fun h1 h2 => hmod2.same _ h2 h1
  have hn0 : sc2.n = 0 := by have := (hO2.rd (show 0 < 4 by decide)).n; simpa using this
  refine ⟨sc2, rfl, kp2 n1 (by omega), kp2 n2 (by omega), kp2 n3 (by omega), yes (by rw [hn0]; rfl) ?_⟩
  refine (lives13_spec w117).mono ?_
  rintro e w119 ⟨rfl, x119⟩
  exact ⟨true, rfl, x119.heap (by omega), x119.heap (by omega), x119.heap (by omega), rfl, (hmod2.ext x0115 fun i hi => hi ▸ fF _ hT.hasO).tr x119⟩
 ·
  have xd := Ext.dr wr
  have zd : wr.drew.heap.size = wr.heap.size := rfl
  refine (wTop_spec (hT.ext xd) own.1 own.2.2 okown.1 okown.2.2).mono ?_
  rintro e w109 ⟨rfl, x109⟩
  have z109 := x109.size
  have xa := xd.tr x109
  refine ⟨_, rfl, x109.heap (by omega), x109.heap (by omega), x109.heap (by omega), (hro.ext xa).loadL (o := 2) (fun j hj => by
   match j, hj with
   | 0, _ => rfl), (hro.ext xa).loadL (o := 0) (fun j hj => by
   match j, hj with
   | 0, _ => rfl), Lo.wv (hrr.ext xa), (rTop_spec (seed := sd) (cap := cp) (s4 := sdd) (hR.ext xa) hok hI.nod own.1 own.2.2 okown.1 okown.2.2).mono ?_⟩
  rintro e w111 ⟨rfl, x111⟩
  have z111 := x111.size
  have xb := xa.tr x111
  refine ⟨_, rfl, x111.heap (by omega), x111.heap (by omega), x111.heap (by omega), yes (by simp) ?_⟩
  have hW := hT.ext xb
  have ho := hW.hasO
  have hno : ∀ {j : Nat} {cs : List Value} {τ : TypeId}, Row wr j cs τ → offT τ → τ ≠ tWorld → τ ≠ tChg → j ≠ o := fun hr h1 h2 h3 q => hT.no_row hr h1 h2 h3 (q ▸ hT.hasO)
  refine (wTake_spec hW).mono ?_
  rintro e w113 ⟨sc', F', rfl, hO, hW', hsub, hmod⟩
  have z113 := hmod.size
  have kp : ∀ {j}, j ≠ o → j < w111.heap.size → w113.heap[j]? = w111.heap[j]? := fun h1 h2 => hmod.same _ h2 h1
  have g113 : RdK w113 sdd 4 (ch.map cgv) := ((hG.ext xb).same (P' := fun _ => True) fun i hp hi => ⟨hmod.same i hi fun q => hp.1 (q ▸ hT.hasO), trivial⟩).r
  have n1 := hno hrc row26 (by decide) (by decide)
  have n2 := hno hrr row92 (by decide) (by decide)
  have n3 := hno hro row26 (by decide) (by decide)
  have rr113 := (hrr.ext xb).same (kp n2 (by omega))
  refine ⟨sc', rfl, kp n1 (by omega), kp n2 (by omega), kp n3 (by omega), rr113.loadL (o := 8) (fun j hj => by
   match j, hj with
   | 0, _ => rfl), (changes_spec (hO.rd (by decide)) g113 (by omega)).mono ?_⟩
  rintro e w115 ⟨rfl, x115⟩
  have z115 := x115.size
  have x0115 : Ext w w115 := (hmod.ext (xw.tr xb) fun i hi => hi ▸ fF _ hT.hasO).tr x115
  refine ⟨true, rfl, x115.heap (by omega), x115.heap (by omega), x115.heap (by omega), yes rfl ?_⟩
  refine (wTake_spec (hW'.ext x115)).mono ?_
  rintro e w117 ⟨sc2, F2, rfl, hO2, hW2, hsub2, hmod2⟩
  have z117 := hmod2.size
  have kp2 : ∀ {j}, j ≠ o → j < w115.heap.size → w117.heap[j]? = w115.heap[j]? := fun h1 h2 => hmod2.same _ h2 h1
  have hn0 : sc2.n = 0 := by have := (hO2.rd (show 0 < 4 by decide)).n; simpa using this
  refine ⟨sc2, rfl, kp2 n1 (by omega), kp2 n2 (by omega), kp2 n3 (by omega), yes (by rw [hn0]; rfl) ?_⟩
  refine (lives13_spec w117).mono ?_
  rintro e w119 ⟨rfl, x119⟩
  exact ⟨true, rfl, x119.heap (by omega), x119.heap (by omega), x119.heap (by omega), rfl, (hmod2.ext x0115 fun i hi => hi ▸ fF _ hT.hasO).tr x119⟩
 simp only [decide_eq_true_eq] at hc hc25
 clear hok
 obtain ⟨d, hd0⟩ := get_lt (l := z) (i := k) (by omega)
 obtain ⟨hd1, hd⟩ := hz d (List.mem_of_getElem? hd0)
 obtain ⟨k0, bb, px, pz, c1, c2, c3, d1, d2, d3, rfl⟩ := ten hd1
 have hdr : (z.map fun r => r.map fun n => Value.int .i64 n)[k]? = some [.int .i64 k0, .int .i64 bb, .int .i64 px, .int .i64 pz, .int .i64 c1, .int .i64 c2, .int .i64 c3, .int .i64 d1, .int .i64 d2, .int .i64 d3] := by rw [List.getElem?_map, hd0]; rfl
 have wk : IntKind.wrap .i64 ((k : Int) + 1) = ((k + 1 : Nat) : Int) := by rw [wrap_in (by unfold inI; omega)]; omega
 have hN : ∀ {v : World}, w5.heap.size < v.heap.size → Fw (fun i => i ≠ w5.heap.size) v := fun h i hi => by omega
 have hin : InB s.a (k : Int) s.n := hs.inB (i := (k : Int)) (by decide) (by omega) hc
 have cellAt : ∀ {v : World}, Ext w v → InB s.a (k : Int) s.n ∧ (padd s.a (((k : Nat) : Int).toNat * 10)).isSome = true ∧ LoadL v (padd (padd s.a (((k : Nat) : Int).toNat * 10)) 4) 0 [.int .i64 c1, .int .i64 c2, .int .i64 c3] := fun x => by
  refine ⟨hin, by obtain ⟨a, ha⟩ := Option.isSome_iff_exists.1 hin.1; rw [ha]; rfl, LoadL_of fun q u hq => ?_⟩
  have hx := hs.ext x
  rw [Nat.zero_add, padd_padd, Int.toNat_natCast]
  match q, hq with
  | 0, hq => exact hx.at hdr (j := 4) hq
  | 1, hq => exact hx.at hdr (j := 5) hq
  | 2, hq => exact hx.at hdr (j := 6) hq
 have xdr := Ext.dr wr
 have zdr : wr.drew.heap.size = wr.heap.size := rfl
 have hdl : LoadL wr.drew (padd s.a (((k : Nat) : Int).toNat * 10)) 0 [.int .i64 k0, .int .i64 bb, .int .i64 px, .int .i64 pz, .int .i64 c1, .int .i64 c2, .int .i64 c3, .int .i64 d1, .int .i64 d2, .int .i64 d3] := (hs.ext (xw.tr xdr)).loadL hdr
 have after : ∀ {F' : Nat → Prop} {T' : Tb} {ch' : List Cg} {sa' sb' sc' sd' : Sl} {v v1 v2 : World}, WF F' v o t sd cp T' ch' → RT (Nf (fun i => i ≠ w5.heap.size) F') v T' sa' sb' sc' → RG (Nf (fun i => i ≠ w5.heap.size) F') v sd' ch' → Turned F F' wr v → Ext v v1 → v2 = v1.setRow w5.heap.size (wvL sd cp T'.1 sa' sb' sc' sd').toArray →
   WF F' v2 o t sd cp T' ch' ∧ RT (Nf (fun i => i ≠ w5.heap.size) F') v2 T' sa' sb' sc' ∧ RG (Nf (fun i => i ≠ w5.heap.size) F') v2 sd' ch' ∧ Ext w v2 ∧ (∀ i, F' i → w.heap.size ≤ i) ∧ Row v2 w.heap.size [.int .i64 c.1, .int .i64 c.2.1, .int .i64 c.2.2] 26 ∧ Row v2 w5.heap.size (wvL sd cp T'.1 sa' sb' sc' sd') 92 ∧ Row v2 w17.heap.size [.int .i64 own.1, .int .i64 own.2.1, .int .i64 own.2.2] 26 := by
  intro F' T' ch' sa' sb' sc' sd' v v1 v2 h1 h2 h3 ht x1 e2
  obtain ⟨x', f'⟩ := ht.fresh xw fF
  have q1 := (ht.mod.row hrc (hT.no_row hrc row26 (by decide) (by decide))).ext x1
  have q2 := (ht.mod.row hrr (hT.no_row hrr row92 (by decide) (by decide))).ext x1
  have q3 := (ht.mod.row hro (hT.no_row hro row26 (by decide) (by decide))).ext x1
  have hno : ¬ F' w5.heap.size := (h1.ext x1).no_row q2 row92 (by decide) (by decide)
  have n1 : w.heap.size ≠ w5.heap.size := by omega
  have n3 : w17.heap.size ≠ w5.heap.size := by omega
  refine ⟨(h1.ext x1).same fun i hi => by rw [e2, setRow_other _ _ _ _ (fun q => hno (by rw [← q]; exact hi))], (h2.ext x1).same fun i hp _ => ⟨by rw [e2, setRow_other _ _ _ _ hp.2], hp⟩, (h3.ext x1).same fun i hp _ => ⟨by rw [e2, setRow_other _ _ _ _ hp.2], hp⟩, (x'.tr x1).of_setRow e2 (by omega), f', q1.same (by rw [e2, setRow_other _ _ _ _ n1]), by rw [e2]; exact Row.set q2 _, q3.same (by rw [e2, setRow_other _ _ _ _ n3])⟩
 refine ⟨hin, k0, bb, px, pz, c1, c2, c3, d1, d2, d3, hdl, ?_, fun w74 e74 => ?_⟩
 ·refine (does13_spec (k := 2 * k) (hT.ext xdr) (hR.ext xdr) (hG.ext xdr) (hN (v := wr.drew) l2) hI (by omega) hch (by omega) hcap k0 bb px pz c1 c2 c3 d1 d2 d3 hd).mono ?_
  rintro e w39 ⟨F', T', ch', sa', sb', sc', sd', rfl, h1, h2, h3, ht, h4, h5⟩
  have ht' : Turned F F' wr w39 := (Turned.of_ext xdr).trans ht
  have kp : ∀ {j : Nat} {cs : List Value} {τ : TypeId}, Row wr j cs τ → offT τ → τ ≠ tWorld → τ ≠ tChg → w39.heap[j]? = wr.drew.heap[j]? := fun hr q1 q2 q3 => ht.mod.same _ hr.lt (hT.no_row hr q1 q2 q3)
  refine ⟨_, _, _, _, _, sa', sb', sc', sd', _, rfl, kp hrc row26 (by decide) (by decide), kp hrr row92 (by decide) (by decide), kp hro row26 (by decide) (by decide), fun w50 e50 w51 e51 v2 e52 => ?_⟩
  have x51 : Ext w39 w51 := ((Ext.rfl' _).of_alloc e50).of_setRow e51 (Nat.le_refl _)
  have z51 : w51.heap.size = w39.heap.size + 1 := by rw [e51, e50]; simp
  have z52 : v2.heap.size = w51.heap.size := by rw [e52]; simp
  clear e50 e51
  obtain ⟨hW, hT, hG, xv, fv, rc, rr, ro⟩ := after h1 h2 h3 ht' x51 e52
  clear e52
  have l4 := rc.lt
  have l5 := rr.lt
  have l6 := ro.lt
  have hok := hW.okt h4 (by omega)
  obtain ⟨k1, k2, k3⟩ := cellAt xv
  refine ⟨k1, nnP k2 ⟨_, _, _, k3, (rCell_spec (c1, c2, c3) ⟨hd c1 (by simp), hd c2 (by simp), hd c3 (by simp)⟩ v2).mono ?_⟩⟩
  rintro e w56 ⟨rfl, x56⟩
  have z56 := x56.size
  have okat := cellK_ok (c1, c2, c3)
  generalize cellK (c1, c2, c3) = ca at *
  refine ⟨_, _, _, rfl, x56.heap (by omega), x56.heap (by omega), x56.heap (by omega), x56.heap (by omega), fun w60 e60 w61 e61 => ?_⟩
  have x61 : Ext w56 w61 := ((Ext.rfl' _).of_alloc e60).of_setRow e61 (Nat.le_refl _)
  have z61 : w61.heap.size = w56.heap.size + 1 := by rw [e61, e60]; simp
  have rat : Row w61 w56.heap.size [.int .i64 ca.1, .int .i64 ca.2.1, .int .i64 ca.2.2] 26 := by rw [e61]; exact Row.set (by rw [e60]; exact Row.new w56 [_, _, _] _) _
  clear e60 e61
  have xd := Ext.dr w61
  have zd : w61.drew.heap.size = w61.heap.size := rfl
  have xa := x56.tr (x61.tr xd)
  refine nope rfl ?_
  refine callV_of (by kernel_rfl) rfl ((wfAt_spec (hW.ext xa) own okown).mono ?_)
  rintro e w62 ⟨rfl, x62⟩
  have z62 := x62.size
  have xb := xa.tr x62
  refine ⟨_, rfl, x62.heap (by omega), x62.heap (by omega), x62.heap (by omega), x62.heap (by omega), x62.heap (by omega), Lo.wv (ro.ext xb), Lo.tv (rr.ext xb), (rAt12_spec (seed := sd) (cap := cp) (hT.ext xb) hok own okown).mono ?_⟩
  rintro e w64 ⟨rfl, x64⟩
  have z64 := x64.size
  have xc := xb.tr x64
  refine ⟨_, rfl, x64.heap (by omega), x64.heap (by omega), x64.heap (by omega), x64.heap (by omega), x64.heap (by omega), nope (by simp) ?_⟩
  refine callV_of (by kernel_rfl) rfl ((wfAt_spec (hW.ext xc) ca okat).mono ?_)
  rintro e w66 ⟨rfl, x66⟩
  have z66 := x66.size
  have xe := xc.tr x66
  refine ⟨_, rfl, x66.heap (by omega), x66.heap (by omega), x66.heap (by omega), x66.heap (by omega), x66.heap (by omega), Lo.wv (rat.ext (xd.tr (x62.tr (x64.tr x66)))), Lo.tv (rr.ext xe), (rAt12_spec (seed := sd) (cap := cp) (hT.ext xe) hok ca okat).mono ?_⟩
  rintro e w68 ⟨rfl, x68⟩
  have z68 := x68.size
  have xf := xe.tr x68
  refine ⟨_, rfl, x68.heap (by omega), x68.heap (by omega), x68.heap (by omega), x68.heap (by omega), x68.heap (by omega), nope (by simp) ?_⟩
  refine (wReady_spec (hW.ext xf) own okown okpown).mono ?_
  rintro e w70 ⟨rfl, x70⟩
  have z70 := x70.size
  have xg := xf.tr x70
  refine ⟨_, rfl, x70.heap (by omega), x70.heap (by omega), x70.heap (by omega), x70.heap (by omega), x70.heap (by omega), Lo.wv (ro.ext xg), Lo.wv (rr.ext xg), (rReady_spec (seed := sd) (cap := cp) (s4 := sd') (hT.ext xg) hok.l own okown okpown).mono ?_⟩
  rintro e w72 ⟨rfl, x72⟩
  have z72 := x72.size
  have xh := xg.tr x72
  refine ⟨_, rfl, x72.heap (by omega), x72.heap (by omega), x72.heap (by omega), x72.heap (by omega), x72.heap (by omega), nope (by simp) ?_⟩
  exact ⟨n - 1, by omega, rfl, rfl, k + 1, F', T', ch', wk, by omega, by omega, rfl, rfl, rfl, rfl, rfl, hW.ext xh, hT.ext xh, hG.ext xh, h4.mono (by omega) (Nat.le_refl _), by omega, xv.tr xh, fv, rc.ext xh, rr.ext xh, ro.ext xh⟩
 ·have x74 : Ext wr w74 := xdr.of_alloc e74
  have z74 : w74.heap.size = wr.heap.size + 1 := by rw [e74]; simp
  have r74 : ∃ cs, Row w74 wr.drew.heap.size cs 92 := ⟨_, by rw [e74]; exact Row.new _ [_, _, _, _, _, _, _, _, _] _⟩
  clear e74
  obtain ⟨cs74, r74⟩ := r74
  have hR74 : RT (Nf (fun i => i ≠ w5.heap.size ∧ i ≠ wr.drew.heap.size) F) w74 T sa sb sc := hR.same fun i hp hi => ⟨x74.heap hi, hp.1, hp.2, by omega⟩
  have hG74 : RG (Nf (fun i => i ≠ w5.heap.size ∧ i ≠ wr.drew.heap.size) F) w74 sdd ch := hG.same fun i hp hi => ⟨x74.heap hi, hp.1, hp.2, by omega⟩
  refine (does13_spec (k := 2 * k) (hT.ext x74) hR74 hG74 (fun i hi => ⟨by omega, by omega⟩) hI (by omega) hch (by omega) hcap k0 bb px pz c1 c2 c3 d1 d2 d3 hd).mono ?_
  rintro e w75 ⟨F', T', ch', sa', sb', sc', sd', rfl, h1, h2, h3, ht, h4, h5⟩
  have ht' : Turned F F' wr w75 := (Turned.of_ext x74).trans ht
  have kp : ∀ {j : Nat} {cs : List Value} {τ : TypeId}, Row w74 j cs τ → offT τ → τ ≠ tWorld → τ ≠ tChg → w75.heap[j]? = w74.heap[j]? := fun hr q1 q2 q3 => ht.mod.same _ hr.lt ((hT.ext x74).no_row hr q1 q2 q3)
  have hnf : ¬ F wr.drew.heap.size := (hT.ext x74).no_row r74 row92 (by decide) (by decide)
  have r75 := ht.mod.row r74 hnf
  have hnf' : ¬ F' wr.drew.heap.size := h1.no_row r75 row92 (by decide) (by decide)
  have z75 := ht.mod.size
  refine ⟨_, _, _, _, _, sa', sb', sc', sd', _, rfl, kp (hrc.ext x74) row26 (by decide) (by decide), kp (hrr.ext x74) row92 (by decide) (by decide), kp (hro.ext x74) row26 (by decide) (by decide), kp r74 row92 (by decide) (by decide), fun w86 e86 v2 e87 => ?_⟩
  have z86 : w86.heap.size = w75.heap.size := by rw [e86]; simp
  have h86 : WF F' w86 o t sd cp T' ch' := h1.same fun i hi => by rw [e86, setRow_other _ _ _ _ (fun q => hnf' (by rw [← q]; exact hi))]
  have hR86 : RT (Nf (fun i => i ≠ w5.heap.size) F') w86 T' sa' sb' sc' := h2.same fun i hp _ => ⟨by rw [e86, setRow_other _ _ _ _ hp.2.2], hp.1, hp.2.1⟩
  have hG86 : RG (Nf (fun i => i ≠ w5.heap.size) F') w86 sd' ch' := h3.same fun i hp _ => ⟨by rw [e86, setRow_other _ _ _ _ hp.2.2], hp.1, hp.2.1⟩
  have ht86 : Turned F F' wr w86 := ⟨⟨by rw [e86]; exact ht'.mod.os, by rw [e86]; exact ht'.mod.tape, by rw [e86]; exact ht'.mod.output, by rw [z86]; exact ht'.mod.size, fun i hi hn => by rw [e86, setRow_other _ _ _ _ (by omega)]; exact ht'.mod.same i hi hn⟩, ht'.sub⟩
  have z52 : v2.heap.size = w86.heap.size := by rw [e87]; simp
  clear e86
  obtain ⟨hW, hT, hG, xv, fv, rc, rr, ro⟩ := after h86 hR86 hG86 ht86 (Ext.rfl' _) e87
  clear e87
  have l4 := rc.lt
  have l5 := rr.lt
  have l6 := ro.lt
  have hok := hW.okt h4 (by omega)
  obtain ⟨k1, k2, k3⟩ := cellAt xv
  refine ⟨k1, nnP k2 ⟨_, _, _, k3, (rCell_spec (c1, c2, c3) ⟨hd c1 (by simp), hd c2 (by simp), hd c3 (by simp)⟩ v2).mono ?_⟩⟩
  rintro e w56 ⟨rfl, x56⟩
  have z56 := x56.size
  have okat := cellK_ok (c1, c2, c3)
  generalize cellK (c1, c2, c3) = ca at *
  refine ⟨_, _, _, rfl, x56.heap (by omega), x56.heap (by omega), x56.heap (by omega), x56.heap (by omega), fun w60 e60 w61 e61 => ?_⟩
  have x61 : Ext w56 w61 := ((Ext.rfl' _).of_alloc e60).of_setRow e61 (Nat.le_refl _)
  have z61 : w61.heap.size = w56.heap.size + 1 := by rw [e61, e60]; simp
  have rat : Row w61 w56.heap.size [.int .i64 ca.1, .int .i64 ca.2.1, .int .i64 ca.2.2] 26 := by rw [e61]; exact Row.set (by rw [e60]; exact Row.new w56 [_, _, _] _) _
  clear e60 e61
  have xd := Ext.dr w61
  have zd : w61.drew.heap.size = w61.heap.size := rfl
  have xa := x56.tr (x61.tr xd)
  refine nope rfl ?_
  refine callV_of (by kernel_rfl) rfl ((wfAt_spec (hW.ext xa) own okown).mono ?_)
  rintro e w62 ⟨rfl, x62⟩
  have z62 := x62.size
  have xb := xa.tr x62
  refine ⟨_, rfl, x62.heap (by omega), x62.heap (by omega), x62.heap (by omega), x62.heap (by omega), x62.heap (by omega), Lo.wv (ro.ext xb), Lo.tv (rr.ext xb), (rAt12_spec (seed := sd) (cap := cp) (hT.ext xb) hok own okown).mono ?_⟩
  rintro e w64 ⟨rfl, x64⟩
  have z64 := x64.size
  have xc := xb.tr x64
  refine ⟨_, rfl, x64.heap (by omega), x64.heap (by omega), x64.heap (by omega), x64.heap (by omega), x64.heap (by omega), nope (by simp) ?_⟩
  refine callV_of (by kernel_rfl) rfl ((wfAt_spec (hW.ext xc) ca okat).mono ?_)
  rintro e w66 ⟨rfl, x66⟩
  have z66 := x66.size
  have xe := xc.tr x66
  refine ⟨_, rfl, x66.heap (by omega), x66.heap (by omega), x66.heap (by omega), x66.heap (by omega), x66.heap (by omega), Lo.wv (rat.ext (xd.tr (x62.tr (x64.tr x66)))), Lo.tv (rr.ext xe), (rAt12_spec (seed := sd) (cap := cp) (hT.ext xe) hok ca okat).mono ?_⟩
  rintro e w68 ⟨rfl, x68⟩
  have z68 := x68.size
  have xf := xe.tr x68
  refine ⟨_, rfl, x68.heap (by omega), x68.heap (by omega), x68.heap (by omega), x68.heap (by omega), x68.heap (by omega), nope (by simp) ?_⟩
  refine (wReady_spec (hW.ext xf) own okown okpown).mono ?_
  rintro e w70 ⟨rfl, x70⟩
  have z70 := x70.size
  have xg := xf.tr x70
  refine ⟨_, rfl, x70.heap (by omega), x70.heap (by omega), x70.heap (by omega), x70.heap (by omega), x70.heap (by omega), Lo.wv (ro.ext xg), Lo.wv (rr.ext xg), (rReady_spec (seed := sd) (cap := cp) (s4 := sd') (hT.ext xg) hok.l own okown okpown).mono ?_⟩
  rintro e w72 ⟨rfl, x72⟩
  have z72 := x72.size
  have xh := xg.tr x72
  refine ⟨_, rfl, x72.heap (by omega), x72.heap (by omega), x72.heap (by omega), x72.heap (by omega), x72.heap (by omega), nope (by simp) ?_⟩
  exact ⟨n - 1, by omega, rfl, rfl, k + 1, F', T', ch', wk, by omega, by omega, rfl, rfl, rfl, rfl, rfl, hW.ext xh, hT.ext xh, hG.ext xh, h4.mono (by omega) (Nat.le_refl _), by omega, xv.tr xh, fv, rc.ext xh, rr.ext xh, ro.ext xh⟩
end Go.Proofs.YtbnmglonbhdcbaaGreatDoor
