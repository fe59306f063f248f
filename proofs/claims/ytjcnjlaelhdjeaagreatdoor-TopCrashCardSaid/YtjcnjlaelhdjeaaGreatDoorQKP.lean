import Derived.Test.YtjcnjlaelhdjeaaGreatDoorN
set_option linter.all false
namespace Go.Proofs.YtjcnjlaelhdjeaaGreatDoor
open Go Go.Vc Go.RowKit Go.Proofs Go.Lin Go.Chk Go.Runs Go.Code Go.Que Go.Flw Go.Eng
set_option linter.unusedVariables false
set_option maxHeartbeats 4000000 in
set_option maxRecDepth 100000 in
theorem TopCrash_law {w : World} {m : Int} (hm : w.cell? ⟨0, 0, none⟩ = some (.int .i64 m)) (hTab : Tab10 w) (seed : Int) (a b : Ce) (v0 v1 v2 fails keep : Int) (hs : inI seed) (ha : okC a) (hb : okC b) (h0 : inI v0) (h1 : inI v1) (h2 : inI v2) (hf : inI fails) (hkp : inI keep) :
  Cal 3 #[seed, cev a, cev b, .agg #[v0, v1, v2], fails, keep] w fun e w' => e = true ∧ Ext w w' := by
 apply top_TopCrash.vc
 intro w0 e0 w1 e1 w2 e2
 have x0 : Ext w w0 := by rw [e0]; exact Ext.al _ _
 have x1 : Ext w0 w1 := by rw [e1]; exact Ext.al _ _
 have x2 : Ext w1 w2 := by rw [e2]; exact Ext.al _ _
 have ra : Row w2 w (clv a) 23 := ((by rw [e0]; exact Row.new _ [_, _, _] _ : Row w0 w (clv a) 23).ext x1).ext x2
 have rb : Row w2 w0 (clv b) 23 := (by rw [e1]; exact Row.new _ [_, _, _] _ : Row w1 w0 (clv b) 23).ext x2
 have rv : Row w2 w1 [v0, v1, v2] 24 := Row.nw e2
 have xw2 : Ext w w2 := (x0.tr x1).tr x2
 have T2 : Tab10 w2 := tab_ext hTab xw2
 have M2 : w2.cell? ⟨0, 0, none⟩ = some (.int .i64 m) := by
  have : Vc.ld w (some ⟨0, 0, none⟩) = some (.int .i64 m) := hm
  exact xw2.ld this
 have kb := around_bd keep 9999 dcc
 have fb := around_bd fails 5 dcc
 have ob := around_bd seed 1000 dcc
 refine (begin_spec seed hs [(w.heap.size, clv a, 23), (w0.heap.size, clv b, 23), (w1.heap.size, [v0, v1, v2], 24)] w2 (fun r hr => by
  simp only [ali16, ali36, or_false] at hr
  rcases hr with rfl | rfl | rfl
  ·exact ra
  ·exact rb
  ·exact rv)).mono ?_
 rintro _ w3 ⟨sh, rfl, N, kp⟩
 refine ⟨_, rfl, ?_⟩
 repeat (refine ⟨kp _ smm, ?_⟩)
 refine nope rfl ?_
 have hown : ∃ own, around seed 1000 = own := ⟨_, rfl⟩
 obtain ⟨own, hown⟩ := hown
 rw [hown] at N ob
 have hca := around_bd a.1 10 dcc
 have hcb := around_bd a.2.1 14 dcc
 have hcc := around_bd a.2.2 10 dcc
 have hda := around_bd b.1 10 dcc
 have hdb := around_bd b.2.1 14 dcc
 have hdc := around_bd b.2.2 10 dcc
 refine (N.call (rCell21_spec a ha w3)).mono ?_
 rintro _ w5 ⟨rfl, N, kp⟩
 refine ⟨_, _, _, rfl, ?_⟩
 repeat (refine ⟨kp _ smm, ?_⟩)
 have cx : Cok (3 + around a.1 10, 6 + around a.2.1 14, 3 + around a.2.2 10) := ⟨by simp only; omega, by simp only; omega, by simp only; omega⟩
 have cy : Cok (3 + around b.1 10, 6 + around b.2.1 14, 3 + around b.2.2 10) := ⟨by simp only; omega, by simp only; omega, by simp only; omega⟩
 intro w9 e9 w10 e10
 have x9 : Ext w5 w9 := by rw [e9]; exact Ext.al _ _
 have r9 : Row w9 w5 [vzz, vzz, vzz] 23 := Row.nw e9
 have x10 : Ext w5 w10 := x9.of_setRow e10 (ali34 _)
 have r10 : Row w10 w5 (clv (3 + around a.1 10, 6 + around a.2.1 14, 3 + around a.2.2 10)) 23 := by rw [e10]; exact r9.set [_, _, _]
 have N := N.add x10 (ali34 _) r10
 refine (N.call (rCell21_spec b hb w10)).mono ?_
 rintro _ w11 ⟨rfl, N, kp⟩
 refine ⟨_, _, _, rfl, ?_⟩
 repeat (refine ⟨kp _ smm, ?_⟩)
 intro w15 e15 w16 e16
 have x15 : Ext w11 w15 := by rw [e15]; exact Ext.al _ _
 have r15 : Row w15 w11 [vzz, vzz, vzz] 23 := Row.nw e15
 have x16 : Ext w11 w16 := x15.of_setRow e16 (ali34 _)
 have r16 : Row w16 w11 (clv (3 + around b.1 10, 6 + around b.2.1 14, 3 + around b.2.2 10)) 23 := by rw [e16]; exact r15.set [_, _, _]
 have N := N.add x16 (ali34 _) r16
 show Cal 12 #[seed, (1000:Int)] w16 _
 obtain ⟨x, hx⟩ : ∃ x : Ce, (3 + around a.1 10, 6 + around a.2.1 14, 3 + around a.2.2 10) = x := ⟨_, rfl⟩
 obtain ⟨y, hy⟩ : ∃ y : Ce, (3 + around b.1 10, 6 + around b.2.1 14, 3 + around b.2.2 10) = y := ⟨_, rfl⟩
 rw [hx] at cx N
 rw [hy] at cy N
 have ex1 : 3 + around a.1 10 = x.1 := congrArg (fun c : Ce => c.1) hx
 have ex2 : 6 + around a.2.1 14 = x.2.1 := congrArg (fun c : Ce => c.2.1) hx
 have ex3 : 3 + around a.2.2 10 = x.2.2 := congrArg (fun c : Ce => c.2.2) hx
 have ey1 : 3 + around b.1 10 = y.1 := congrArg (fun c : Ce => c.1) hy
 have ey2 : 6 + around b.2.1 14 = y.2.1 := congrArg (fun c : Ce => c.2.1) hy
 have ey3 : 3 + around b.2.2 10 = y.2.2 := congrArg (fun c : Ce => c.2.2) hy
 rw [ex1, ex2, ex3, ey1, ey2, ey3]
 have yx : inY x := cx.y
 have yy : inY y := cy.y
 have px := cx.pos
 have py := cy.pos
 have wfx : ∀ u, Cal 15 #[cev x] u fun e w' => e = Value.string (cellS x) ∧ Ext u w' := fun u => topCell_spec ⟨cx.x.1, by have := cx.x; omega⟩ cx.y ⟨cx.z.1, by have := cx.z; omega⟩ u
 have wfy : ∀ u, Cal 15 #[cev y] u fun e w' => e = Value.string (cellS y) ∧ Ext u w' := fun u => topCell_spec ⟨cy.x.1, by have := cy.x; omega⟩ cy.y ⟨cy.z.1, by have := cy.z; omega⟩ u
 have szx := cellS_size cx
 have szy := cellS_size cy
 have s3 : (ByteArray.mk #[97, 116, 32]).size = 3 := rfl
 have s5 : (ByteArray.mk #[101, 100, 105, 116, 32]).size = 5 := rfl
 have s1 : (ByteArray.mk #[32]).size = 1 := rfl
 have s6 : (ByteArray.mk #[99, 114, 97, 115, 104, 32]).size = 6 := rfl
 have sf : (ByteArray.mk #[102, 97, 105, 108, 32]).size = 5 := rfl
 obtain ⟨g00, g01, g0m⟩ := bGood_bd v0
 obtain ⟨g10, g11, g1m⟩ := bGood_bd v1
 obtain ⟨g20, g21, g2m⟩ := bGood_bd v2
 have sb0 := (name_all ⟨g00, g01⟩ g0m).2
 have sb1 := (name_all ⟨g10, g11⟩ g1m).2
 have sb2 := (name_all ⟨g20, g21⟩ g2m).2
 have sk := decW_size (n := around keep 9999) omm
 refine (N.call0 (around_spec seed 1000 w16 hs dcc (by unfold inI; omega))).mono ?_
 rintro _ w17 ⟨rfl, N, kp⟩
 refine ⟨_, rfl, ?_⟩
 repeat (refine ⟨kp _ smm, ?_⟩)
 rw [hown]
 refine (N.call0 (around_spec keep 9999 w17 hkp dcc (by unfold inI; omega))).mono ?_
 rintro _ w19 ⟨rfl, N, kp⟩
 refine ⟨_, rfl, ?_⟩
 repeat (refine ⟨kp _ smm, ?_⟩)
 refine (N.call (decW_spec (n := around keep 9999) omm w19)).mono ?_
 rintro _ w21 ⟨rfl, N, kp⟩
 refine ⟨_, rfl, ?_⟩
 repeat (refine ⟨kp _ smm, ?_⟩)
 have rv : Row _ w1 [v0, v1, v2] 24 := N.2 (w1.heap.size, [v0, v1, v2], 24) smm
 refine ⟨le_max (by first | omega | (simp only [ByteArray.size_append]; omega)), by decide, by decide, v0, by rw [padd_row, (rv.ext (Ext.dr _)).ld]; rfl, ?_⟩
 have N := (N.ext (Ext.dr w21)).1
 refine (N.call (wfx _)).mono ?_
 rintro _ w24 ⟨rfl, N, kp⟩
 refine ⟨_, rfl, ?_⟩
 repeat (refine ⟨kp _ smm, ?_⟩)
 have rv : Row _ w1 [v0, v1, v2] 24 := N.2 (w1.heap.size, [v0, v1, v2], 24) smm
 refine ⟨rv.loadL (fun j hj => by simp at hj; subst hj; rfl), le_max (by first | omega | (simp only [ByteArray.size_append]; omega)), le_max (by first | omega | (simp only [ByteArray.size_append]; omega)), ?_⟩
 refine (N.call0 (ref04_Good_spec v0 w24 h0)).mono ?_
 rintro _ w26 ⟨rfl, N, kp⟩
 refine ⟨_, rfl, ?_⟩
 repeat (refine ⟨kp _ smm, ?_⟩)
 refine (N.call (ref04_Name_spec (bGood v0) w26 (by unfold inI; omega))).mono ?_
 rintro _ w28 ⟨rfl, N, kp⟩
 refine ⟨_, rfl, ?_⟩
 repeat (refine ⟨kp _ smm, ?_⟩)
 have hn5 := five_ok own
 have hse := set_here hn5.1 hn5.2 (c := x) ⟨pE own (0, 0), by simp, px.symm⟩ yx g0m
 refine ⟨le_max (by first | omega | (simp only [ByteArray.size_append]; omega)), ?_⟩
 refine (NR_editc N dcc cx ⟨g00, g01⟩ g0m (l' := (setE _ x (bGood v0)).1) (Prod.ext rfl hse.1)).mono ?_
 rintro _ w30 ⟨rfl, N, kp⟩
 refine ⟨_, rfl, ?_⟩
 repeat (refine ⟨kp _ smm, ?_⟩)
 have hcr0 : (crashD (dk0 200000) (around keep 9999)).1 = dk0 200000 := by rw [crash_nil rfl]; rfl
 have hcl0 : Cln (dk0 200000) := ⟨rfl, rfl, rfl⟩
 refine (NR_crashc N T2 (n := around keep 9999) omm (alj66 _) (alj66 _) (by show (Go.Chk.ldS (crashD (dk0 200000) (around keep 9999)).1 0).2.2 = false; rw [hcr0]; rfl) (crash_in (D := dk0 200000) (K := []) (m := 0) (fun z hz => (by cases hz)) (alj66 _) (alj66 _) _).2).mono ?_
 rintro _ w32 ⟨rfl, N, kp⟩
 refine ⟨_, rfl, ?_⟩
 repeat (refine ⟨kp _ smm, ?_⟩)
 rw [show (crashD (dk0 200000) (around keep 9999)).1 = dk0 200000 from hcr0] at N
 have hl0 : ldE own 9 (dk0 200000) [] (0, 0) = ((dk0 200000, onP (0, 0) (made own (0, 0)) false), 0) := ld_new own 9 200000 (l := []) dcc dcc smm
 refine (NR_load N (alj66 _) line1 dcc words1 pos0 hl0).mono ?_
 rintro _ w34 ⟨rfl, N, kp⟩
 refine ⟨_, rfl, ?_⟩
 repeat (refine ⟨kp _ smm, ?_⟩)
 have hm0 := made_len own (0, 0)
 have hmm := made_may own (0, 0)
 have hat0 := at_made own yx px
 generalize made own (0, 0) = C0 at *
 have N := (N.ext (Ext.dr w34)).1
 refine (N.call (wfx _)).mono ?_
 rintro _ w36 ⟨rfl, N, kp⟩
 refine ⟨_, rfl, ?_⟩
 repeat (refine ⟨kp _ smm, ?_⟩)
 have rr : Row _ w5 (clv x) 23 := N.2 (w5.heap.size, clv x, 23) smm
 refine ⟨rr.loadL (fun j hj => by rw [ali37]), ?_⟩
 refine ⟨le_max (by first | omega | (simp only [ByteArray.size_append]; omega)), ?_⟩
 refine (NR_atc N cx).mono ?_
 rintro _ w38 ⟨rfl, N, kp⟩
 refine ⟨_, rfl, ?_⟩
 repeat (refine ⟨kp _ smm, ?_⟩)
 rw [show atE (onP (0, 0) C0 false) x = kAt (0, 0) C0 x from atP px yx]
 have rr : Row _ w5 (clv x) 23 := N.2 (w5.heap.size, clv x, 23) smm
 refine ⟨rr.loadL (fun j hj => by rw [ali37]), ?_⟩
 show Cal 18 #[.int .i64 own, cev x] w38 _
 refine (N.call (rBlock_spec own x cx.ok w38)).mono ?_
 rintro _ w40 ⟨rfl, N, kp⟩
 refine ⟨_, rfl, ?_⟩
 repeat (refine ⟨kp _ smm, ?_⟩)
 refine (N.call (ref04_Name_spec (ofG x.2.1 (ground own x.1 x.2.2)) w40 (by have := ofG_in x.2.1 (ground own x.1 x.2.2); unfold inI; omega))).mono ?_
 rintro _ w42 ⟨rfl, N, kp⟩
 refine ⟨_, rfl, ?_⟩
 repeat (refine ⟨kp _ smm, ?_⟩)
 refine nope (str_yes (by rw [hat0, cellT_pos (ofG_in _ _).1])) ?_
 have rv : Row _ w1 [v0, v1, v2] 24 := N.2 (w1.heap.size, [v0, v1, v2], 24) smm
 refine ⟨by decide, by decide, v0, by rw [padd_row, (rv.ext (Ext.dr _)).ld]; rfl, ?_⟩
 have N := (N.ext (Ext.dr w42)).1
 refine (N.call (wfx _)).mono ?_
 rintro _ w45 ⟨rfl, N, kp⟩
 refine ⟨_, rfl, ?_⟩
 repeat (refine ⟨kp _ smm, ?_⟩)
 have rv : Row _ w1 [v0, v1, v2] 24 := N.2 (w1.heap.size, [v0, v1, v2], 24) smm
 refine ⟨rv.loadL (fun j hj => by simp at hj; subst hj; rfl), le_max (by first | omega | (simp only [ByteArray.size_append]; omega)), le_max (by first | omega | (simp only [ByteArray.size_append]; omega)), ?_⟩
 refine (N.call0 (ref04_Good_spec v0 w45 h0)).mono ?_
 rintro _ w47 ⟨rfl, N, kp⟩
 refine ⟨_, rfl, ?_⟩
 repeat (refine ⟨kp _ smm, ?_⟩)
 refine (N.call (ref04_Name_spec (bGood v0) w47 (by unfold inI; omega))).mono ?_
 rintro _ w49 ⟨rfl, N, kp⟩
 refine ⟨_, rfl, ?_⟩
 repeat (refine ⟨kp _ smm, ?_⟩)
 refine ⟨le_max (by first | omega | (simp only [ByteArray.size_append]; omega)), ?_⟩
 refine (NR_editc N dcc cx ⟨g00, g01⟩ g0m (setP px yx g0m)).mono ?_
 rintro _ w51 ⟨rfl, N, kp⟩
 refine ⟨_, rfl, ?_⟩
 repeat (refine ⟨kp _ smm, ?_⟩)
 obtain ⟨c1l, c1m⟩ := kSet_ok (p := (0, 0)) hm0 hmm x (bGood v0)
 have hsf : Sfe (KP (0, 0)) 16393 0 (dk0 200000) := Sfe.new (by show ((2 * 16393 : Nat) : Int) ≤ _; decide)
 have hcl1 : (false || (kAt (0, 0) C0 x != bGood v0)) = false → (kSet (0, 0) C0 x (bGood v0)).1 = cellsB own (0, 0) (Go.Chk.ldS (dk0 200000) (idK (0, 0))).1 := fun q => by
  have e1 : ldE own 9 (dk0 200000) [] (0, 0) = _ := ldP in00
  rw [hl0] at e1
  have e2 : C0 = cellsB own (0, 0) (Go.Chk.ldS (dk0 200000) (idK (0, 0))).1 := by injection e1 with e1; injection e1 with _ e1; injection e1 with e1; injection e1 with _ e1; injection e1
  rw [← e2]
  exact kSet_same hm0 px.symm yx (by simpa using q)
 generalize (kSet (0, 0) C0 x (bGood v0)).1 = C1 at *
 generalize (false || (kAt (0, 0) C0 x != bGood v0)) = d1 at *
 have hg1 : goodL (onP (0, 0) C1 d1) := fun e he => by rw [alj46.1 he]; exact ⟨c1l, c1m⟩
 obtain ⟨f1, f2, f3, -⟩ := (tru_one in00 hsf hg1 hcl1).save dcc (i := 0) (e := ((0, 0), C1, d1, 0)) rfl
 have f1 : (saveE (dk0 200000) ((0, 0), C1, d1, 0)).2.2 = 0 := f1
 have f2 : (saveE (dk0 200000) ((0, 0), C1, d1, 0)).2.1 = ((0, 0), C1, false, 0) := f2
 have f3 : Tru own (KP (0, 0)) 1 (fun q => q = (0, 0)) ((saveE (dk0 200000) ((0, 0), C1, d1, 0)).1, [(saveE (dk0 200000) ((0, 0), C1, d1, 0)).2.1]) := f3
 rw [f2] at f3
 have hfl : flE (dk0 200000) (onP (0, 0) C1 d1) (0, 0) = (((saveE (dk0 200000) ((0, 0), C1, d1, 0)).1, onP (0, 0) C1 false), 0) := by rw [flP, f1, f2]
 generalize (saveE (dk0 200000) ((0, 0), C1, d1, 0)).1 = D1 at *
 have hS1 : Sfe (KP (0, 0)) 16393 1 D1 := f3.s
 have hM1 : C1 = cellsB own (0, 0) (Go.Chk.ldS D1 (idK (0, 0))).1 := f3.cl _ (.head _) rfl
 refine (NR_flush N (alj66 _) flush0 dcc words_flush pos0 hfl ⟨by decide, by decide⟩).mono ?_
 rintro _ w53 ⟨rfl, N, kp⟩
 refine ⟨_, rfl, ?_⟩
 repeat (refine ⟨kp _ smm, ?_⟩)
 refine nope (str_yes (by decide +kernel)) ?_
 have N := (N.ext (Ext.dr w53)).1
 refine (N.call (wfx _)).mono ?_
 rintro _ w55 ⟨rfl, N, kp⟩
 refine ⟨_, rfl, ?_⟩
 repeat (refine ⟨kp _ smm, ?_⟩)
 have rr : Row _ w11 (clv y) 23 := N.2 (w11.heap.size, clv y, 23) smm
 refine ⟨rr.loadL (fun j hj => by rw [ali37]), ?_⟩
 refine ⟨le_max (by first | omega | (simp only [ByteArray.size_append]; omega)), ?_⟩
 refine (NR_atc N cx).mono ?_
 rintro _ w57 ⟨rfl, N, kp⟩
 refine ⟨_, rfl, ?_⟩
 repeat (refine ⟨kp _ smm, ?_⟩)
 rw [show atE (onP (0, 0) C1 false) x = kAt (0, 0) C1 x from atP px yx]
 have rr : Row _ w11 (clv y) 23 := N.2 (w11.heap.size, clv y, 23) smm
 refine ⟨rr.loadL (fun j hj => by rw [ali37]), ?_⟩
 refine (N.call (wfy _)).mono ?_
 rintro _ w59 ⟨rfl, N, kp⟩
 refine ⟨_, rfl, ?_⟩
 repeat (refine ⟨kp _ smm, ?_⟩)
 refine ⟨le_max (by first | omega | (simp only [ByteArray.size_append]; omega)), ?_⟩
 refine (NR_atc N cy).mono ?_
 rintro _ w61 ⟨rfl, N, kp⟩
 refine ⟨_, rfl, ?_⟩
 repeat (refine ⟨kp _ smm, ?_⟩)
 rw [show atE (onP (0, 0) C1 false) y = kAt (0, 0) C1 y from atP py yy]
 intro w63 ee
 have xe : Ext w61 w63 := by rw [ee]; exact Ext.al _ _
 have N := N.add xe (ali34 _) (by rw [ee]; exact Row.new _ [.string (cellT (kAt (0, 0) C1 x)), .string (cellT (kAt (0, 0) C1 y))] _ : Row w63 w61 [.string (cellT (kAt (0, 0) C1 x)), .string (cellT (kAt (0, 0) C1 y))] 9)
 have rv : Row _ w1 [v0, v1, v2] 24 := N.2 (w1.heap.size, [v0, v1, v2], 24) smm
 refine ⟨by decide, by decide, v1, by rw [padd_row, (rv.ext (Ext.dr _)).ld]; rfl, ?_⟩
 have N := (N.ext (Ext.dr w63)).1
 refine (N.call (wfx _)).mono ?_
 rintro _ w65 ⟨rfl, N, kp⟩
 refine ⟨_, rfl, ?_⟩
 repeat (refine ⟨kp _ smm, ?_⟩)
 have rv : Row _ w1 [v0, v1, v2] 24 := N.2 (w1.heap.size, [v0, v1, v2], 24) smm
 refine ⟨rv.loadL (fun j hj => by simp at hj; subst hj; rfl), le_max (by first | omega | (simp only [ByteArray.size_append]; omega)), le_max (by first | omega | (simp only [ByteArray.size_append]; omega)), ?_⟩
 refine (N.call0 (ref04_Good_spec v1 w65 h1)).mono ?_
 rintro _ w67 ⟨rfl, N, kp⟩
 refine ⟨_, rfl, ?_⟩
 repeat (refine ⟨kp _ smm, ?_⟩)
 refine (N.call (ref04_Name_spec (bGood v1) w67 (by unfold inI; omega))).mono ?_
 rintro _ w69 ⟨rfl, N, kp⟩
 refine ⟨_, rfl, ?_⟩
 repeat (refine ⟨kp _ smm, ?_⟩)
 refine ⟨le_max (by first | omega | (simp only [ByteArray.size_append]; omega)), ?_⟩
 refine (NR_editc N dcc cx ⟨g10, g11⟩ g1m (setP px yx g1m)).mono ?_
 rintro _ w71 ⟨rfl, N, kp⟩
 refine ⟨_, rfl, ?_⟩
 repeat (refine ⟨kp _ smm, ?_⟩)
 obtain ⟨c2l, c2m⟩ := kSet_ok (p := (0, 0)) c1l c1m x (bGood v1)
 have hd1 : (false || (kAt (0, 0) C1 x != bGood v1)) = false → (kSet (0, 0) C1 x (bGood v1)).1 = C1 := fun q => kSet_same c1l px.symm yx (by simpa using q)
 generalize (kSet (0, 0) C1 x (bGood v1)).1 = Cm at *
 generalize (false || (kAt (0, 0) C1 x != bGood v1)) = dm at *
 have rv : Row _ w1 [v0, v1, v2] 24 := N.2 (w1.heap.size, [v0, v1, v2], 24) smm
 refine ⟨by decide, by decide, v2, by rw [padd_row, (rv.ext (Ext.dr _)).ld]; rfl, ?_⟩
 have N := (N.ext (Ext.dr w71)).1
 refine (N.call (wfy _)).mono ?_
 rintro _ w74 ⟨rfl, N, kp⟩
 refine ⟨_, rfl, ?_⟩
 repeat (refine ⟨kp _ smm, ?_⟩)
 have rv : Row _ w1 [v0, v1, v2] 24 := N.2 (w1.heap.size, [v0, v1, v2], 24) smm
 refine ⟨rv.loadL (fun j hj => by simp at hj; subst hj; rfl), le_max (by first | omega | (simp only [ByteArray.size_append]; omega)), le_max (by first | omega | (simp only [ByteArray.size_append]; omega)), ?_⟩
 refine (N.call0 (ref04_Good_spec v2 w74 h2)).mono ?_
 rintro _ w76 ⟨rfl, N, kp⟩
 refine ⟨_, rfl, ?_⟩
 repeat (refine ⟨kp _ smm, ?_⟩)
 refine (N.call (ref04_Name_spec (bGood v2) w76 (by unfold inI; omega))).mono ?_
 rintro _ w78 ⟨rfl, N, kp⟩
 refine ⟨_, rfl, ?_⟩
 repeat (refine ⟨kp _ smm, ?_⟩)
 refine ⟨le_max (by first | omega | (simp only [ByteArray.size_append]; omega)), ?_⟩
 refine (NR_editc N dcc cy ⟨g20, g21⟩ g2m (setP py yy g2m)).mono ?_
 rintro _ w80 ⟨rfl, N, kp⟩
 refine ⟨_, rfl, ?_⟩
 repeat (refine ⟨kp _ smm, ?_⟩)
 obtain ⟨c3l, c3m⟩ := kSet_ok (p := (0, 0)) c2l c2m y (bGood v2)
 have hd2 : (dm || (kAt (0, 0) Cm y != bGood v2)) = false → (kSet (0, 0) Cm y (bGood v2)).1 = C1 := fun q => by
  have q := Bool.or_eq_false_iff.1 q
  have e := hd1 q.1
  have e2 : (kSet (0, 0) Cm y (bGood v2)).1 = Cm := kSet_same c2l py.symm yy (by simpa using q.2)
  rw [e2, e]
 generalize (kSet (0, 0) Cm y (bGood v2)).1 = C2 at *
 generalize (dm || (kAt (0, 0) Cm y != bGood v2)) = d2 at *
 have N := (N.ext (Ext.dr w80)).1
 refine (N.call (wfx _)).mono ?_
 rintro _ w82 ⟨rfl, N, kp⟩
 refine ⟨_, rfl, ?_⟩
 repeat (refine ⟨kp _ smm, ?_⟩)
 have rr : Row _ w11 (clv y) 23 := N.2 (w11.heap.size, clv y, 23) smm
 refine ⟨rr.loadL (fun j hj => by rw [ali37]), ?_⟩
 refine ⟨le_max (by first | omega | (simp only [ByteArray.size_append]; omega)), ?_⟩
 refine (NR_atc N cx).mono ?_
 rintro _ w84 ⟨rfl, N, kp⟩
 refine ⟨_, rfl, ?_⟩
 repeat (refine ⟨kp _ smm, ?_⟩)
 rw [show atE (onP (0, 0) C2 d2) x = kAt (0, 0) C2 x from atP px yx]
 have rr : Row _ w11 (clv y) 23 := N.2 (w11.heap.size, clv y, 23) smm
 refine ⟨rr.loadL (fun j hj => by rw [ali37]), ?_⟩
 refine (N.call (wfy _)).mono ?_
 rintro _ w86 ⟨rfl, N, kp⟩
 refine ⟨_, rfl, ?_⟩
 repeat (refine ⟨kp _ smm, ?_⟩)
 refine ⟨le_max (by first | omega | (simp only [ByteArray.size_append]; omega)), ?_⟩
 refine (NR_atc N cy).mono ?_
 rintro _ w88 ⟨rfl, N, kp⟩
 refine ⟨_, rfl, ?_⟩
 repeat (refine ⟨kp _ smm, ?_⟩)
 rw [show atE (onP (0, 0) C2 d2) y = kAt (0, 0) C2 y from atP py yy]
 intro w90 ee
 have xe : Ext w88 w90 := by rw [ee]; exact Ext.al _ _
 have N := N.add xe (ali34 _) (by rw [ee]; exact Row.new _ [.string (cellT (kAt (0, 0) C2 x)), .string (cellT (kAt (0, 0) C2 y))] _ : Row w90 w88 [.string (cellT (kAt (0, 0) C2 x)), .string (cellT (kAt (0, 0) C2 y))] 9)
 refine (N.call0 (around_spec fails 5 w90 hf dcc (by unfold inI; omega))).mono ?_
 rintro _ w91 ⟨rfl, N, kp⟩
 refine ⟨_, rfl, ?_⟩
 repeat (refine ⟨kp _ smm, ?_⟩)
 rw [wrap_in (n := around fails 5 - 2) (by unfold inI; omega)]
 have hfr : -2 ≤ around fails 5 - 2 ∧ around fails 5 - 2 ≤ 2 := by omega
 generalize around fails 5 - 2 = f at *
 refine (N.call (decW_spec (n := f) omm w91)).mono ?_
 rintro _ w93 ⟨rfl, N, kp⟩
 refine ⟨_, rfl, ?_⟩
 repeat (refine ⟨kp _ smm, ?_⟩)
 have sff := decW_size (n := f) omm
 refine ⟨le_max (by first | omega | (simp only [ByteArray.size_append]; omega)), ?_⟩
 refine (NR_failc N (n := f) omm).mono ?_
 rintro _ w95 ⟨rfl, N, kp⟩
 refine ⟨_, rfl, ?_⟩
 repeat (refine ⟨kp _ smm, ?_⟩)
 obtain ⟨D2, en, e, C3, q1, q2, q3, q4, q5, q6, q7⟩ := tc_model hS1 hM1 c3l c3m hd2 hfr (around keep 9999)
 have he14 : 0 ≤ e ∧ e < 14 := by rcases q7 with q | q <;> (rw [q.1]; decide)
 have hfl2 : (failD D1 f).l.length ≤ 1000000 := by have : (failD D1 f).l = [] := (by unfold failD; split <;> exact hS1.c.l); rw [this]; exact alj66 _
 refine (NR_flush N hfl2 flush0 dcc words_flush pos0 q1 he14).mono ?_
 rintro _ w97 ⟨rfl, N, kp⟩
 refine ⟨_, rfl, ?_⟩
 repeat (refine ⟨kp _ smm, ?_⟩)
 refine (NR_crashc N T2 (n := around keep 9999) omm q2 q3 q4 q5).mono ?_
 rintro _ w99 ⟨rfl, N, kp⟩
 refine ⟨_, rfl, ?_⟩
 repeat (refine ⟨kp _ smm, ?_⟩)
 refine (NR_load N (alj66 _) line1 dcc words1 pos0 q6).mono ?_
 rintro _ w101 ⟨rfl, N, kp⟩
 refine ⟨_, rfl, ?_⟩
 repeat (refine ⟨kp _ smm, ?_⟩)
 have N := (N.ext (Ext.dr w101)).1
 refine (N.call (wfx _)).mono ?_
 rintro _ w103 ⟨rfl, N, kp⟩
 refine ⟨_, rfl, ?_⟩
 repeat (refine ⟨kp _ smm, ?_⟩)
 have rr : Row _ w11 (clv y) 23 := N.2 (w11.heap.size, clv y, 23) smm
 refine ⟨rr.loadL (fun j hj => by rw [ali37]), ?_⟩
 refine ⟨le_max (by first | omega | (simp only [ByteArray.size_append]; omega)), ?_⟩
 refine (NR_atc N cx).mono ?_
 rintro _ w105 ⟨rfl, N, kp⟩
 refine ⟨_, rfl, ?_⟩
 repeat (refine ⟨kp _ smm, ?_⟩)
 rw [show atE (onP (0, 0) C3 false) x = kAt (0, 0) C3 x from atP px yx]
 have rr : Row _ w11 (clv y) 23 := N.2 (w11.heap.size, clv y, 23) smm
 refine ⟨rr.loadL (fun j hj => by rw [ali37]), ?_⟩
 refine (N.call (wfy _)).mono ?_
 rintro _ w107 ⟨rfl, N, kp⟩
 refine ⟨_, rfl, ?_⟩
 repeat (refine ⟨kp _ smm, ?_⟩)
 refine ⟨le_max (by first | omega | (simp only [ByteArray.size_append]; omega)), ?_⟩
 refine (NR_atc N cy).mono ?_
 rintro _ w109 ⟨rfl, N, kp⟩
 refine ⟨_, rfl, ?_⟩
 repeat (refine ⟨kp _ smm, ?_⟩)
 rw [show atE (onP (0, 0) C3 false) y = kAt (0, 0) C3 y from atP py yy]
 intro w111 ee
 have xe : Ext w109 w111 := by rw [ee]; exact Ext.al _ _
 have N := N.add xe (ali34 _) (by rw [ee]; exact Row.new _ [.string (cellT (kAt (0, 0) C3 x)), .string (cellT (kAt (0, 0) C3 y))] _ : Row w111 w109 [.string (cellT (kAt (0, 0) C3 x)), .string (cellT (kAt (0, 0) C3 y))] 9)
 have hq : (errT e = ByteArray.mk #[111, 107] ∧ cellT (kAt (0, 0) C3 x) = cellT (kAt (0, 0) C2 x) ∧ cellT (kAt (0, 0) C3 y) = cellT (kAt (0, 0) C2 y)) ∨ (errT e ≠ ByteArray.mk #[111, 107] ∧ ((cellT (kAt (0, 0) C3 x) = cellT (kAt (0, 0) C1 x) ∧ cellT (kAt (0, 0) C3 y) = cellT (kAt (0, 0) C1 y)) ∨ (cellT (kAt (0, 0) C3 x) = cellT (kAt (0, 0) C2 x) ∧ cellT (kAt (0, 0) C3 y) = cellT (kAt (0, 0) C2 y)))) := by
  rcases q7 with ⟨c1, c2⟩ | ⟨c1, c2 | c2⟩
  ·exact .inl ⟨by rw [c1]; rfl, by rw [c2], by rw [c2]⟩
  ·exact .inr ⟨by rw [c1]; decide +kernel, .inl ⟨by rw [c2], by rw [c2]⟩⟩
  ·exact .inr ⟨by rw [c1]; decide +kernel, .inr ⟨by rw [c2], by rw [c2]⟩⟩
 generalize cellT (kAt (0, 0) C3 x) = tx at *
 generalize cellT (kAt (0, 0) C3 y) = ty at *
 generalize cellT (kAt (0, 0) C2 x) = nx at *
 generalize cellT (kAt (0, 0) C2 y) = ny at *
 generalize cellT (kAt (0, 0) C1 x) = wx at *
 generalize cellT (kAt (0, 0) C1 y) = wy at *
 generalize errT e = td at *
 exact tc_end N smm smm smm smm M2 xw2 hq _ rfl
theorem walk_TopCrash (seed : Int) (b1 c1 d1 : Int) (b2 c2 d2 : Int) (b3 c3 d3 : Int) (fails keep : Int) (w : World) (hs : inI seed) (x1 : inI b1) (x2 : inI c1) (x3 : inI d1) (y1 : inI b2) (y2 : inI c2) (y3 : inI d2) (z1 : inI b3) (z2 : inI c3) (z3 : inI d3) (hf : inI fails) (hk : inI keep) (hsh : w.ShapedOpen Tryz.prog) (hT : Tab10 w) :
  Cal 3 #[seed, .agg #[b1, c1, d1], .agg #[b2, c2, d2], .agg #[b3, c3, d3], fails, keep] w fun e w' => e = true ∧ Ext w w' := by
 obtain ⟨m, hm⟩ := maxLen_is hsh
 exact TopCrash_law hm hT seed (b1, c1, d1) (b2, c2, d2) b3 c3 d3 fails keep hs ⟨x1, x2, x3⟩ ⟨y1, y2, y3⟩ z1 z2 z3 hf hk
end Go.Proofs.YtjcnjlaelhdjeaaGreatDoor
