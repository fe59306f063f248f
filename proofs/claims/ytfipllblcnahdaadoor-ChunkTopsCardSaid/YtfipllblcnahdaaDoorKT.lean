import Derived.Test.YtfipllblcnahdaaDoorKQ
import Derived.Test.YtfipllblcnahdaaDoorQPM
set_option linter.all false
namespace Go.Proofs.YtfipllblcnahdaaDoor
open Go Go.Vc Go.RowKit Go.Proofs Go.Chk Go.Runs

theorem cut_spec (n : Int) (w : World) : Calls Tryd.prog n_cell_cut #[.int .i64 n] w fun e w' => e = .returned (.int .i64 (cutK n)) ∧ w' = w := by
  apply cell_cut.vc
  unfold cell_cut.pre
  have : (if 2147483648 < (if (-2147483648) > n then (-2147483648) else n) then 2147483648 else (if (-2147483648) > n then (-2147483648) else n)) = cutK n := by
    unfold cutK; split <;> split <;> omega
  rw [this]
  exact ⟨rfl, rfl⟩
theorem cutK_in (n : Int) : -2147483648 ≤ cutK n ∧ cutK n ≤ 2147483648 := by unfold cutK; omega
theorem Cut_spec (c : Ce) (w : World) : Calls Tryd.prog n_cell_Cut #[cev c] w fun e w' => e = .returned (cev (cutC c)) ∧ Ext w w' := by
  apply cell_Cut.vc
  intro w0 e0 w1 e1
  have z0 : w0.heap.size = w.heap.size + 1 := by rw [e0]; simp
  have x1 : Ext w w1.drew := (((Ext.rfl' w).of_alloc e0).of_alloc e1).drew
  have hb : Row w1.drew w.heap.size [.int .i64 c.1, .int .i64 c.2.1, .int .i64 c.2.2] tCe := ((by rw [e0]; exact Row.new w [_, _, _] _ : Row w0 w.heap.size [.int .i64 c.1, .int .i64 c.2.1, .int .i64 c.2.2] tCe).ext ((Ext.rfl' _).of_alloc e1)).ext (Ext.dr _)
  refine (cut_spec c.1 _).mono ?_
  rintro e w2 ⟨rfl, rfl⟩
  refine ⟨_, rfl, rfl, rfl, hb.loadL (fun j hj => by simp at hj; subst hj; rfl), hb.loadL (fun j hj => by simp at hj; subst hj; rfl), (cut_spec c.2.1 _).mono ?_⟩
  rintro e w2 ⟨rfl, rfl⟩
  refine ⟨_, rfl, rfl, rfl, hb.loadL (fun j hj => by simp at hj; subst hj; rfl), (cut_spec c.2.2 _).mono ?_⟩
  rintro e w2 ⟨rfl, rfl⟩
  exact ⟨_, rfl, rfl, rfl, fun w8 e8 => ⟨rfl, x1.of_setRow e8 (by omega)⟩⟩
theorem side_spec (a b c : Int) (h1 : inI (a - c)) (h2 : inI (b - c)) (w : World) : Calls Tryd.prog n_chunk_Chunk_rows_1 #[.int .i64 a, .int .i64 b, .int .i64 c] w fun e w' => e = .returned (.tuple #[.int .i64 (max (a - c) 0), .int .i64 (min (b - c) 15)]) ∧ w' = w := by
  apply chunk_Chunk_rows_1.vc
  unfold chunk_Chunk_rows_1.pre
  rw [wrap_in h1, wrap_in h2]
  have e1 : (if 0 > a - c then 0 else a - c) = max (a - c) 0 := by split <;> omega
  have e2 : (if 15 < b - c then 15 else b - c) = min (b - c) 15 := by split <;> omega
  rw [e1, e2]
  exact ⟨rfl, rfl⟩
theorem rdrew {w : World} {g : Nat} {cs : List Value} {t : TypeId} (h : Row w g cs t) : Row w.drew g cs t := h.ext (Ext.dr _)
theorem two_boxes {w wa wb wc wd : World} (ea : wa = w.alloc (.cells #[.int .i64 0] 3)) (eb : wb = wa.alloc (.cells #[.int .i64 0] 3)) {x y : Int} (ec : wc = wb.setRow w.heap.size #[.int .i64 x]) (ed : wd = wc.setRow wa.heap.size #[.int .i64 y]) :
    Row wd w.heap.size [.int .i64 x] tInt ∧ Row wd wa.heap.size [.int .i64 y] tInt ∧ Ext w wd ∧ w.heap.size ≤ wa.heap.size := by
  have za : wa.heap.size = w.heap.size + 1 := by rw [ea]; simp
  have xa : Ext w wa := (Ext.rfl' _).of_alloc ea
  have ra : Row wa w.heap.size [.int .i64 0] 3 := by rw [ea]; exact Row.new w [_] _
  have rb : Row wb w.heap.size [.int .i64 0] 3 := ra.ext ((Ext.rfl' _).of_alloc eb)
  have rb2 : Row wb wa.heap.size [.int .i64 0] 3 := by rw [eb]; exact Row.new wa [_] _
  have rc : Row wc w.heap.size [.int .i64 x] 3 := by rw [ec]; exact rb.set [_]
  have rc2 : Row wc wa.heap.size [.int .i64 0] 3 := rb2.same (by rw [ec]; exact setRow_other _ _ _ _ (by omega))
  refine ⟨rc.same (by rw [ed]; exact setRow_other _ _ _ _ (by omega)), by rw [ed]; exact rc2.set [_], ((xa.of_alloc eb).of_setRow ec (Nat.le_refl _)).of_setRow ed (by omega), by omega⟩
theorem two_boxes' {w wa wb wc wd : World} (ea : wa = w.alloc (.cells #[.int .i64 0] 3)) (eb : wb = wa.alloc (.cells #[.int .i64 0] 3)) {x y : Int} (ec : wc = wb.setRow wa.heap.size #[.int .i64 x]) (ed : wd = wc.setRow w.heap.size #[.int .i64 y]) :
    Row wd wa.heap.size [.int .i64 x] tInt ∧ Row wd w.heap.size [.int .i64 y] tInt ∧ Ext w wd ∧ w.heap.size ≤ wa.heap.size := by
  have za : wa.heap.size = w.heap.size + 1 := by rw [ea]; simp
  have xa : Ext w wa := (Ext.rfl' _).of_alloc ea
  have ra : Row wa w.heap.size [.int .i64 0] 3 := by rw [ea]; exact Row.new w [_] _
  have rb : Row wb w.heap.size [.int .i64 0] 3 := ra.ext ((Ext.rfl' _).of_alloc eb)
  have rb2 : Row wb wa.heap.size [.int .i64 0] 3 := by rw [eb]; exact Row.new wa [_] _
  have rc : Row wc w.heap.size [.int .i64 0] 3 := rb.same (by rw [ec]; exact setRow_other _ _ _ _ (by omega))
  have rc2 : Row wc wa.heap.size [.int .i64 x] 3 := by rw [ec]; exact rb2.set [_]
  refine ⟨rc2.same (by rw [ed]; exact setRow_other _ _ _ _ (by omega)), by rw [ed]; exact rc.set [_], ((xa.of_alloc eb).of_setRow ec (by omega)).of_setRow ed (Nat.le_refl _), by omega⟩
theorem KIs.p0 {w : World} {g : Nat} {s : Sl} {p : Po} {C : List Int} (h : KIs w g s p C) : ld w (padd (padd (padd (some ⟨g, 0, none⟩) 0) 0) 0) = some (.int .i64 p.1) := by
  rw [padd_row, padd_row, padd_row, h.row.ld]; rfl
theorem KIs.p1 {w : World} {g : Nat} {s : Sl} {p : Po} {C : List Int} (h : KIs w g s p C) : ld w (padd (padd (padd (some ⟨g, 0, none⟩) 0) 0) 1) = some (.int .i64 p.2) := by
  rw [padd_row, padd_row, padd_row, h.row.ld]; rfl
theorem KIs.l0 {w : World} {g : Nat} {s : Sl} {p : Po} {C : List Int} (h : KIs w g s p C) : LoadL w (padd (padd (padd (some ⟨g, 0, none⟩) 0) 0) 0) 0 [.int .i64 p.1] := by
  show ld w (padd _ 0) = _
  rw [padd_padd]; exact h.p0
theorem KIs.l1 {w : World} {g : Nat} {s : Sl} {p : Po} {C : List Int} (h : KIs w g s p C) : LoadL w (padd (padd (padd (some ⟨g, 0, none⟩) 0) 0) 1) 0 [.int .i64 p.2] := by
  show ld w (padd _ 0) = _
  rw [padd_padd]; exact h.p1
abbrev rowsFn (b0 b1 b2 b3 b4 b5 : Nat) : Value := .func (.func 76) #[] #[.pointer (some ⟨b0, 0, none⟩), .pointer (some ⟨b1, 0, none⟩), .pointer (some ⟨b2, 0, none⟩), .pointer (some ⟨b3, 0, none⟩), .pointer (some ⟨b4, 0, none⟩), .pointer (some ⟨b5, 0, none⟩)]
/-- The boxes that the rows of a box of cells are read from. -/
structure Boxes (w : World) (p : Po) (f t : Ce) (b0 b1 b2 b3 b4 b5 : Nat) : Prop where
  r0 : Row w b0 [.int .i64 f.1, .int .i64 f.2.1, .int .i64 f.2.2] tCe
  r1 : Row w b1 [.int .i64 t.1, .int .i64 t.2.1, .int .i64 t.2.2] tCe
  r2 : Row w b2 [.int .i64 (loZ p f)] tInt
  r3 : Row w b3 [.int .i64 (hiZ p t)] tInt
  r4 : Row w b4 [.int .i64 (loX p f)] tInt
  r5 : Row w b5 [.int .i64 (hiX p t)] tInt
abbrev boxRd (b0 b1 b2 b3 b4 b5 : Nat) : Nat → Prop := fun i => i = b0 ∨ i = b1 ∨ i = b2 ∨ i = b3 ∨ i = b4 ∨ i = b5
theorem Boxes.same {w w' : World} {p : Po} {f t : Ce} {b0 b1 b2 b3 b4 b5 : Nat} (h : Boxes w p f t b0 b1 b2 b3 b4 b5) (hs : ∀ i, boxRd b0 b1 b2 b3 b4 b5 i → w'.heap[i]? = w.heap[i]?) : Boxes w' p f t b0 b1 b2 b3 b4 b5 :=
  ⟨h.r0.same (hs _ (.inl rfl)), h.r1.same (hs _ (.inr (.inl rfl))), h.r2.same (hs _ (.inr (.inr (.inl rfl)))), h.r3.same (hs _ (.inr (.inr (.inr (.inl rfl))))), h.r4.same (hs _ (.inr (.inr (.inr (.inr (.inl rfl)))))), h.r5.same (hs _ (.inr (.inr (.inr (.inr (.inr rfl))))))⟩
theorem Boxes.lt {w : World} {p : Po} {f t : Ce} {b0 b1 b2 b3 b4 b5 : Nat} (h : Boxes w p f t b0 b1 b2 b3 b4 b5) {i : Nat} (hi : boxRd b0 b1 b2 b3 b4 b5 i) : i < w.heap.size := by
  rcases hi with e | e | e | e | e | e
  · exact e ▸ h.r0.lt
  · exact e ▸ h.r1.lt
  · exact e ▸ h.r2.lt
  · exact e ▸ h.r3.lt
  · exact e ▸ h.r4.lt
  · exact e ▸ h.r5.lt
def midC (c : Ce) : Prop := (-2147483648 ≤ c.1 ∧ c.1 ≤ 2147483648) ∧ (-2147483648 ≤ c.2.1 ∧ c.2.1 ≤ 2147483648) ∧ (-2147483648 ≤ c.2.2 ∧ c.2.2 ≤ 2147483648)
theorem cut_mid (c : Ce) : midC (cutC c) := ⟨cutK_in _, cutK_in _, cutK_in _⟩
theorem rows_spec {w : World} {g : Nat} {s : Sl} {p : Po} {C : List Int} (h : KIs w g s p C) (hp : smallP p) (f t : Ce) (hf : midC f) (ht : midC t) : Calls Tryd.prog n_chunk_Chunk_rows #[.pointer (some ⟨g, 0, none⟩), cev f, cev t] w fun e w' => ∃ b0 b1 b2 b3 b4 b5, e = .returned (rowsFn b0 b1 b2 b3 b4 b5) ∧ Boxes w' p f t b0 b1 b2 b3 b4 b5 ∧ Ext w w' ∧ ∀ i, boxRd b0 b1 b2 b3 b4 b5 i → w.heap.size ≤ i := by
  apply chunk_Chunk_rows.vc
  obtain ⟨⟨p1, p2⟩, p3, p4⟩ := hp
  obtain ⟨⟨f1, f2⟩, ⟨f3, f4⟩, f5, f6⟩ := hf
  obtain ⟨⟨t1, t2⟩, ⟨t3, t4⟩, t5, t6⟩ := ht
  have wx : IntKind.wrap .i64 (p.1 * 16) = p.1 * 16 := wrap_in (by unfold inI; omega)
  have wz : IntKind.wrap .i64 (p.2 * 16) = p.2 * 16 := wrap_in (by unfold inI; omega)
  have s1 := side_spec f.1 t.1 (p.1 * 16) (by unfold inI; omega) (by unfold inI; omega)
  have s2 := side_spec f.2.2 t.2.2 (p.2 * 16) (by unfold inI; omega) (by unfold inI; omega)
  intro w0 e0 w1 e1
  have hf1 : Row w1.drew w.heap.size [.int .i64 f.1, .int .i64 f.2.1, .int .i64 f.2.2] tCe := rdrew ((by rw [e0]; exact Row.new w [_, _, _] _ : Row w0 w.heap.size [.int .i64 f.1, .int .i64 f.2.1, .int .i64 f.2.2] tCe).ext ((Ext.rfl' _).of_alloc e1))
  have ht1 : Row w1.drew w0.heap.size [.int .i64 t.1, .int .i64 t.2.1, .int .i64 t.2.2] tCe := rdrew (by rw [e1]; exact Row.new w0 [_, _, _] _ : Row w1 w0.heap.size [.int .i64 t.1, .int .i64 t.2.1, .int .i64 t.2.2] tCe)
  have x1 : Ext w w1.drew := (((Ext.rfl' w).of_alloc e0).of_alloc e1).drew
  have hk1 := h.ext x1
  have q0 : w.heap.size ≤ w0.heap.size := by rw [e0]; simp
  have q1 := x1.size
  have q7 : w1.drew.heap.size = w1.heap.size := rfl
  clear e0 e1
  refine ⟨p.1, KIs.p0 hk1, ?_⟩
  rw [wx]
  (
    refine ⟨?_, ?_, ?_⟩
    · refine (s1 _).mono ?_
      intro e ww hh
      obtain ⟨rfl, ew⟩ := hh
      rw [ew]
      refine ⟨_, _, rfl, ?_⟩
      repeat (refine And.intro rfl ?_)
      refine ⟨KIs.l0 hk1, ?_, ?_⟩
      · intro wa ea wb eb wc ec wd ed
        obtain ⟨rx, ry, xx, xz⟩ := two_boxes ea eb ec ed
        (
          have hf2 := rdrew (hf1.ext xx)
          have ht2 := rdrew (ht1.ext xx)
          have hx2 := rdrew rx
          have hy2 := rdrew ry
          have hk2 := (hk1.ext xx).ext (Ext.dr _)
          have xw2 := (x1.tr xx).drew
          have q2 := xx.size
          have q3 := xz
          have q4 : (World.drew wd).heap.size = wd.heap.size := rfl
          clear rx ry
          refine ⟨p.2, KIs.p1 hk2, ?_⟩
          rw [wz]
          (
            refine ⟨?_, ?_, ?_⟩
            · refine (s2 _).mono ?_
              intro e ww hh
              obtain ⟨rfl, ew⟩ := hh
              rw [ew]
              refine ⟨_, _, rfl, ?_⟩
              repeat (refine And.intro rfl ?_)
              refine ⟨KIs.l1 hk2, ?_, ?_⟩
              · intro wa ea wb eb wc ec wd ed
                obtain ⟨rx, ry, xx, xz⟩ := two_boxes ea eb ec ed
                (
                  have q5 := xx.size
                  have q6 := xz
                  exact ⟨_, _, _, _, _, _, rfl, ⟨hf2.ext xx, ht2.ext xx, rx, ry, hx2.ext xx, hy2.ext xx⟩, xw2.tr xx, fun i hi => by rcases hi with e | e | e | e | e | e <;> omega⟩)
              · intro wa ea wb eb wc ec wd ed
                obtain ⟨rx, ry, xx, xz⟩ := two_boxes' ea eb ec ed
                (
                  have q5 := xx.size
                  have q6 := xz
                  exact ⟨_, _, _, _, _, _, rfl, ⟨hf2.ext xx, ht2.ext xx, rx, ry, hx2.ext xx, hy2.ext xx⟩, xw2.tr xx, fun i hi => by rcases hi with e | e | e | e | e | e <;> omega⟩)
            · intro wa ea
              have hka := KIs.ext hk2 ((Ext.rfl' (World.drew wd)).of_alloc ea)
              refine ⟨?_, ?_⟩
              · refine (s2 _).mono ?_
                intro e ww hh
                obtain ⟨rfl, ew⟩ := hh
                rw [ew]
                refine ⟨_, _, rfl, ?_⟩
                repeat (refine And.intro rfl ?_)
                refine ⟨KIs.l1 hka, ?_⟩
                intro wb eb wc ec wd ed
                obtain ⟨rx, ry, xx, xz⟩ := two_boxes ea eb ec ed
                (
                  have q5 := xx.size
                  have q6 := xz
                  exact ⟨_, _, _, _, _, _, rfl, ⟨hf2.ext xx, ht2.ext xx, rx, ry, hx2.ext xx, hy2.ext xx⟩, xw2.tr xx, fun i hi => by rcases hi with e | e | e | e | e | e <;> omega⟩)
              · intro wb eb
                have hkb := KIs.ext hka ((Ext.rfl' wa).of_alloc eb)
                refine (s2 _).mono ?_
                intro e ww hh
                obtain ⟨rfl, ew⟩ := hh
                rw [ew]
                refine ⟨_, _, rfl, ?_⟩
                repeat (refine And.intro rfl ?_)
                refine ⟨KIs.l1 hkb, ?_⟩
                intro wc ec wd ed
                obtain ⟨rx, ry, xx, xz⟩ := two_boxes ea eb ec ed
                (
                  have q5 := xx.size
                  have q6 := xz
                  exact ⟨_, _, _, _, _, _, rfl, ⟨hf2.ext xx, ht2.ext xx, rx, ry, hx2.ext xx, hy2.ext xx⟩, xw2.tr xx, fun i hi => by rcases hi with e | e | e | e | e | e <;> omega⟩)
            · intro wa ea
              have hka := KIs.ext hk2 ((Ext.rfl' (World.drew wd)).of_alloc ea)
              refine ⟨?_, ?_⟩
              · refine (s2 _).mono ?_
                intro e ww hh
                obtain ⟨rfl, ew⟩ := hh
                rw [ew]
                refine ⟨_, _, rfl, ?_⟩
                repeat (refine And.intro rfl ?_)
                refine ⟨KIs.l1 hka, ?_⟩
                intro wb eb wc ec wd ed
                obtain ⟨rx, ry, xx, xz⟩ := two_boxes' ea eb ec ed
                (
                  have q5 := xx.size
                  have q6 := xz
                  exact ⟨_, _, _, _, _, _, rfl, ⟨hf2.ext xx, ht2.ext xx, rx, ry, hx2.ext xx, hy2.ext xx⟩, xw2.tr xx, fun i hi => by rcases hi with e | e | e | e | e | e <;> omega⟩)
              · intro wb eb
                have hkb := KIs.ext hka ((Ext.rfl' wa).of_alloc eb)
                refine (s2 _).mono ?_
                intro e ww hh
                obtain ⟨rfl, ew⟩ := hh
                rw [ew]
                refine ⟨_, _, rfl, ?_⟩
                repeat (refine And.intro rfl ?_)
                refine ⟨KIs.l1 hkb, ?_⟩
                intro wc ec wd ed
                obtain ⟨rx, ry, xx, xz⟩ := two_boxes' ea eb ec ed
                (
                  have q5 := xx.size
                  have q6 := xz
                  exact ⟨_, _, _, _, _, _, rfl, ⟨hf2.ext xx, ht2.ext xx, rx, ry, hx2.ext xx, hy2.ext xx⟩, xw2.tr xx, fun i hi => by rcases hi with e | e | e | e | e | e <;> omega⟩)))
      · intro wa ea wb eb wc ec wd ed
        obtain ⟨rx, ry, xx, xz⟩ := two_boxes' ea eb ec ed
        (
          have hf2 := rdrew (hf1.ext xx)
          have ht2 := rdrew (ht1.ext xx)
          have hx2 := rdrew rx
          have hy2 := rdrew ry
          have hk2 := (hk1.ext xx).ext (Ext.dr _)
          have xw2 := (x1.tr xx).drew
          have q2 := xx.size
          have q3 := xz
          have q4 : (World.drew wd).heap.size = wd.heap.size := rfl
          clear rx ry
          refine ⟨p.2, KIs.p1 hk2, ?_⟩
          rw [wz]
          (
            refine ⟨?_, ?_, ?_⟩
            · refine (s2 _).mono ?_
              intro e ww hh
              obtain ⟨rfl, ew⟩ := hh
              rw [ew]
              refine ⟨_, _, rfl, ?_⟩
              repeat (refine And.intro rfl ?_)
              refine ⟨KIs.l1 hk2, ?_, ?_⟩
              · intro wa ea wb eb wc ec wd ed
                obtain ⟨rx, ry, xx, xz⟩ := two_boxes ea eb ec ed
                (
                  have q5 := xx.size
                  have q6 := xz
                  exact ⟨_, _, _, _, _, _, rfl, ⟨hf2.ext xx, ht2.ext xx, rx, ry, hx2.ext xx, hy2.ext xx⟩, xw2.tr xx, fun i hi => by rcases hi with e | e | e | e | e | e <;> omega⟩)
              · intro wa ea wb eb wc ec wd ed
                obtain ⟨rx, ry, xx, xz⟩ := two_boxes' ea eb ec ed
                (
                  have q5 := xx.size
                  have q6 := xz
                  exact ⟨_, _, _, _, _, _, rfl, ⟨hf2.ext xx, ht2.ext xx, rx, ry, hx2.ext xx, hy2.ext xx⟩, xw2.tr xx, fun i hi => by rcases hi with e | e | e | e | e | e <;> omega⟩)
            · intro wa ea
              have hka := KIs.ext hk2 ((Ext.rfl' (World.drew wd)).of_alloc ea)
              refine ⟨?_, ?_⟩
              · refine (s2 _).mono ?_
                intro e ww hh
                obtain ⟨rfl, ew⟩ := hh
                rw [ew]
                refine ⟨_, _, rfl, ?_⟩
                repeat (refine And.intro rfl ?_)
                refine ⟨KIs.l1 hka, ?_⟩
                intro wb eb wc ec wd ed
                obtain ⟨rx, ry, xx, xz⟩ := two_boxes ea eb ec ed
                (
                  have q5 := xx.size
                  have q6 := xz
                  exact ⟨_, _, _, _, _, _, rfl, ⟨hf2.ext xx, ht2.ext xx, rx, ry, hx2.ext xx, hy2.ext xx⟩, xw2.tr xx, fun i hi => by rcases hi with e | e | e | e | e | e <;> omega⟩)
              · intro wb eb
                have hkb := KIs.ext hka ((Ext.rfl' wa).of_alloc eb)
                refine (s2 _).mono ?_
                intro e ww hh
                obtain ⟨rfl, ew⟩ := hh
                rw [ew]
                refine ⟨_, _, rfl, ?_⟩
                repeat (refine And.intro rfl ?_)
                refine ⟨KIs.l1 hkb, ?_⟩
                intro wc ec wd ed
                obtain ⟨rx, ry, xx, xz⟩ := two_boxes ea eb ec ed
                (
                  have q5 := xx.size
                  have q6 := xz
                  exact ⟨_, _, _, _, _, _, rfl, ⟨hf2.ext xx, ht2.ext xx, rx, ry, hx2.ext xx, hy2.ext xx⟩, xw2.tr xx, fun i hi => by rcases hi with e | e | e | e | e | e <;> omega⟩)
            · intro wa ea
              have hka := KIs.ext hk2 ((Ext.rfl' (World.drew wd)).of_alloc ea)
              refine ⟨?_, ?_⟩
              · refine (s2 _).mono ?_
                intro e ww hh
                obtain ⟨rfl, ew⟩ := hh
                rw [ew]
                refine ⟨_, _, rfl, ?_⟩
                repeat (refine And.intro rfl ?_)
                refine ⟨KIs.l1 hka, ?_⟩
                intro wb eb wc ec wd ed
                obtain ⟨rx, ry, xx, xz⟩ := two_boxes' ea eb ec ed
                (
                  have q5 := xx.size
                  have q6 := xz
                  exact ⟨_, _, _, _, _, _, rfl, ⟨hf2.ext xx, ht2.ext xx, rx, ry, hx2.ext xx, hy2.ext xx⟩, xw2.tr xx, fun i hi => by rcases hi with e | e | e | e | e | e <;> omega⟩)
              · intro wb eb
                have hkb := KIs.ext hka ((Ext.rfl' wa).of_alloc eb)
                refine (s2 _).mono ?_
                intro e ww hh
                obtain ⟨rfl, ew⟩ := hh
                rw [ew]
                refine ⟨_, _, rfl, ?_⟩
                repeat (refine And.intro rfl ?_)
                refine ⟨KIs.l1 hkb, ?_⟩
                intro wc ec wd ed
                obtain ⟨rx, ry, xx, xz⟩ := two_boxes' ea eb ec ed
                (
                  have q5 := xx.size
                  have q6 := xz
                  exact ⟨_, _, _, _, _, _, rfl, ⟨hf2.ext xx, ht2.ext xx, rx, ry, hx2.ext xx, hy2.ext xx⟩, xw2.tr xx, fun i hi => by rcases hi with e | e | e | e | e | e <;> omega⟩)))
    · intro wa ea
      have hka := KIs.ext hk1 ((Ext.rfl' (World.drew w1)).of_alloc ea)
      refine ⟨?_, ?_⟩
      · refine (s1 _).mono ?_
        intro e ww hh
        obtain ⟨rfl, ew⟩ := hh
        rw [ew]
        refine ⟨_, _, rfl, ?_⟩
        repeat (refine And.intro rfl ?_)
        refine ⟨KIs.l0 hka, ?_⟩
        intro wb eb wc ec wd ed
        obtain ⟨rx, ry, xx, xz⟩ := two_boxes ea eb ec ed
        (
          have hf2 := rdrew (hf1.ext xx)
          have ht2 := rdrew (ht1.ext xx)
          have hx2 := rdrew rx
          have hy2 := rdrew ry
          have hk2 := (hk1.ext xx).ext (Ext.dr _)
          have xw2 := (x1.tr xx).drew
          have q2 := xx.size
          have q3 := xz
          have q4 : (World.drew wd).heap.size = wd.heap.size := rfl
          clear rx ry
          refine ⟨p.2, KIs.p1 hk2, ?_⟩
          rw [wz]
          (
            refine ⟨?_, ?_, ?_⟩
            · refine (s2 _).mono ?_
              intro e ww hh
              obtain ⟨rfl, ew⟩ := hh
              rw [ew]
              refine ⟨_, _, rfl, ?_⟩
              repeat (refine And.intro rfl ?_)
              refine ⟨KIs.l1 hk2, ?_, ?_⟩
              · intro wa ea wb eb wc ec wd ed
                obtain ⟨rx, ry, xx, xz⟩ := two_boxes ea eb ec ed
                (
                  have q5 := xx.size
                  have q6 := xz
                  exact ⟨_, _, _, _, _, _, rfl, ⟨hf2.ext xx, ht2.ext xx, rx, ry, hx2.ext xx, hy2.ext xx⟩, xw2.tr xx, fun i hi => by rcases hi with e | e | e | e | e | e <;> omega⟩)
              · intro wa ea wb eb wc ec wd ed
                obtain ⟨rx, ry, xx, xz⟩ := two_boxes' ea eb ec ed
                (
                  have q5 := xx.size
                  have q6 := xz
                  exact ⟨_, _, _, _, _, _, rfl, ⟨hf2.ext xx, ht2.ext xx, rx, ry, hx2.ext xx, hy2.ext xx⟩, xw2.tr xx, fun i hi => by rcases hi with e | e | e | e | e | e <;> omega⟩)
            · intro wa ea
              have hka := KIs.ext hk2 ((Ext.rfl' (World.drew wd)).of_alloc ea)
              refine ⟨?_, ?_⟩
              · refine (s2 _).mono ?_
                intro e ww hh
                obtain ⟨rfl, ew⟩ := hh
                rw [ew]
                refine ⟨_, _, rfl, ?_⟩
                repeat (refine And.intro rfl ?_)
                refine ⟨KIs.l1 hka, ?_⟩
                intro wb eb wc ec wd ed
                obtain ⟨rx, ry, xx, xz⟩ := two_boxes ea eb ec ed
                (
                  have q5 := xx.size
                  have q6 := xz
                  exact ⟨_, _, _, _, _, _, rfl, ⟨hf2.ext xx, ht2.ext xx, rx, ry, hx2.ext xx, hy2.ext xx⟩, xw2.tr xx, fun i hi => by rcases hi with e | e | e | e | e | e <;> omega⟩)
              · intro wb eb
                have hkb := KIs.ext hka ((Ext.rfl' wa).of_alloc eb)
                refine (s2 _).mono ?_
                intro e ww hh
                obtain ⟨rfl, ew⟩ := hh
                rw [ew]
                refine ⟨_, _, rfl, ?_⟩
                repeat (refine And.intro rfl ?_)
                refine ⟨KIs.l1 hkb, ?_⟩
                intro wc ec wd ed
                obtain ⟨rx, ry, xx, xz⟩ := two_boxes ea eb ec ed
                (
                  have q5 := xx.size
                  have q6 := xz
                  exact ⟨_, _, _, _, _, _, rfl, ⟨hf2.ext xx, ht2.ext xx, rx, ry, hx2.ext xx, hy2.ext xx⟩, xw2.tr xx, fun i hi => by rcases hi with e | e | e | e | e | e <;> omega⟩)
            · intro wa ea
              have hka := KIs.ext hk2 ((Ext.rfl' (World.drew wd)).of_alloc ea)
              refine ⟨?_, ?_⟩
              · refine (s2 _).mono ?_
                intro e ww hh
                obtain ⟨rfl, ew⟩ := hh
                rw [ew]
                refine ⟨_, _, rfl, ?_⟩
                repeat (refine And.intro rfl ?_)
                refine ⟨KIs.l1 hka, ?_⟩
                intro wb eb wc ec wd ed
                obtain ⟨rx, ry, xx, xz⟩ := two_boxes' ea eb ec ed
                (
                  have q5 := xx.size
                  have q6 := xz
                  exact ⟨_, _, _, _, _, _, rfl, ⟨hf2.ext xx, ht2.ext xx, rx, ry, hx2.ext xx, hy2.ext xx⟩, xw2.tr xx, fun i hi => by rcases hi with e | e | e | e | e | e <;> omega⟩)
              · intro wb eb
                have hkb := KIs.ext hka ((Ext.rfl' wa).of_alloc eb)
                refine (s2 _).mono ?_
                intro e ww hh
                obtain ⟨rfl, ew⟩ := hh
                rw [ew]
                refine ⟨_, _, rfl, ?_⟩
                repeat (refine And.intro rfl ?_)
                refine ⟨KIs.l1 hkb, ?_⟩
                intro wc ec wd ed
                obtain ⟨rx, ry, xx, xz⟩ := two_boxes' ea eb ec ed
                (
                  have q5 := xx.size
                  have q6 := xz
                  exact ⟨_, _, _, _, _, _, rfl, ⟨hf2.ext xx, ht2.ext xx, rx, ry, hx2.ext xx, hy2.ext xx⟩, xw2.tr xx, fun i hi => by rcases hi with e | e | e | e | e | e <;> omega⟩)))
      · intro wb eb
        have hkb := KIs.ext hka ((Ext.rfl' wa).of_alloc eb)
        refine (s1 _).mono ?_
        intro e ww hh
        obtain ⟨rfl, ew⟩ := hh
        rw [ew]
        refine ⟨_, _, rfl, ?_⟩
        repeat (refine And.intro rfl ?_)
        refine ⟨KIs.l0 hkb, ?_⟩
        intro wc ec wd ed
        obtain ⟨rx, ry, xx, xz⟩ := two_boxes ea eb ec ed
        (
          have hf2 := rdrew (hf1.ext xx)
          have ht2 := rdrew (ht1.ext xx)
          have hx2 := rdrew rx
          have hy2 := rdrew ry
          have hk2 := (hk1.ext xx).ext (Ext.dr _)
          have xw2 := (x1.tr xx).drew
          have q2 := xx.size
          have q3 := xz
          have q4 : (World.drew wd).heap.size = wd.heap.size := rfl
          clear rx ry
          refine ⟨p.2, KIs.p1 hk2, ?_⟩
          rw [wz]
          (
            refine ⟨?_, ?_, ?_⟩
            · refine (s2 _).mono ?_
              intro e ww hh
              obtain ⟨rfl, ew⟩ := hh
              rw [ew]
              refine ⟨_, _, rfl, ?_⟩
              repeat (refine And.intro rfl ?_)
              refine ⟨KIs.l1 hk2, ?_, ?_⟩
              · intro wa ea wb eb wc ec wd ed
                obtain ⟨rx, ry, xx, xz⟩ := two_boxes ea eb ec ed
                (
                  have q5 := xx.size
                  have q6 := xz
                  exact ⟨_, _, _, _, _, _, rfl, ⟨hf2.ext xx, ht2.ext xx, rx, ry, hx2.ext xx, hy2.ext xx⟩, xw2.tr xx, fun i hi => by rcases hi with e | e | e | e | e | e <;> omega⟩)
              · intro wa ea wb eb wc ec wd ed
                obtain ⟨rx, ry, xx, xz⟩ := two_boxes' ea eb ec ed
                (
                  have q5 := xx.size
                  have q6 := xz
                  exact ⟨_, _, _, _, _, _, rfl, ⟨hf2.ext xx, ht2.ext xx, rx, ry, hx2.ext xx, hy2.ext xx⟩, xw2.tr xx, fun i hi => by rcases hi with e | e | e | e | e | e <;> omega⟩)
            · intro wa ea
              have hka := KIs.ext hk2 ((Ext.rfl' (World.drew wd)).of_alloc ea)
              refine ⟨?_, ?_⟩
              · refine (s2 _).mono ?_
                intro e ww hh
                obtain ⟨rfl, ew⟩ := hh
                rw [ew]
                refine ⟨_, _, rfl, ?_⟩
                repeat (refine And.intro rfl ?_)
                refine ⟨KIs.l1 hka, ?_⟩
                intro wb eb wc ec wd ed
                obtain ⟨rx, ry, xx, xz⟩ := two_boxes ea eb ec ed
                (
                  have q5 := xx.size
                  have q6 := xz
                  exact ⟨_, _, _, _, _, _, rfl, ⟨hf2.ext xx, ht2.ext xx, rx, ry, hx2.ext xx, hy2.ext xx⟩, xw2.tr xx, fun i hi => by rcases hi with e | e | e | e | e | e <;> omega⟩)
              · intro wb eb
                have hkb := KIs.ext hka ((Ext.rfl' wa).of_alloc eb)
                refine (s2 _).mono ?_
                intro e ww hh
                obtain ⟨rfl, ew⟩ := hh
                rw [ew]
                refine ⟨_, _, rfl, ?_⟩
                repeat (refine And.intro rfl ?_)
                refine ⟨KIs.l1 hkb, ?_⟩
                intro wc ec wd ed
                obtain ⟨rx, ry, xx, xz⟩ := two_boxes ea eb ec ed
                (
                  have q5 := xx.size
                  have q6 := xz
                  exact ⟨_, _, _, _, _, _, rfl, ⟨hf2.ext xx, ht2.ext xx, rx, ry, hx2.ext xx, hy2.ext xx⟩, xw2.tr xx, fun i hi => by rcases hi with e | e | e | e | e | e <;> omega⟩)
            · intro wa ea
              have hka := KIs.ext hk2 ((Ext.rfl' (World.drew wd)).of_alloc ea)
              refine ⟨?_, ?_⟩
              · refine (s2 _).mono ?_
                intro e ww hh
                obtain ⟨rfl, ew⟩ := hh
                rw [ew]
                refine ⟨_, _, rfl, ?_⟩
                repeat (refine And.intro rfl ?_)
                refine ⟨KIs.l1 hka, ?_⟩
                intro wb eb wc ec wd ed
                obtain ⟨rx, ry, xx, xz⟩ := two_boxes' ea eb ec ed
                (
                  have q5 := xx.size
                  have q6 := xz
                  exact ⟨_, _, _, _, _, _, rfl, ⟨hf2.ext xx, ht2.ext xx, rx, ry, hx2.ext xx, hy2.ext xx⟩, xw2.tr xx, fun i hi => by rcases hi with e | e | e | e | e | e <;> omega⟩)
              · intro wb eb
                have hkb := KIs.ext hka ((Ext.rfl' wa).of_alloc eb)
                refine (s2 _).mono ?_
                intro e ww hh
                obtain ⟨rfl, ew⟩ := hh
                rw [ew]
                refine ⟨_, _, rfl, ?_⟩
                repeat (refine And.intro rfl ?_)
                refine ⟨KIs.l1 hkb, ?_⟩
                intro wc ec wd ed
                obtain ⟨rx, ry, xx, xz⟩ := two_boxes' ea eb ec ed
                (
                  have q5 := xx.size
                  have q6 := xz
                  exact ⟨_, _, _, _, _, _, rfl, ⟨hf2.ext xx, ht2.ext xx, rx, ry, hx2.ext xx, hy2.ext xx⟩, xw2.tr xx, fun i hi => by rcases hi with e | e | e | e | e | e <;> omega⟩)))
    · intro wa ea
      have hka := KIs.ext hk1 ((Ext.rfl' (World.drew w1)).of_alloc ea)
      refine ⟨?_, ?_⟩
      · refine (s1 _).mono ?_
        intro e ww hh
        obtain ⟨rfl, ew⟩ := hh
        rw [ew]
        refine ⟨_, _, rfl, ?_⟩
        repeat (refine And.intro rfl ?_)
        refine ⟨KIs.l0 hka, ?_⟩
        intro wb eb wc ec wd ed
        obtain ⟨rx, ry, xx, xz⟩ := two_boxes' ea eb ec ed
        (
          have hf2 := rdrew (hf1.ext xx)
          have ht2 := rdrew (ht1.ext xx)
          have hx2 := rdrew rx
          have hy2 := rdrew ry
          have hk2 := (hk1.ext xx).ext (Ext.dr _)
          have xw2 := (x1.tr xx).drew
          have q2 := xx.size
          have q3 := xz
          have q4 : (World.drew wd).heap.size = wd.heap.size := rfl
          clear rx ry
          refine ⟨p.2, KIs.p1 hk2, ?_⟩
          rw [wz]
          (
            refine ⟨?_, ?_, ?_⟩
            · refine (s2 _).mono ?_
              intro e ww hh
              obtain ⟨rfl, ew⟩ := hh
              rw [ew]
              refine ⟨_, _, rfl, ?_⟩
              repeat (refine And.intro rfl ?_)
              refine ⟨KIs.l1 hk2, ?_, ?_⟩
              · intro wa ea wb eb wc ec wd ed
                obtain ⟨rx, ry, xx, xz⟩ := two_boxes ea eb ec ed
                (
                  have q5 := xx.size
                  have q6 := xz
                  exact ⟨_, _, _, _, _, _, rfl, ⟨hf2.ext xx, ht2.ext xx, rx, ry, hx2.ext xx, hy2.ext xx⟩, xw2.tr xx, fun i hi => by rcases hi with e | e | e | e | e | e <;> omega⟩)
              · intro wa ea wb eb wc ec wd ed
                obtain ⟨rx, ry, xx, xz⟩ := two_boxes' ea eb ec ed
                (
                  have q5 := xx.size
                  have q6 := xz
                  exact ⟨_, _, _, _, _, _, rfl, ⟨hf2.ext xx, ht2.ext xx, rx, ry, hx2.ext xx, hy2.ext xx⟩, xw2.tr xx, fun i hi => by rcases hi with e | e | e | e | e | e <;> omega⟩)
            · intro wa ea
              have hka := KIs.ext hk2 ((Ext.rfl' (World.drew wd)).of_alloc ea)
              refine ⟨?_, ?_⟩
              · refine (s2 _).mono ?_
                intro e ww hh
                obtain ⟨rfl, ew⟩ := hh
                rw [ew]
                refine ⟨_, _, rfl, ?_⟩
                repeat (refine And.intro rfl ?_)
                refine ⟨KIs.l1 hka, ?_⟩
                intro wb eb wc ec wd ed
                obtain ⟨rx, ry, xx, xz⟩ := two_boxes ea eb ec ed
                (
                  have q5 := xx.size
                  have q6 := xz
                  exact ⟨_, _, _, _, _, _, rfl, ⟨hf2.ext xx, ht2.ext xx, rx, ry, hx2.ext xx, hy2.ext xx⟩, xw2.tr xx, fun i hi => by rcases hi with e | e | e | e | e | e <;> omega⟩)
              · intro wb eb
                have hkb := KIs.ext hka ((Ext.rfl' wa).of_alloc eb)
                refine (s2 _).mono ?_
                intro e ww hh
                obtain ⟨rfl, ew⟩ := hh
                rw [ew]
                refine ⟨_, _, rfl, ?_⟩
                repeat (refine And.intro rfl ?_)
                refine ⟨KIs.l1 hkb, ?_⟩
                intro wc ec wd ed
                obtain ⟨rx, ry, xx, xz⟩ := two_boxes ea eb ec ed
                (
                  have q5 := xx.size
                  have q6 := xz
                  exact ⟨_, _, _, _, _, _, rfl, ⟨hf2.ext xx, ht2.ext xx, rx, ry, hx2.ext xx, hy2.ext xx⟩, xw2.tr xx, fun i hi => by rcases hi with e | e | e | e | e | e <;> omega⟩)
            · intro wa ea
              have hka := KIs.ext hk2 ((Ext.rfl' (World.drew wd)).of_alloc ea)
              refine ⟨?_, ?_⟩
              · refine (s2 _).mono ?_
                intro e ww hh
                obtain ⟨rfl, ew⟩ := hh
                rw [ew]
                refine ⟨_, _, rfl, ?_⟩
                repeat (refine And.intro rfl ?_)
                refine ⟨KIs.l1 hka, ?_⟩
                intro wb eb wc ec wd ed
                obtain ⟨rx, ry, xx, xz⟩ := two_boxes' ea eb ec ed
                (
                  have q5 := xx.size
                  have q6 := xz
                  exact ⟨_, _, _, _, _, _, rfl, ⟨hf2.ext xx, ht2.ext xx, rx, ry, hx2.ext xx, hy2.ext xx⟩, xw2.tr xx, fun i hi => by rcases hi with e | e | e | e | e | e <;> omega⟩)
              · intro wb eb
                have hkb := KIs.ext hka ((Ext.rfl' wa).of_alloc eb)
                refine (s2 _).mono ?_
                intro e ww hh
                obtain ⟨rfl, ew⟩ := hh
                rw [ew]
                refine ⟨_, _, rfl, ?_⟩
                repeat (refine And.intro rfl ?_)
                refine ⟨KIs.l1 hkb, ?_⟩
                intro wc ec wd ed
                obtain ⟨rx, ry, xx, xz⟩ := two_boxes' ea eb ec ed
                (
                  have q5 := xx.size
                  have q6 := xz
                  exact ⟨_, _, _, _, _, _, rfl, ⟨hf2.ext xx, ht2.ext xx, rx, ry, hx2.ext xx, hy2.ext xx⟩, xw2.tr xx, fun i hi => by rcases hi with e | e | e | e | e | e <;> omega⟩)))
      · intro wb eb
        have hkb := KIs.ext hka ((Ext.rfl' wa).of_alloc eb)
        refine (s1 _).mono ?_
        intro e ww hh
        obtain ⟨rfl, ew⟩ := hh
        rw [ew]
        refine ⟨_, _, rfl, ?_⟩
        repeat (refine And.intro rfl ?_)
        refine ⟨KIs.l0 hkb, ?_⟩
        intro wc ec wd ed
        obtain ⟨rx, ry, xx, xz⟩ := two_boxes' ea eb ec ed
        (
          have hf2 := rdrew (hf1.ext xx)
          have ht2 := rdrew (ht1.ext xx)
          have hx2 := rdrew rx
          have hy2 := rdrew ry
          have hk2 := (hk1.ext xx).ext (Ext.dr _)
          have xw2 := (x1.tr xx).drew
          have q2 := xx.size
          have q3 := xz
          have q4 : (World.drew wd).heap.size = wd.heap.size := rfl
          clear rx ry
          refine ⟨p.2, KIs.p1 hk2, ?_⟩
          rw [wz]
          (
            refine ⟨?_, ?_, ?_⟩
            · refine (s2 _).mono ?_
              intro e ww hh
              obtain ⟨rfl, ew⟩ := hh
              rw [ew]
              refine ⟨_, _, rfl, ?_⟩
              repeat (refine And.intro rfl ?_)
              refine ⟨KIs.l1 hk2, ?_, ?_⟩
              · intro wa ea wb eb wc ec wd ed
                obtain ⟨rx, ry, xx, xz⟩ := two_boxes ea eb ec ed
                (
                  have q5 := xx.size
                  have q6 := xz
                  exact ⟨_, _, _, _, _, _, rfl, ⟨hf2.ext xx, ht2.ext xx, rx, ry, hx2.ext xx, hy2.ext xx⟩, xw2.tr xx, fun i hi => by rcases hi with e | e | e | e | e | e <;> omega⟩)
              · intro wa ea wb eb wc ec wd ed
                obtain ⟨rx, ry, xx, xz⟩ := two_boxes' ea eb ec ed
                (
                  have q5 := xx.size
                  have q6 := xz
                  exact ⟨_, _, _, _, _, _, rfl, ⟨hf2.ext xx, ht2.ext xx, rx, ry, hx2.ext xx, hy2.ext xx⟩, xw2.tr xx, fun i hi => by rcases hi with e | e | e | e | e | e <;> omega⟩)
            · intro wa ea
              have hka := KIs.ext hk2 ((Ext.rfl' (World.drew wd)).of_alloc ea)
              refine ⟨?_, ?_⟩
              · refine (s2 _).mono ?_
                intro e ww hh
                obtain ⟨rfl, ew⟩ := hh
                rw [ew]
                refine ⟨_, _, rfl, ?_⟩
                repeat (refine And.intro rfl ?_)
                refine ⟨KIs.l1 hka, ?_⟩
                intro wb eb wc ec wd ed
                obtain ⟨rx, ry, xx, xz⟩ := two_boxes ea eb ec ed
                (
                  have q5 := xx.size
                  have q6 := xz
                  exact ⟨_, _, _, _, _, _, rfl, ⟨hf2.ext xx, ht2.ext xx, rx, ry, hx2.ext xx, hy2.ext xx⟩, xw2.tr xx, fun i hi => by rcases hi with e | e | e | e | e | e <;> omega⟩)
              · intro wb eb
                have hkb := KIs.ext hka ((Ext.rfl' wa).of_alloc eb)
                refine (s2 _).mono ?_
                intro e ww hh
                obtain ⟨rfl, ew⟩ := hh
                rw [ew]
                refine ⟨_, _, rfl, ?_⟩
                repeat (refine And.intro rfl ?_)
                refine ⟨KIs.l1 hkb, ?_⟩
                intro wc ec wd ed
                obtain ⟨rx, ry, xx, xz⟩ := two_boxes ea eb ec ed
                (
                  have q5 := xx.size
                  have q6 := xz
                  exact ⟨_, _, _, _, _, _, rfl, ⟨hf2.ext xx, ht2.ext xx, rx, ry, hx2.ext xx, hy2.ext xx⟩, xw2.tr xx, fun i hi => by rcases hi with e | e | e | e | e | e <;> omega⟩)
            · intro wa ea
              have hka := KIs.ext hk2 ((Ext.rfl' (World.drew wd)).of_alloc ea)
              refine ⟨?_, ?_⟩
              · refine (s2 _).mono ?_
                intro e ww hh
                obtain ⟨rfl, ew⟩ := hh
                rw [ew]
                refine ⟨_, _, rfl, ?_⟩
                repeat (refine And.intro rfl ?_)
                refine ⟨KIs.l1 hka, ?_⟩
                intro wb eb wc ec wd ed
                obtain ⟨rx, ry, xx, xz⟩ := two_boxes' ea eb ec ed
                (
                  have q5 := xx.size
                  have q6 := xz
                  exact ⟨_, _, _, _, _, _, rfl, ⟨hf2.ext xx, ht2.ext xx, rx, ry, hx2.ext xx, hy2.ext xx⟩, xw2.tr xx, fun i hi => by rcases hi with e | e | e | e | e | e <;> omega⟩)
              · intro wb eb
                have hkb := KIs.ext hka ((Ext.rfl' wa).of_alloc eb)
                refine (s2 _).mono ?_
                intro e ww hh
                obtain ⟨rfl, ew⟩ := hh
                rw [ew]
                refine ⟨_, _, rfl, ?_⟩
                repeat (refine And.intro rfl ?_)
                refine ⟨KIs.l1 hkb, ?_⟩
                intro wc ec wd ed
                obtain ⟨rx, ry, xx, xz⟩ := two_boxes' ea eb ec ed
                (
                  have q5 := xx.size
                  have q6 := xz
                  exact ⟨_, _, _, _, _, _, rfl, ⟨hf2.ext xx, ht2.ext xx, rx, ry, hx2.ext xx, hy2.ext xx⟩, xw2.tr xx, fun i hi => by rcases hi with e | e | e | e | e | e <;> omega⟩))))
set_option maxRecDepth 100000 in
theorem rows_iter (p : Po) (f t : Ce) (b0 b1 b2 b3 b4 b5 : Nat) (W0 : World) (hbx : Boxes W0 p f t b0 b1 b2 b3 b4 b5) :
    Iter Tryd.prog (rowsFn b0 b1 b2 b3 b4 b5) W0 (boxRd b0 b1 b2 b3 b4 b5) (rowsX p f t) := by
  refine ⟨⟨_, _, _, rfl, by kernel_rfl⟩, ?_⟩
  intro y B J Jx F0 W hB hsJ hsX hbd hRd hround h0
  refine callV_of (by kernel_rfl) (by rfl) ?_
  apply chunk_Chunk_rows_2.vc
  have same : ∀ {w : World} {F : Nat → Prop}, (∀ i, boxRd b0 b1 b2 b3 b4 b5 i → ¬ F i ∧ i < w.heap.size ∧ w.heap[i]? = W0.heap[i]?) → Boxes w p f t b0 b1 b2 b3 b4 b5 := fun {w F} h => hbx.same fun i hi => (h i hi).2.2
  obtain ⟨pb1, pb2⟩ := perY_bd p f t
  have hb0 := same hRd
  have hlY : (if 0 > f.2.1 then 0 else f.2.1) = loY f := by unfold loY; split <;> omega
  have hhY : (if 31 < t.2.1 then 31 else t.2.1) = hiY t := by unfold hiY; split <;> omega
  have x0 : 0 ≤ loX p f := by unfold loX; omega
  have x1 : hiX p t ≤ 15 := by unfold hiX; omega
  have z0 : 0 ≤ loZ p f := by unfold loZ; omega
  have z1 : hiZ p t ≤ 15 := by unfold hiZ; omega
  have y0 : 0 ≤ loY f := by unfold loY; omega
  have y1 : hiY t ≤ 31 := by unfold hiY; omega
  have hn : nY f t = (hiY t - loY f + 1).toNat := rfl
  refine ⟨f.2.1, by rw [padd_row, hb0.r0.ld]; rfl, ?_⟩
  rw [hlY]
  refine ⟨fun n x wr => ∃ (j : Nat) (F : Nat → Prop), x = loY f + j ∧ j + n = nY f t ∧ B ≤ wr.heap.size ∧ J (j * perY p f t) F wr ∧ (∀ i, boxRd b0 b1 b2 b3 b4 b5 i → ¬ F i ∧ i < wr.heap.size ∧ wr.heap[i]? = W0.heap[i]?), ⟨nY f t, 0, F0, by omega, by omega, hB, by rw [Nat.zero_mul]; exact h0, hRd⟩, ?_⟩
  rintro n us x wr ⟨j, F, rfl, hj, hBr, hJ, hK⟩
  have hbr := same hK
  refine ⟨t.2.1, by rw [padd_row, hbr.r1.ld]; rfl, ?_⟩
  rw [hhY]
  refine Br.mk (fun hc => ?_) (fun hc => ?_)
  · simp only [decide_eq_true_eq] at hc
    have hjn : j < nY f t := by omega
    have wj : IntKind.wrap .i64 (loY f + (j : Int) + 1) = loY f + ((j + 1 : Nat) : Int) := by rw [wrap_in (by unfold inI; omega)]; omega
    refine ⟨loZ p f, by rw [hbr.r2.ld]; rfl, ?_⟩
    rw [wj]
    have next : ∀ {wq : World} {F : Nat → Prop}, B ≤ wq.heap.size → J (j * perY p f t + perY p f t) F wq → (∀ i, boxRd b0 b1 b2 b3 b4 b5 i → ¬ F i ∧ i < wq.heap.size ∧ wq.heap[i]? = W0.heap[i]?) →
        ∃ n6, n6 < n ∧ ∃ (j' : Nat) (F : Nat → Prop), loY f + ((j + 1 : Nat) : Int) = loY f + (j' : Int) ∧ j' + n6 = nY f t ∧ B ≤ wq.heap.size ∧ J (j' * perY p f t) F wq ∧ (∀ i, boxRd b0 b1 b2 b3 b4 b5 i → ¬ F i ∧ i < wq.heap.size ∧ wq.heap[i]? = W0.heap[i]?) := fun {wq F} h1 h2 h3 =>
      ⟨n - 1, by omega, j + 1, F, rfl, by omega, h1, by rw [Nat.add_mul, Nat.one_mul]; exact h2, h3⟩
    refine ⟨fun m x wq => ∃ (i : Nat) (F : Nat → Prop), x = loZ p f + i ∧ i + m = (hiZ p t - loZ p f + 1).toNat ∧ B ≤ wq.heap.size ∧ (i ≤ perY p f t ∧ J (j * perY p f t + i) F wq) ∧ (∀ i, boxRd b0 b1 b2 b3 b4 b5 i → ¬ F i ∧ i < wq.heap.size ∧ wq.heap[i]? = W0.heap[i]?), ⟨(hiZ p t - loZ p f + 1).toNat, 0, F, by omega, by omega, hBr, ⟨Nat.zero_le _, hJ⟩, hK⟩, ?_⟩
    rintro m us2 x wq ⟨i, F2, rfl, hi, hBq, ⟨hip, hJq⟩, hKq⟩
    have hbq := same hKq
    refine ⟨hiZ p t, by rw [hbq.r3.ld]; rfl, Br.mk (fun hc2 => ?_) (fun hc2 => ?_)⟩
    · simp only [decide_eq_true_eq] at hc2
      refine ⟨loX p f, by rw [hbq.r4.ld]; rfl, hiX p t, by rw [hbq.r5.ld]; rfl, Br.mk (fun hc3 => ?_) (fun hc3 => ?_)⟩
      · simp only [decide_eq_true_eq] at hc3
        have hm : perY p f t = (hiZ p t - loZ p f + 1).toNat := by unfold perY; rw [if_pos hc3]
        have hil : i < perY p f t := by omega
        refine ⟨loX p f, by rw [hbq.r4.ld]; rfl, hiX p t, by rw [hbq.r5.ld]; rfl, loX p f, by rw [hbq.r4.ld]; rfl, ?_⟩
        have w1 : IntKind.wrap .i64 ((loY f + (j : Int)) * 16) = (loY f + (j : Int)) * 16 := wrap_in (by unfold inI; omega)
        have w2 : IntKind.wrap .i64 ((loY f + (j : Int)) * 16 + (loZ p f + (i : Int))) = (loY f + (j : Int)) * 16 + (loZ p f + (i : Int)) := wrap_in (by unfold inI; omega)
        have w3 : IntKind.wrap .i64 (((loY f + (j : Int)) * 16 + (loZ p f + (i : Int))) * 16) = ((loY f + (j : Int)) * 16 + (loZ p f + (i : Int))) * 16 := wrap_in (by unfold inI; omega)
        have w4 : IntKind.wrap .i64 (((loY f + (j : Int)) * 16 + (loZ p f + (i : Int))) * 16 + loX p f) = ((loY f + (j : Int)) * 16 + (loZ p f + (i : Int))) * 16 + loX p f := wrap_in (by unfold inI; omega)
        have w5 : IntKind.wrap .i64 (hiX p t - loX p f) = hiX p t - loX p f := wrap_in (by unfold inI; omega)
        have w6 : IntKind.wrap .i64 (hiX p t - loX p f + 1) = hiX p t - loX p f + 1 := wrap_in (by unfold inI; omega)
        have w7 : IntKind.wrap .i64 (loZ p f + (i : Int) + 1) = loZ p f + ((i + 1 : Nat) : Int) := by rw [wrap_in (by unfold inI; omega)]; omega
        rw [w1, w2, w3, w4, w5, w6, w7]
        refine callV_mono (hround _ _ _ _ (rowsX_get hjn hil) hJq) ?_
        rintro e w21 (⟨rfl, F3, hJ3, hst⟩ | ⟨rfl, F3, hJ3, hst⟩)
        · refine ⟨true, rfl, Br.mk (fun h => by cases h) (fun _ => ⟨m - 1, by omega, i + 1, F3, rfl, by omega, by have := hst.size; omega, ⟨by omega, hJ3⟩, fun k hk => ?_⟩)⟩
          obtain ⟨g1, g2, g3⟩ := hKq k hk
          refine ⟨fun hf => ?_, by have := hst.size; omega, (hst.same k g2 g1).trans g3⟩
          rcases hst.sub _ hf with hf | hf
          · exact g1 hf
          · omega
        · exact ⟨false, rfl, Br.mk (fun _ => ⟨⟨_, rfl⟩, .inr ⟨F3, hJ3⟩⟩) (fun h => by cases h)⟩
      · simp only [decide_eq_false_iff_not] at hc3
        have hm : perY p f t = 0 := by unfold perY; rw [if_neg hc3]
        exact next hBq (by rw [hm] at hip ⊢; have : i = 0 := by omega
                           rw [this, hm] at hJq; exact hJq) hKq
    · simp only [decide_eq_false_iff_not] at hc2
      have hie : i = perY p f t := by
        unfold perY at hip ⊢
        split at hip
        · rename_i hx; rw [if_pos hx]; omega
        · rename_i hx; rw [if_neg hx]; omega
      exact next hBq (by rw [hie] at hJq; exact hJq) hKq
  · simp only [decide_eq_false_iff_not] at hc
    have hje : j = nY f t := by omega
    rw [hje] at hJ
    exact ⟨⟨_, rfl⟩, .inl ⟨F, by rw [rowsX_len]; exact hJ⟩⟩
end Go.Proofs.YtfipllblcnahdaaDoor
