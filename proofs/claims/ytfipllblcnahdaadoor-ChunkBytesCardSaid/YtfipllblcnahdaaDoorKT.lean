import Derived.Test.YtfipllblcnahdaaDoorKK
import Derived.Test.YtfipllblcnahdaaDoorP
set_option linter.all false
namespace Go.Proofs.YtfipllblcnahdaaDoor
open Go Go.Vc Go.RowKit Go.Proofs Go.Chk Go.Runs

theorem cut_spec (n : Int) (w : World) : Calls Tryd.prog n_cell_cut #[.int .i64 n] w fun e w' => e = .returned (.int .i64 (cutK n)) ∧ w' = w := by
  apply cell_cut.vc
  unfold cell_cut.pre
  have : (if 2147483648 < (if (-2147483648) > n then (-2147483648) else n) then 2147483648 else (if (-2147483648) > n then (-2147483648) else n)) = cutK n := by
    unfold cutK; split <;> split <;> omega
  rw [this]
  exact ⟨rfl, rfl⟩
theorem cutK_in (n : Int) : -2147483648 ≤ cutK n ∧ cutK n ≤ 2147483648 := by unfold cutK; omega
theorem Cut_spec (c : Ce) (w : World) : Calls Tryd.prog n_cell_Cut #[cev c] w fun e w' => e = .returned (cev (cutC c)) ∧ Ext w w' := by
  apply cell_Cut.vc
  intro w0 e0 w1 e1
  have z0 : w0.heap.size = w.heap.size + 1 := by rw [e0]; simp
  have x1 : Ext w w1.drew := (((Ext.rfl' w).of_alloc e0).of_alloc e1).drew
  have hb : Row w1.drew w.heap.size [.int .i64 c.1, .int .i64 c.2.1, .int .i64 c.2.2] tCe := ((by rw [e0]; exact Row.new w [_, _, _] _ : Row w0 w.heap.size [.int .i64 c.1, .int .i64 c.2.1, .int .i64 c.2.2] tCe).ext ((Ext.rfl' _).of_alloc e1)).ext (Ext.dr _)
  refine (cut_spec c.1 _).mono ?_
  rintro e w2 ⟨rfl, rfl⟩
  refine ⟨_, rfl, rfl, rfl, hb.loadL (fun j hj => by simp at hj; subst hj; rfl), hb.loadL (fun j hj => by simp at hj; subst hj; rfl), (cut_spec c.2.1 _).mono ?_⟩
  rintro e w2 ⟨rfl, rfl⟩
  refine ⟨_, rfl, rfl, rfl, hb.loadL (fun j hj => by simp at hj; subst hj; rfl), (cut_spec c.2.2 _).mono ?_⟩
  rintro e w2 ⟨rfl, rfl⟩
  exact ⟨_, rfl, rfl, rfl, fun w8 e8 => ⟨rfl, x1.of_setRow e8 (by omega)⟩⟩
theorem side_spec (a b c : Int) (h1 : inI (a - c)) (h2 : inI (b - c)) (w : World) : Calls Tryd.prog n_chunk_Chunk_rows_1 #[.int .i64 a, .int .i64 b, .int .i64 c] w fun e w' => e = .returned (.tuple #[.int .i64 (max (a - c) 0), .int .i64 (min (b - c) 15)]) ∧ w' = w := by
  apply chunk_Chunk_rows_1.vc
  unfold chunk_Chunk_rows_1.pre
  rw [wrap_in h1, wrap_in h2]
  have e1 : (if 0 > a - c then 0 else a - c) = max (a - c) 0 := by split <;> omega
  have e2 : (if 15 < b - c then 15 else b - c) = min (b - c) 15 := by split <;> omega
  rw [e1, e2]
  exact ⟨rfl, rfl⟩
theorem rdrew {w : World} {g : Nat} {cs : List Value} {t : TypeId} (h : Row w g cs t) : Row w.drew g cs t := h.ext (Ext.dr _)
theorem two_boxes {w wa wb wc wd : World} (ea : wa = w.alloc (.cells #[.int .i64 0] 3)) (eb : wb = wa.alloc (.cells #[.int .i64 0] 3)) {x y : Int} (ec : wc = wb.setRow w.heap.size #[.int .i64 x]) (ed : wd = wc.setRow wa.heap.size #[.int .i64 y]) :
    Row wd w.heap.size [.int .i64 x] tInt ∧ Row wd wa.heap.size [.int .i64 y] tInt ∧ Ext w wd ∧ w.heap.size ≤ wa.heap.size := by
  have za : wa.heap.size = w.heap.size + 1 := by rw [ea]; simp
  have xa : Ext w wa := (Ext.rfl' _).of_alloc ea
  have ra : Row wa w.heap.size [.int .i64 0] 3 := by rw [ea]; exact Row.new w [_] _
  have rb : Row wb w.heap.size [.int .i64 0] 3 := ra.ext ((Ext.rfl' _).of_alloc eb)
  have rb2 : Row wb wa.heap.size [.int .i64 0] 3 := by rw [eb]; exact Row.new wa [_] _
  have rc : Row wc w.heap.size [.int .i64 x] 3 := by rw [ec]; exact rb.set [_]
  have rc2 : Row wc wa.heap.size [.int .i64 0] 3 := rb2.same (by rw [ec]; exact setRow_other _ _ _ _ (by omega))
  refine ⟨rc.same (by rw [ed]; exact setRow_other _ _ _ _ (by omega)), by rw [ed]; exact rc2.set [_], ((xa.of_alloc eb).of_setRow ec (Nat.le_refl _)).of_setRow ed (by omega), by omega⟩
theorem two_boxes' {w wa wb wc wd : World} (ea : wa = w.alloc (.cells #[.int .i64 0] 3)) (eb : wb = wa.alloc (.cells #[.int .i64 0] 3)) {x y : Int} (ec : wc = wb.setRow wa.heap.size #[.int .i64 x]) (ed : wd = wc.setRow w.heap.size #[.int .i64 y]) :
    Row wd wa.heap.size [.int .i64 x] tInt ∧ Row wd w.heap.size [.int .i64 y] tInt ∧ Ext w wd ∧ w.heap.size ≤ wa.heap.size := by
  have za : wa.heap.size = w.heap.size + 1 := by rw [ea]; simp
  have xa : Ext w wa := (Ext.rfl' _).of_alloc ea
  have ra : Row wa w.heap.size [.int .i64 0] 3 := by rw [ea]; exact Row.new w [_] _
  have rb : Row wb w.heap.size [.int .i64 0] 3 := ra.ext ((Ext.rfl' _).of_alloc eb)
  have rb2 : Row wb wa.heap.size [.int .i64 0] 3 := by rw [eb]; exact Row.new wa [_] _
  have rc : Row wc w.heap.size [.int .i64 0] 3 := rb.same (by rw [ec]; exact setRow_other _ _ _ _ (by omega))
  have rc2 : Row wc wa.heap.size [.int .i64 x] 3 := by rw [ec]; exact rb2.set [_]
  refine ⟨rc2.same (by rw [ed]; exact setRow_other _ _ _ _ (by omega)), by rw [ed]; exact rc.set [_], ((xa.of_alloc eb).of_setRow ec (by omega)).of_setRow ed (Nat.le_refl _), by omega⟩
theorem KIs.p0 {w : World} {g : Nat} {s : Sl} {p : Po} {C : List Int} (h : KIs w g s p C) : ld w (padd (padd (padd (some ⟨g, 0, none⟩) 0) 0) 0) = some (.int .i64 p.1) := by
  rw [padd_row, padd_row, padd_row, h.row.ld]; rfl
theorem KIs.p1 {w : World} {g : Nat} {s : Sl} {p : Po} {C : List Int} (h : KIs w g s p C) : ld w (padd (padd (padd (some ⟨g, 0, none⟩) 0) 0) 1) = some (.int .i64 p.2) := by
  rw [padd_row, padd_row, padd_row, h.row.ld]; rfl
theorem KIs.l0 {w : World} {g : Nat} {s : Sl} {p : Po} {C : List Int} (h : KIs w g s p C) : LoadL w (padd (padd (padd (some ⟨g, 0, none⟩) 0) 0) 0) 0 [.int .i64 p.1] := by
  show ld w (padd _ 0) = _
  rw [padd_padd]; exact h.p0
theorem KIs.l1 {w : World} {g : Nat} {s : Sl} {p : Po} {C : List Int} (h : KIs w g s p C) : LoadL w (padd (padd (padd (some ⟨g, 0, none⟩) 0) 0) 1) 0 [.int .i64 p.2] := by
  show ld w (padd _ 0) = _
  rw [padd_padd]; exact h.p1
abbrev rowsFn (b0 b1 b2 b3 b4 b5 : Nat) : Value := .func (.func 76) #[] #[.pointer (some ⟨b0, 0, none⟩), .pointer (some ⟨b1, 0, none⟩), .pointer (some ⟨b2, 0, none⟩), .pointer (some ⟨b3, 0, none⟩), .pointer (some ⟨b4, 0, none⟩), .pointer (some ⟨b5, 0, none⟩)]
/-- The boxes that the rows of a box of cells are read from. -/
structure Boxes (w : World) (p : Po) (f t : Ce) (b0 b1 b2 b3 b4 b5 : Nat) : Prop where
  r0 : Row w b0 [.int .i64 f.1, .int .i64 f.2.1, .int .i64 f.2.2] tCe
  r1 : Row w b1 [.int .i64 t.1, .int .i64 t.2.1, .int .i64 t.2.2] tCe
  r2 : Row w b2 [.int .i64 (loZ p f)] tInt
  r3 : Row w b3 [.int .i64 (hiZ p t)] tInt
  r4 : Row w b4 [.int .i64 (loX p f)] tInt
  r5 : Row w b5 [.int .i64 (hiX p t)] tInt
abbrev boxRd (b0 b1 b2 b3 b4 b5 : Nat) : Nat → Prop := fun i => i = b0 ∨ i = b1 ∨ i = b2 ∨ i = b3 ∨ i = b4 ∨ i = b5
theorem Boxes.same {w w' : World} {p : Po} {f t : Ce} {b0 b1 b2 b3 b4 b5 : Nat} (h : Boxes w p f t b0 b1 b2 b3 b4 b5) (hs : ∀ i, boxRd b0 b1 b2 b3 b4 b5 i → w'.heap[i]? = w.heap[i]?) : Boxes w' p f t b0 b1 b2 b3 b4 b5 :=
  ⟨h.r0.same (hs _ (.inl rfl)), h.r1.same (hs _ (.inr (.inl rfl))), h.r2.same (hs _ (.inr (.inr (.inl rfl)))), h.r3.same (hs _ (.inr (.inr (.inr (.inl rfl))))), h.r4.same (hs _ (.inr (.inr (.inr (.inr (.inl rfl)))))), h.r5.same (hs _ (.inr (.inr (.inr (.inr (.inr rfl))))))⟩
theorem Boxes.lt {w : World} {p : Po} {f t : Ce} {b0 b1 b2 b3 b4 b5 : Nat} (h : Boxes w p f t b0 b1 b2 b3 b4 b5) {i : Nat} (hi : boxRd b0 b1 b2 b3 b4 b5 i) : i < w.heap.size := by
  rcases hi with e | e | e | e | e | e
  · exact e ▸ h.r0.lt
  · exact e ▸ h.r1.lt
  · exact e ▸ h.r2.lt
  · exact e ▸ h.r3.lt
  · exact e ▸ h.r4.lt
  · exact e ▸ h.r5.lt
def midC (c : Ce) : Prop := (-2147483648 ≤ c.1 ∧ c.1 ≤ 2147483648) ∧ (-2147483648 ≤ c.2.1 ∧ c.2.1 ≤ 2147483648) ∧ (-2147483648 ≤ c.2.2 ∧ c.2.2 ≤ 2147483648)
theorem cut_mid (c : Ce) : midC (cutC c) := ⟨cutK_in _, cutK_in _, cutK_in _⟩
theorem rows_spec {w : World} {g : Nat} {s : Sl} {p : Po} {C : List Int} (h : KIs w g s p C) (hp : smallP p) (f t : Ce) (hf : midC f) (ht : midC t) : Calls Tryd.prog n_chunk_Chunk_rows #[.pointer (some ⟨g, 0, none⟩), cev f, cev t] w fun e w' => ∃ b0 b1 b2 b3 b4 b5, e = .returned (rowsFn b0 b1 b2 b3 b4 b5) ∧ Boxes w' p f t b0 b1 b2 b3 b4 b5 ∧ Ext w w' ∧ ∀ i, boxRd b0 b1 b2 b3 b4 b5 i → w.heap.size ≤ i := by
  apply chunk_Chunk_rows.vc
  obtain ⟨⟨p1, p2⟩, p3, p4⟩ := hp
  obtain ⟨⟨f1, f2⟩, ⟨f3, f4⟩, f5, f6⟩ := hf
  obtain ⟨⟨t1, t2⟩, ⟨t3, t4⟩, t5, t6⟩ := ht
  have wx : IntKind.wrap .i64 (p.1 * 16) = p.1 * 16 := wrap_in (by unfold inI; omega)
  have wz : IntKind.wrap .i64 (p.2 * 16) = p.2 * 16 := wrap_in (by unfold inI; omega)
  have s1 := side_spec f.1 t.1 (p.1 * 16) (by unfold inI; omega) (by unfold inI; omega)
  have s2 := side_spec f.2.2 t.2.2 (p.2 * 16) (by unfold inI; omega) (by unfold inI; omega)
  intro w0 e0 w1 e1
  have hf1 : Row w1.drew w.heap.size [.int .i64 f.1, .int .i64 f.2.1, .int .i64 f.2.2] tCe := rdrew ((by rw [e0]; exact Row.new w [_, _, _] _ : Row w0 w.heap.size [.int .i64 f.1, .int .i64 f.2.1, .int .i64 f.2.2] tCe).ext ((Ext.rfl' _).of_alloc e1))
  have ht1 : Row w1.drew w0.heap.size [.int .i64 t.1, .int .i64 t.2.1, .int .i64 t.2.2] tCe := rdrew (by rw [e1]; exact Row.new w0 [_, _, _] _ : Row w1 w0.heap.size [.int .i64 t.1, .int .i64 t.2.1, .int .i64 t.2.2] tCe)
  have x1 : Ext w w1.drew := (((Ext.rfl' w).of_alloc e0).of_alloc e1).drew
  have hk1 := h.ext x1
  have q0 : w.heap.size ≤ w0.heap.size := by rw [e0]; simp
  have q1 := x1.size
  have q7 : w1.drew.heap.size = w1.heap.size := rfl
  clear e0 e1
  refine ⟨p.1, KIs.p0 hk1, ?_⟩
  rw [wx]
  (
    refine ⟨?_, ?_, ?_⟩
    · refine (s1 _).mono ?_
      intro e ww hh
      obtain ⟨rfl, ew⟩ := hh
      rw [ew]
      refine ⟨_, _, rfl, ?_⟩
      repeat (refine And.intro rfl ?_)
      refine ⟨KIs.l0 hk1, ?_, ?_⟩
      · intro wa ea wb eb wc ec wd ed
        obtain ⟨rx, ry, xx, xz⟩ := two_boxes ea eb ec ed
        (
          have hf2 := rdrew (hf1.ext xx)
          have ht2 := rdrew (ht1.ext xx)
          have hx2 := rdrew rx
          have hy2 := rdrew ry
          have hk2 := (hk1.ext xx).ext (Ext.dr _)
          have xw2 := (x1.tr xx).drew
          have q2 := xx.size
          have q3 := xz
          have q4 : (World.drew wd).heap.size = wd.heap.size := rfl
          clear rx ry
          refine ⟨p.2, KIs.p1 hk2, ?_⟩
          rw [wz]
          (
            refine ⟨?_, ?_, ?_⟩
            · refine (s2 _).mono ?_
              intro e ww hh
              obtain ⟨rfl, ew⟩ := hh
              rw [ew]
              refine ⟨_, _, rfl, ?_⟩
              repeat (refine And.intro rfl ?_)
              refine ⟨KIs.l1 hk2, ?_, ?_⟩
              · intro wa ea wb eb wc ec wd ed
                obtain ⟨rx, ry, xx, xz⟩ := two_boxes ea eb ec ed
                (
                  have q5 := xx.size
                  have q6 := xz
                  exact ⟨_, _, _, _, _, _, rfl, ⟨hf2.ext xx, ht2.ext xx, rx, ry, hx2.ext xx, hy2.ext xx⟩, xw2.tr xx, fun i hi => by rcases hi with e | e | e | e | e | e <;> omega⟩)
              · intro wa ea wb eb wc ec wd ed
                obtain ⟨rx, ry, xx, xz⟩ := two_boxes' ea eb ec ed
                (
                  have q5 := xx.size
                  have q6 := xz
                  exact ⟨_, _, _, _, _, _, rfl, ⟨hf2.ext xx, ht2.ext xx, rx, ry, hx2.ext xx, hy2.ext xx⟩, xw2.tr xx, fun i hi => by rcases hi with e | e | e | e | e | e <;> omega⟩)
            · intro wa ea
              have hka := KIs.ext hk2 ((Ext.rfl' (World.drew wd)).of_alloc ea)
              refine ⟨?_, ?_⟩
              · refine (s2 _).mono ?_
                intro e ww hh
                obtain ⟨rfl, ew⟩ := hh
                rw [ew]
                refine ⟨_, _, rfl, ?_⟩
                repeat (refine And.intro rfl ?_)
                refine ⟨KIs.l1 hka, ?_⟩
                intro wb eb wc ec wd ed
                obtain ⟨rx, ry, xx, xz⟩ := two_boxes ea eb ec ed
                (
                  have q5 := xx.size
                  have q6 := xz
                  exact ⟨_, _, _, _, _, _, rfl, ⟨hf2.ext xx, ht2.ext xx, rx, ry, hx2.ext xx, hy2.ext xx⟩, xw2.tr xx, fun i hi => by rcases hi with e | e | e | e | e | e <;> omega⟩)
              · intro wb eb
                have hkb := KIs.ext hka ((Ext.rfl' wa).of_alloc eb)
                refine (s2 _).mono ?_
                intro e ww hh
                obtain ⟨rfl, ew⟩ := hh
                rw [ew]
                refine ⟨_, _, rfl, ?_⟩
                repeat (refine And.intro rfl ?_)
                refine ⟨KIs.l1 hkb, ?_⟩
                intro wc ec wd ed
                obtain ⟨rx, ry, xx, xz⟩ := two_boxes ea eb ec ed
                (
                  have q5 := xx.size
                  have q6 := xz
                  exact ⟨_, _, _, _, _, _, rfl, ⟨hf2.ext xx, ht2.ext xx, rx, ry, hx2.ext xx, hy2.ext xx⟩, xw2.tr xx, fun i hi => by rcases hi with e | e | e | e | e | e <;> omega⟩)
            · intro wa ea
              have hka := KIs.ext hk2 ((Ext.rfl' (World.drew wd)).of_alloc ea)
              refine ⟨?_, ?_⟩
              · refine (s2 _).mono ?_
                intro e ww hh
                obtain ⟨rfl, ew⟩ := hh
                rw [ew]
                refine ⟨_, _, rfl, ?_⟩
                repeat (refine And.intro rfl ?_)
                refine ⟨KIs.l1 hka, ?_⟩
                intro wb eb wc ec wd ed
                obtain ⟨rx, ry, xx, xz⟩ := two_boxes' ea eb ec ed
                (
                  have q5 := xx.size
                  have q6 := xz
                  exact ⟨_, _, _, _, _, _, rfl, ⟨hf2.ext xx, ht2.ext xx, rx, ry, hx2.ext xx, hy2.ext xx⟩, xw2.tr xx, fun i hi => by rcases hi with e | e | e | e | e | e <;> omega⟩)
              · intro wb eb
                have hkb := KIs.ext hka ((Ext.rfl' wa).of_alloc eb)
                refine (s2 _).mono ?_
                intro e ww hh
                obtain ⟨rfl, ew⟩ := hh
                rw [ew]
                refine ⟨_, _, rfl, ?_⟩
                repeat (refine And.intro rfl ?_)
                refine ⟨KIs.l1 hkb, ?_⟩
                intro wc ec wd ed
                obtain ⟨rx, ry, xx, xz⟩ := two_boxes' ea eb ec ed
                (
                  have q5 := xx.size
                  have q6 := xz
                  exact ⟨_, _, _, _, _, _, rfl, ⟨hf2.ext xx, ht2.ext xx, rx, ry, hx2.ext xx, hy2.ext xx⟩, xw2.tr xx, fun i hi => by rcases hi with e | e | e | e | e | e <;> omega⟩)))
      · intro wa ea wb eb wc ec wd ed
        obtain ⟨rx, ry, xx, xz⟩ := two_boxes' ea eb ec ed
        (
          have hf2 := rdrew (hf1.ext xx)
          have ht2 := rdrew (ht1.ext xx)
          have hx2 := rdrew rx
          have hy2 := rdrew ry
          have hk2 := (hk1.ext xx).ext (Ext.dr _)
          have xw2 := (x1.tr xx).drew
          have q2 := xx.size
          have q3 := xz
          have q4 : (World.drew wd).heap.size = wd.heap.size := rfl
          clear rx ry
          refine ⟨p.2, KIs.p1 hk2, ?_⟩
          rw [wz]
          (
            refine ⟨?_, ?_, ?_⟩
            · refine (s2 _).mono ?_
              intro e ww hh
              obtain ⟨rfl, ew⟩ := hh
              rw [ew]
              refine ⟨_, _, rfl, ?_⟩
              repeat (refine And.intro rfl ?_)
              refine ⟨KIs.l1 hk2, ?_, ?_⟩
              · intro wa ea wb eb wc ec wd ed
                obtain ⟨rx, ry, xx, xz⟩ := two_boxes ea eb ec ed
                (
                  have q5 := xx.size
                  have q6 := xz
                  exact ⟨_, _, _, _, _, _, rfl, ⟨hf2.ext xx, ht2.ext xx, rx, ry, hx2.ext xx, hy2.ext xx⟩, xw2.tr xx, fun i hi => by rcases hi with e | e | e | e | e | e <;> omega⟩)
              · intro wa ea wb eb wc ec wd ed
                obtain ⟨rx, ry, xx, xz⟩ := two_boxes' ea eb ec ed
                (
                  have q5 := xx.size
                  have q6 := xz
                  exact ⟨_, _, _, _, _, _, rfl, ⟨hf2.ext xx, ht2.ext xx, rx, ry, hx2.ext xx, hy2.ext xx⟩, xw2.tr xx, fun i hi => by rcases hi with e | e | e | e | e | e <;> omega⟩)
            · intro wa ea
              have hka := KIs.ext hk2 ((Ext.rfl' (World.drew wd)).of_alloc ea)
              refine ⟨?_, ?_⟩
              · refine (s2 _).mono ?_
                intro e ww hh
                obtain ⟨rfl, ew⟩ := hh
                rw [ew]
                refine ⟨_, _, rfl, ?_⟩
                repeat (refine And.intro rfl ?_)
                refine ⟨KIs.l1 hka, ?_⟩
                intro wb eb wc ec wd ed
                obtain ⟨rx, ry, xx, xz⟩ := two_boxes ea eb ec ed
                (
                  have q5 := xx.size
                  have q6 := xz
                  exact ⟨_, _, _, _, _, _, rfl, ⟨hf2.ext xx, ht2.ext xx, rx, ry, hx2.ext xx, hy2.ext xx⟩, xw2.tr xx, fun i hi => by rcases hi with e | e | e | e | e | e <;> omega⟩)
              · intro wb eb
                have hkb := KIs.ext hka ((Ext.rfl' wa).of_alloc eb)
                refine (s2 _).mono ?_
                intro e ww hh
                obtain ⟨rfl, ew⟩ := hh
                rw [ew]
                refine ⟨_, _, rfl, ?_⟩
                repeat (refine And.intro rfl ?_)
                refine ⟨KIs.l1 hkb, ?_⟩
                intro wc ec wd ed
                obtain ⟨rx, ry, xx, xz⟩ := two_boxes ea eb ec ed
                (
                  have q5 := xx.size
                  have q6 := xz
                  exact ⟨_, _, _, _, _, _, rfl, ⟨hf2.ext xx, ht2.ext xx, rx, ry, hx2.ext xx, hy2.ext xx⟩, xw2.tr xx, fun i hi => by rcases hi with e | e | e | e | e | e <;> omega⟩)
            · intro wa ea
              have hka := KIs.ext hk2 ((Ext.rfl' (World.drew wd)).of_alloc ea)
              refine ⟨?_, ?_⟩
              · refine (s2 _).mono ?_
                intro e ww hh
                obtain ⟨rfl, ew⟩ := hh
                rw [ew]
                refine ⟨_, _, rfl, ?_⟩
                repeat (refine And.intro rfl ?_)
                refine ⟨KIs.l1 hka, ?_⟩
                intro wb eb wc ec wd ed
                obtain ⟨rx, ry, xx, xz⟩ := two_boxes' ea eb ec ed
                (
                  have q5 := xx.size
                  have q6 := xz
                  exact ⟨_, _, _, _, _, _, rfl, ⟨hf2.ext xx, ht2.ext xx, rx, ry, hx2.ext xx, hy2.ext xx⟩, xw2.tr xx, fun i hi => by rcases hi with e | e | e | e | e | e <;> omega⟩)
              · intro wb eb
                have hkb := KIs.ext hka ((Ext.rfl' wa).of_alloc eb)
                refine (s2 _).mono ?_
                intro e ww hh
                obtain ⟨rfl, ew⟩ := hh
                rw [ew]
                refine ⟨_, _, rfl, ?_⟩
                repeat (refine And.intro rfl ?_)
                refine ⟨KIs.l1 hkb, ?_⟩
                intro wc ec wd ed
                obtain ⟨rx, ry, xx, xz⟩ := two_boxes' ea eb ec ed
                (
                  have q5 := xx.size
                  have q6 := xz
                  exact ⟨_, _, _, _, _, _, rfl, ⟨hf2.ext xx, ht2.ext xx, rx, ry, hx2.ext xx, hy2.ext xx⟩, xw2.tr xx, fun i hi => by rcases hi with e | e | e | e | e | e <;> omega⟩)))
    · intro wa ea
      have hka := KIs.ext hk1 ((Ext.rfl' (World.drew w1)).of_alloc ea)
      refine ⟨?_, ?_⟩
      · refine (s1 _).mono ?_
        intro e ww hh
        obtain ⟨rfl, ew⟩ := hh
        rw [ew]
        refine ⟨_, _, rfl, ?_⟩
        repeat (refine And.intro rfl ?_)
        refine ⟨KIs.l0 hka, ?_⟩
        intro wb eb wc ec wd ed
        obtain ⟨rx, ry, xx, xz⟩ := two_boxes ea eb ec ed
        (
          have hf2 := rdrew (hf1.ext xx)
          have ht2 := rdrew (ht1.ext xx)
          have hx2 := rdrew rx
          have hy2 := rdrew ry
          have hk2 := (hk1.ext xx).ext (Ext.dr _)
          have xw2 := (x1.tr xx).drew
          have q2 := xx.size
          have q3 := xz
          have q4 : (World.drew wd).heap.size = wd.heap.size := rfl
          clear rx ry
          refine ⟨p.2, KIs.p1 hk2, ?_⟩
          rw [wz]
          (
            refine ⟨?_, ?_, ?_⟩
            · refine (s2 _).mono ?_
              intro e ww hh
              obtain ⟨rfl, ew⟩ := hh
              rw [ew]
              refine ⟨_, _, rfl, ?_⟩
              repeat (refine And.intro rfl ?_)
              refine ⟨KIs.l1 hk2, ?_, ?_⟩
              · intro wa ea wb eb wc ec wd ed
                obtain ⟨rx, ry, xx, xz⟩ := two_boxes ea eb ec ed
                (
                  have q5 := xx.size
                  have q6 := xz
                  exact ⟨_, _, _, _, _, _, rfl, ⟨hf2.ext xx, ht2.ext xx, rx, ry, hx2.ext xx, hy2.ext xx⟩, xw2.tr xx, fun i hi => by rcases hi with e | e | e | e | e | e <;> omega⟩)
              · intro wa ea wb eb wc ec wd ed
                obtain ⟨rx, ry, xx, xz⟩ := two_boxes' ea eb ec ed
                (
                  have q5 := xx.size
                  have q6 := xz
                  exact ⟨_, _, _, _, _, _, rfl, ⟨hf2.ext xx, ht2.ext xx, rx, ry, hx2.ext xx, hy2.ext xx⟩, xw2.tr xx, fun i hi => by rcases hi with e | e | e | e | e | e <;> omega⟩)
            · intro wa ea
              have hka := KIs.ext hk2 ((Ext.rfl' (World.drew wd)).of_alloc ea)
              refine ⟨?_, ?_⟩
              · refine (s2 _).mono ?_
                intro e ww hh
                obtain ⟨rfl, ew⟩ := hh
                rw [ew]
                refine ⟨_, _, rfl, ?_⟩
                repeat (refine And.intro rfl ?_)
                refine ⟨KIs.l1 hka, ?_⟩
                intro wb eb wc ec wd ed
                obtain ⟨rx, ry, xx, xz⟩ := two_boxes ea eb ec ed
                (
                  have q5 := xx.size
                  have q6 := xz
                  exact ⟨_, _, _, _, _, _, rfl, ⟨hf2.ext xx, ht2.ext xx, rx, ry, hx2.ext xx, hy2.ext xx⟩, xw2.tr xx, fun i hi => by rcases hi with e | e | e | e | e | e <;> omega⟩)
              · intro wb eb
                have hkb := KIs.ext hka ((Ext.rfl' wa).of_alloc eb)
                refine (s2 _).mono ?_
                intro e ww hh
                obtain ⟨rfl, ew⟩ := hh
                rw [ew]
                refine ⟨_, _, rfl, ?_⟩
                repeat (refine And.intro rfl ?_)
                refine ⟨KIs.l1 hkb, ?_⟩
                intro wc ec wd ed
                obtain ⟨rx, ry, xx, xz⟩ := two_boxes ea eb ec ed
                (
                  have q5 := xx.size
                  have q6 := xz
                  exact ⟨_, _, _, _, _, _, rfl, ⟨hf2.ext xx, ht2.ext xx, rx, ry, hx2.ext xx, hy2.ext xx⟩, xw2.tr xx, fun i hi => by rcases hi with e | e | e | e | e | e <;> omega⟩)
            · intro wa ea
              have hka := KIs.ext hk2 ((Ext.rfl' (World.drew wd)).of_alloc ea)
              refine ⟨?_, ?_⟩
              · refine (s2 _).mono ?_
                intro e ww hh
                obtain ⟨rfl, ew⟩ := hh
                rw [ew]
                refine ⟨_, _, rfl, ?_⟩
                repeat (refine And.intro rfl ?_)
                refine ⟨KIs.l1 hka, ?_⟩
                intro wb eb wc ec wd ed
                obtain ⟨rx, ry, xx, xz⟩ := two_boxes' ea eb ec ed
                (
                  have q5 := xx.size
                  have q6 := xz
                  exact ⟨_, _, _, _, _, _, rfl, ⟨hf2.ext xx, ht2.ext xx, rx, ry, hx2.ext xx, hy2.ext xx⟩, xw2.tr xx, fun i hi => by rcases hi with e | e | e | e | e | e <;> omega⟩)
              · intro wb eb
                have hkb := KIs.ext hka ((Ext.rfl' wa).of_alloc eb)
                refine (s2 _).mono ?_
                intro e ww hh
                obtain ⟨rfl, ew⟩ := hh
                rw [ew]
                refine ⟨_, _, rfl, ?_⟩
                repeat (refine And.intro rfl ?_)
                refine ⟨KIs.l1 hkb, ?_⟩
                intro wc ec wd ed
                obtain ⟨rx, ry, xx, xz⟩ := two_boxes' ea eb ec ed
                (
                  have q5 := xx.size
                  have q6 := xz
                  exact ⟨_, _, _, _, _, _, rfl, ⟨hf2.ext xx, ht2.ext xx, rx, ry, hx2.ext xx, hy2.ext xx⟩, xw2.tr xx, fun i hi => by rcases hi with e | e | e | e | e | e <;> omega⟩)))
      · intro wb eb
        have hkb := KIs.ext hka ((Ext.rfl' wa).of_alloc eb)
        refine (s1 _).mono ?_
        intro e ww hh
        obtain ⟨rfl, ew⟩ := hh
        rw [ew]
        refine ⟨_, _, rfl, ?_⟩
        repeat (refine And.intro rfl ?_)
        refine ⟨KIs.l0 hkb, ?_⟩
        intro wc ec wd ed
        obtain ⟨rx, ry, xx, xz⟩ := two_boxes ea eb ec ed
        (
          have hf2 := rdrew (hf1.ext xx)
          have ht2 := rdrew (ht1.ext xx)
          have hx2 := rdrew rx
          have hy2 := rdrew ry
          have hk2 := (hk1.ext xx).ext (Ext.dr _)
          have xw2 := (x1.tr xx).drew
          have q2 := xx.size
          have q3 := xz
          have q4 : (World.drew wd).heap.size = wd.heap.size := rfl
          clear rx ry
          refine ⟨p.2, KIs.p1 hk2, ?_⟩
          rw [wz]
          (
            refine ⟨?_, ?_, ?_⟩
            · refine (s2 _).mono ?_
              intro e ww hh
              obtain ⟨rfl, ew⟩ := hh
              rw [ew]
              refine ⟨_, _, rfl, ?_⟩
              repeat (refine And.intro rfl ?_)
              refine ⟨KIs.l1 hk2, ?_, ?_⟩
              · intro wa ea wb eb wc ec wd ed
                obtain ⟨rx, ry, xx, xz⟩ := two_boxes ea eb ec ed
                (
                  have q5 := xx.size
                  have q6 := xz
                  exact ⟨_, _, _, _, _, _, rfl, ⟨hf2.ext xx, ht2.ext xx, rx, ry, hx2.ext xx, hy2.ext xx⟩, xw2.tr xx, fun i hi => by rcases hi with e | e | e | e | e | e <;> omega⟩)
              · intro wa ea wb eb wc ec wd ed
                obtain ⟨rx, ry, xx, xz⟩ := two_boxes' ea eb ec ed
                (
                  have q5 := xx.size
                  have q6 := xz
                  exact ⟨_, _, _, _, _, _, rfl, ⟨hf2.ext xx, ht2.ext xx, rx, ry, hx2.ext xx, hy2.ext xx⟩, xw2.tr xx, fun i hi => by rcases hi with e | e | e | e | e | e <;> omega⟩)
            · intro wa ea
              have hka := KIs.ext hk2 ((Ext.rfl' (World.drew wd)).of_alloc ea)
              refine ⟨?_, ?_⟩
              · refine (s2 _).mono ?_
                intro e ww hh
                obtain ⟨rfl, ew⟩ := hh
                rw [ew]
                refine ⟨_, _, rfl, ?_⟩
                repeat (refine And.intro rfl ?_)
                refine ⟨KIs.l1 hka, ?_⟩
                intro wb eb wc ec wd ed
                obtain ⟨rx, ry, xx, xz⟩ := two_boxes ea eb ec ed
                (
                  have q5 := xx.size
                  have q6 := xz
                  exact ⟨_, _, _, _, _, _, rfl, ⟨hf2.ext xx, ht2.ext xx, rx, ry, hx2.ext xx, hy2.ext xx⟩, xw2.tr xx, fun i hi => by rcases hi with e | e | e | e | e | e <;> omega⟩)
              · intro wb eb
                have hkb := KIs.ext hka ((Ext.rfl' wa).of_alloc eb)
                refine (s2 _).mono ?_
                intro e ww hh
                obtain ⟨rfl, ew⟩ := hh
                rw [ew]
                refine ⟨_, _, rfl, ?_⟩
                repeat (refine And.intro rfl ?_)
                refine ⟨KIs.l1 hkb, ?_⟩
                intro wc ec wd ed
                obtain ⟨rx, ry, xx, xz⟩ := two_boxes ea eb ec ed
                (
                  have q5 := xx.size
                  have q6 := xz
                  exact ⟨_, _, _, _, _, _, rfl, ⟨hf2.ext xx, ht2.ext xx, rx, ry, hx2.ext xx, hy2.ext xx⟩, xw2.tr xx, fun i hi => by rcases hi with e | e | e | e | e | e <;> omega⟩)
            · intro wa ea
              have hka := KIs.ext hk2 ((Ext.rfl' (World.drew wd)).of_alloc ea)
              refine ⟨?_, ?_⟩
              · refine (s2 _).mono ?_
                intro e ww hh
                obtain ⟨rfl, ew⟩ := hh
                rw [ew]
                refine ⟨_, _, rfl, ?_⟩
                repeat (refine And.intro rfl ?_)
                refine ⟨KIs.l1 hka, ?_⟩
                intro wb eb wc ec wd ed
                obtain ⟨rx, ry, xx, xz⟩ := two_boxes' ea eb ec ed
                (
                  have q5 := xx.size
                  have q6 := xz
                  exact ⟨_, _, _, _, _, _, rfl, ⟨hf2.ext xx, ht2.ext xx, rx, ry, hx2.ext xx, hy2.ext xx⟩, xw2.tr xx, fun i hi => by rcases hi with e | e | e | e | e | e <;> omega⟩)
              · intro wb eb
                have hkb := KIs.ext hka ((Ext.rfl' wa).of_alloc eb)
                refine (s2 _).mono ?_
                intro e ww hh
                obtain ⟨rfl, ew⟩ := hh
                rw [ew]
                refine ⟨_, _, rfl, ?_⟩
                repeat (refine And.intro rfl ?_)
                refine ⟨KIs.l1 hkb, ?_⟩
                intro wc ec wd ed
                obtain ⟨rx, ry, xx, xz⟩ := two_boxes' ea eb ec ed
                (
                  have q5 := xx.size
                  have q6 := xz
                  exact ⟨_, _, _, _, _, _, rfl, ⟨hf2.ext xx, ht2.ext xx, rx, ry, hx2.ext xx, hy2.ext xx⟩, xw2.tr xx, fun i hi => by rcases hi with e | e | e | e | e | e <;> omega⟩)))
    · intro wa ea
      have hka := KIs.ext hk1 ((Ext.rfl' (World.drew w1)).of_alloc ea)
      refine ⟨?_, ?_⟩
      · refine (s1 _).mono ?_
        intro e ww hh
        obtain ⟨rfl, ew⟩ := hh
        rw [ew]
        refine ⟨_, _, rfl, ?_⟩
        repeat (refine And.intro rfl ?_)
        refine ⟨KIs.l0 hka, ?_⟩
        intro wb eb wc ec wd ed
        obtain ⟨rx, ry, xx, xz⟩ := two_boxes' ea eb ec ed
        (
          have hf2 := rdrew (hf1.ext xx)
          have ht2 := rdrew (ht1.ext xx)
          have hx2 := rdrew rx
          have hy2 := rdrew ry
          have hk2 := (hk1.ext xx).ext (Ext.dr _)
          have xw2 := (x1.tr xx).drew
          have q2 := xx.size
          have q3 := xz
          have q4 : (World.drew wd).heap.size = wd.heap.size := rfl
          clear rx ry
          refine ⟨p.2, KIs.p1 hk2, ?_⟩
          rw [wz]
          (
            refine ⟨?_, ?_, ?_⟩
            · refine (s2 _).mono ?_
              intro e ww hh
              obtain ⟨rfl, ew⟩ := hh
              rw [ew]
              refine ⟨_, _, rfl, ?_⟩
              repeat (refine And.intro rfl ?_)
              refine ⟨KIs.l1 hk2, ?_, ?_⟩
              · intro wa ea wb eb wc ec wd ed
                obtain ⟨rx, ry, xx, xz⟩ := two_boxes ea eb ec ed
                (
                  have q5 := xx.size
                  have q6 := xz
                  exact ⟨_, _, _, _, _, _, rfl, ⟨hf2.ext xx, ht2.ext xx, rx, ry, hx2.ext xx, hy2.ext xx⟩, xw2.tr xx, fun i hi => by rcases hi with e | e | e | e | e | e <;> omega⟩)
              · intro wa ea wb eb wc ec wd ed
                obtain ⟨rx, ry, xx, xz⟩ := two_boxes' ea eb ec ed
                (
                  have q5 := xx.size
                  have q6 := xz
                  exact ⟨_, _, _, _, _, _, rfl, ⟨hf2.ext xx, ht2.ext xx, rx, ry, hx2.ext xx, hy2.ext xx⟩, xw2.tr xx, fun i hi => by rcases hi with e | e | e | e | e | e <;> omega⟩)
            · intro wa ea
              have hka := KIs.ext hk2 ((Ext.rfl' (World.drew wd)).of_alloc ea)
              refine ⟨?_, ?_⟩
              · refine (s2 _).mono ?_
                intro e ww hh
                obtain ⟨rfl, ew⟩ := hh
                rw [ew]
                refine ⟨_, _, rfl, ?_⟩
                repeat (refine And.intro rfl ?_)
                refine ⟨KIs.l1 hka, ?_⟩
                intro wb eb wc ec wd ed
                obtain ⟨rx, ry, xx, xz⟩ := two_boxes ea eb ec ed
                (
                  have q5 := xx.size
                  have q6 := xz
                  exact ⟨_, _, _, _, _, _, rfl, ⟨hf2.ext xx, ht2.ext xx, rx, ry, hx2.ext xx, hy2.ext xx⟩, xw2.tr xx, fun i hi => by rcases hi with e | e | e | e | e | e <;> omega⟩)
              · intro wb eb
                have hkb := KIs.ext hka ((Ext.rfl' wa).of_alloc eb)
                refine (s2 _).mono ?_
                intro e ww hh
                obtain ⟨rfl, ew⟩ := hh
                rw [ew]
                refine ⟨_, _, rfl, ?_⟩
                repeat (refine And.intro rfl ?_)
                refine ⟨KIs.l1 hkb, ?_⟩
                intro wc ec wd ed
                obtain ⟨rx, ry, xx, xz⟩ := two_boxes ea eb ec ed
                (
                  have q5 := xx.size
                  have q6 := xz
                  exact ⟨_, _, _, _, _, _, rfl, ⟨hf2.ext xx, ht2.ext xx, rx, ry, hx2.ext xx, hy2.ext xx⟩, xw2.tr xx, fun i hi => by rcases hi with e | e | e | e | e | e <;> omega⟩)
            · intro wa ea
              have hka := KIs.ext hk2 ((Ext.rfl' (World.drew wd)).of_alloc ea)
              refine ⟨?_, ?_⟩
              · refine (s2 _).mono ?_
                intro e ww hh
                obtain ⟨rfl, ew⟩ := hh
                rw [ew]
                refine ⟨_, _, rfl, ?_⟩
                repeat (refine And.intro rfl ?_)
                refine ⟨KIs.l1 hka, ?_⟩
                intro wb eb wc ec wd ed
                obtain ⟨rx, ry, xx, xz⟩ := two_boxes' ea eb ec ed
                (
                  have q5 := xx.size
                  have q6 := xz
                  exact ⟨_, _, _, _, _, _, rfl, ⟨hf2.ext xx, ht2.ext xx, rx, ry, hx2.ext xx, hy2.ext xx⟩, xw2.tr xx, fun i hi => by rcases hi with e | e | e | e | e | e <;> omega⟩)
              · intro wb eb
                have hkb := KIs.ext hka ((Ext.rfl' wa).of_alloc eb)
                refine (s2 _).mono ?_
                intro e ww hh
                obtain ⟨rfl, ew⟩ := hh
                rw [ew]
                refine ⟨_, _, rfl, ?_⟩
                repeat (refine And.intro rfl ?_)
                refine ⟨KIs.l1 hkb, ?_⟩
                intro wc ec wd ed
                obtain ⟨rx, ry, xx, xz⟩ := two_boxes' ea eb ec ed
                (
                  have q5 := xx.size
                  have q6 := xz
                  exact ⟨_, _, _, _, _, _, rfl, ⟨hf2.ext xx, ht2.ext xx, rx, ry, hx2.ext xx, hy2.ext xx⟩, xw2.tr xx, fun i hi => by rcases hi with e | e | e | e | e | e <;> omega⟩)))
      · intro wb eb
        have hkb := KIs.ext hka ((Ext.rfl' wa).of_alloc eb)
        refine (s1 _).mono ?_
        intro e ww hh
        obtain ⟨rfl, ew⟩ := hh
        rw [ew]
        refine ⟨_, _, rfl, ?_⟩
        repeat (refine And.intro rfl ?_)
        refine ⟨KIs.l0 hkb, ?_⟩
        intro wc ec wd ed
        obtain ⟨rx, ry, xx, xz⟩ := two_boxes' ea eb ec ed
        (
          have hf2 := rdrew (hf1.ext xx)
          have ht2 := rdrew (ht1.ext xx)
          have hx2 := rdrew rx
          have hy2 := rdrew ry
          have hk2 := (hk1.ext xx).ext (Ext.dr _)
          have xw2 := (x1.tr xx).drew
          have q2 := xx.size
          have q3 := xz
          have q4 : (World.drew wd).heap.size = wd.heap.size := rfl
          clear rx ry
          refine ⟨p.2, KIs.p1 hk2, ?_⟩
          rw [wz]
          (
            refine ⟨?_, ?_, ?_⟩
            · refine (s2 _).mono ?_
              intro e ww hh
              obtain ⟨rfl, ew⟩ := hh
              rw [ew]
              refine ⟨_, _, rfl, ?_⟩
              repeat (refine And.intro rfl ?_)
              refine ⟨KIs.l1 hk2, ?_, ?_⟩
              · intro wa ea wb eb wc ec wd ed
                obtain ⟨rx, ry, xx, xz⟩ := two_boxes ea eb ec ed
                (
                  have q5 := xx.size
                  have q6 := xz
                  exact ⟨_, _, _, _, _, _, rfl, ⟨hf2.ext xx, ht2.ext xx, rx, ry, hx2.ext xx, hy2.ext xx⟩, xw2.tr xx, fun i hi => by rcases hi with e | e | e | e | e | e <;> omega⟩)
              · intro wa ea wb eb wc ec wd ed
                obtain ⟨rx, ry, xx, xz⟩ := two_boxes' ea eb ec ed
                (
                  have q5 := xx.size
                  have q6 := xz
                  exact ⟨_, _, _, _, _, _, rfl, ⟨hf2.ext xx, ht2.ext xx, rx, ry, hx2.ext xx, hy2.ext xx⟩, xw2.tr xx, fun i hi => by rcases hi with e | e | e | e | e | e <;> omega⟩)
            · intro wa ea
              have hka := KIs.ext hk2 ((Ext.rfl' (World.drew wd)).of_alloc ea)
              refine ⟨?_, ?_⟩
              · refine (s2 _).mono ?_
                intro e ww hh
                obtain ⟨rfl, ew⟩ := hh
                rw [ew]
                refine ⟨_, _, rfl, ?_⟩
                repeat (refine And.intro rfl ?_)
                refine ⟨KIs.l1 hka, ?_⟩
                intro wb eb wc ec wd ed
                obtain ⟨rx, ry, xx, xz⟩ := two_boxes ea eb ec ed
                (
                  have q5 := xx.size
                  have q6 := xz
                  exact ⟨_, _, _, _, _, _, rfl, ⟨hf2.ext xx, ht2.ext xx, rx, ry, hx2.ext xx, hy2.ext xx⟩, xw2.tr xx, fun i hi => by rcases hi with e | e | e | e | e | e <;> omega⟩)
              · intro wb eb
                have hkb := KIs.ext hka ((Ext.rfl' wa).of_alloc eb)
                refine (s2 _).mono ?_
                intro e ww hh
                obtain ⟨rfl, ew⟩ := hh
                rw [ew]
                refine ⟨_, _, rfl, ?_⟩
                repeat (refine And.intro rfl ?_)
                refine ⟨KIs.l1 hkb, ?_⟩
                intro wc ec wd ed
                obtain ⟨rx, ry, xx, xz⟩ := two_boxes ea eb ec ed
                (
                  have q5 := xx.size
                  have q6 := xz
                  exact ⟨_, _, _, _, _, _, rfl, ⟨hf2.ext xx, ht2.ext xx, rx, ry, hx2.ext xx, hy2.ext xx⟩, xw2.tr xx, fun i hi => by rcases hi with e | e | e | e | e | e <;> omega⟩)
            · intro wa ea
              have hka := KIs.ext hk2 ((Ext.rfl' (World.drew wd)).of_alloc ea)
              refine ⟨?_, ?_⟩
              · refine (s2 _).mono ?_
                intro e ww hh
                obtain ⟨rfl, ew⟩ := hh
                rw [ew]
                refine ⟨_, _, rfl, ?_⟩
                repeat (refine And.intro rfl ?_)
                refine ⟨KIs.l1 hka, ?_⟩
                intro wb eb wc ec wd ed
                obtain ⟨rx, ry, xx, xz⟩ := two_boxes' ea eb ec ed
                (
                  have q5 := xx.size
                  have q6 := xz
                  exact ⟨_, _, _, _, _, _, rfl, ⟨hf2.ext xx, ht2.ext xx, rx, ry, hx2.ext xx, hy2.ext xx⟩, xw2.tr xx, fun i hi => by rcases hi with e | e | e | e | e | e <;> omega⟩)
              · intro wb eb
                have hkb := KIs.ext hka ((Ext.rfl' wa).of_alloc eb)
                refine (s2 _).mono ?_
                intro e ww hh
                obtain ⟨rfl, ew⟩ := hh
                rw [ew]
                refine ⟨_, _, rfl, ?_⟩
                repeat (refine And.intro rfl ?_)
                refine ⟨KIs.l1 hkb, ?_⟩
                intro wc ec wd ed
                obtain ⟨rx, ry, xx, xz⟩ := two_boxes' ea eb ec ed
                (
                  have q5 := xx.size
                  have q6 := xz
                  exact ⟨_, _, _, _, _, _, rfl, ⟨hf2.ext xx, ht2.ext xx, rx, ry, hx2.ext xx, hy2.ext xx⟩, xw2.tr xx, fun i hi => by rcases hi with e | e | e | e | e | e <;> omega⟩))))
set_option maxRecDepth 100000 in
theorem rows_iter (p : Po) (f t : Ce) (b0 b1 b2 b3 b4 b5 : Nat) (W0 : World) (hbx : Boxes W0 p f t b0 b1 b2 b3 b4 b5) :
    Iter Tryd.prog (rowsFn b0 b1 b2 b3 b4 b5) W0 (boxRd b0 b1 b2 b3 b4 b5) (rowsX p f t) := by
  refine ⟨⟨_, _, _, rfl, by kernel_rfl⟩, ?_⟩
  intro y B J Jx F0 W hB hsJ hsX hbd hRd hround h0
  refine callV_of (by kernel_rfl) (by rfl) ?_
  apply chunk_Chunk_rows_2.vc
  have same : ∀ {w : World} {F : Nat → Prop}, (∀ i, boxRd b0 b1 b2 b3 b4 b5 i → ¬ F i ∧ i < w.heap.size ∧ w.heap[i]? = W0.heap[i]?) → Boxes w p f t b0 b1 b2 b3 b4 b5 := fun {w F} h => hbx.same fun i hi => (h i hi).2.2
  obtain ⟨pb1, pb2⟩ := perY_bd p f t
  have hb0 := same hRd
  have hlY : (if 0 > f.2.1 then 0 else f.2.1) = loY f := by unfold loY; split <;> omega
  have hhY : (if 31 < t.2.1 then 31 else t.2.1) = hiY t := by unfold hiY; split <;> omega
  have x0 : 0 ≤ loX p f := by unfold loX; omega
  have x1 : hiX p t ≤ 15 := by unfold hiX; omega
  have z0 : 0 ≤ loZ p f := by unfold loZ; omega
  have z1 : hiZ p t ≤ 15 := by unfold hiZ; omega
  have y0 : 0 ≤ loY f := by unfold loY; omega
  have y1 : hiY t ≤ 31 := by unfold hiY; omega
  have hn : nY f t = (hiY t - loY f + 1).toNat := rfl
  refine ⟨f.2.1, by rw [padd_row, hb0.r0.ld]; rfl, ?_⟩
  rw [hlY]
  refine ⟨fun n x wr => ∃ (j : Nat) (F : Nat → Prop), x = loY f + j ∧ j + n = nY f t ∧ B ≤ wr.heap.size ∧ J (j * perY p f t) F wr ∧ (∀ i, boxRd b0 b1 b2 b3 b4 b5 i → ¬ F i ∧ i < wr.heap.size ∧ wr.heap[i]? = W0.heap[i]?), ⟨nY f t, 0, F0, by omega, by omega, hB, by rw [Nat.zero_mul]; exact h0, hRd⟩, ?_⟩
  rintro n us x wr ⟨j, F, rfl, hj, hBr, hJ, hK⟩
  have hbr := same hK
  refine ⟨t.2.1, by rw [padd_row, hbr.r1.ld]; rfl, ?_⟩
  rw [hhY]
  refine Br.mk (fun hc => ?_) (fun hc => ?_)
  · simp only [decide_eq_true_eq] at hc
    have hjn : j < nY f t := by omega
    have wj : IntKind.wrap .i64 (loY f + (j : Int) + 1) = loY f + ((j + 1 : Nat) : Int) := by rw [wrap_in (by unfold inI; omega)]; omega
    refine ⟨loZ p f, by rw [hbr.r2.ld]; rfl, ?_⟩
    rw [wj]
    have next : ∀ {wq : World} {F : Nat → Prop}, B ≤ wq.heap.size → J (j * perY p f t + perY p f t) F wq → (∀ i, boxRd b0 b1 b2 b3 b4 b5 i → ¬ F i ∧ i < wq.heap.size ∧ wq.heap[i]? = W0.heap[i]?) →
        ∃ n6, n6 < n ∧ ∃ (j' : Nat) (F : Nat → Prop), loY f + ((j + 1 : Nat) : Int) = loY f + (j' : Int) ∧ j' + n6 = nY f t ∧ B ≤ wq.heap.size ∧ J (j' * perY p f t) F wq ∧ (∀ i, boxRd b0 b1 b2 b3 b4 b5 i → ¬ F i ∧ i < wq.heap.size ∧ wq.heap[i]? = W0.heap[i]?) := fun {wq F} h1 h2 h3 =>
      ⟨n - 1, by omega, j + 1, F, rfl, by omega, h1, by rw [Nat.add_mul, Nat.one_mul]; exact h2, h3⟩
    refine ⟨fun m x wq => ∃ (i : Nat) (F : Nat → Prop), x = loZ p f + i ∧ i + m = (hiZ p t - loZ p f + 1).toNat ∧ B ≤ wq.heap.size ∧ (i ≤ perY p f t ∧ J (j * perY p f t + i) F wq) ∧ (∀ i, boxRd b0 b1 b2 b3 b4 b5 i → ¬ F i ∧ i < wq.heap.size ∧ wq.heap[i]? = W0.heap[i]?), ⟨(hiZ p t - loZ p f + 1).toNat, 0, F, by omega, by omega, hBr, ⟨Nat.zero_le _, hJ⟩, hK⟩, ?_⟩
    rintro m us2 x wq ⟨i, F2, rfl, hi, hBq, ⟨hip, hJq⟩, hKq⟩
    have hbq := same hKq
    refine ⟨hiZ p t, by rw [hbq.r3.ld]; rfl, Br.mk (fun hc2 => ?_) (fun hc2 => ?_)⟩
    · simp only [decide_eq_true_eq] at hc2
      refine ⟨loX p f, by rw [hbq.r4.ld]; rfl, hiX p t, by rw [hbq.r5.ld]; rfl, Br.mk (fun hc3 => ?_) (fun hc3 => ?_)⟩
      · simp only [decide_eq_true_eq] at hc3
        have hm : perY p f t = (hiZ p t - loZ p f + 1).toNat := by unfold perY; rw [if_pos hc3]
        have hil : i < perY p f t := by omega
        refine ⟨loX p f, by rw [hbq.r4.ld]; rfl, hiX p t, by rw [hbq.r5.ld]; rfl, loX p f, by rw [hbq.r4.ld]; rfl, ?_⟩
        have w1 : IntKind.wrap .i64 ((loY f + (j : Int)) * 16) = (loY f + (j : Int)) * 16 := wrap_in (by unfold inI; omega)
        have w2 : IntKind.wrap .i64 ((loY f + (j : Int)) * 16 + (loZ p f + (i : Int))) = (loY f + (j : Int)) * 16 + (loZ p f + (i : Int)) := wrap_in (by unfold inI; omega)
        have w3 : IntKind.wrap .i64 (((loY f + (j : Int)) * 16 + (loZ p f + (i : Int))) * 16) = ((loY f + (j : Int)) * 16 + (loZ p f + (i : Int))) * 16 := wrap_in (by unfold inI; omega)
        have w4 : IntKind.wrap .i64 (((loY f + (j : Int)) * 16 + (loZ p f + (i : Int))) * 16 + loX p f) = ((loY f + (j : Int)) * 16 + (loZ p f + (i : Int))) * 16 + loX p f := wrap_in (by unfold inI; omega)
        have w5 : IntKind.wrap .i64 (hiX p t - loX p f) = hiX p t - loX p f := wrap_in (by unfold inI; omega)
        have w6 : IntKind.wrap .i64 (hiX p t - loX p f + 1) = hiX p t - loX p f + 1 := wrap_in (by unfold inI; omega)
        have w7 : IntKind.wrap .i64 (loZ p f + (i : Int) + 1) = loZ p f + ((i + 1 : Nat) : Int) := by rw [wrap_in (by unfold inI; omega)]; omega
        rw [w1, w2, w3, w4, w5, w6, w7]
        refine callV_mono (hround _ _ _ _ (rowsX_get hjn hil) hJq) ?_
        rintro e w21 (⟨rfl, F3, hJ3, hst⟩ | ⟨rfl, F3, hJ3, hst⟩)
        · refine ⟨true, rfl, Br.mk (fun h => by cases h) (fun _ => ⟨m - 1, by omega, i + 1, F3, rfl, by omega, by have := hst.size; omega, ⟨by omega, hJ3⟩, fun k hk => ?_⟩)⟩
          obtain ⟨g1, g2, g3⟩ := hKq k hk
          refine ⟨fun hf => ?_, by have := hst.size; omega, (hst.same k g2 g1).trans g3⟩
          rcases hst.sub _ hf with hf | hf
          · exact g1 hf
          · omega
        · exact ⟨false, rfl, Br.mk (fun _ => ⟨⟨_, rfl⟩, .inr ⟨F3, hJ3⟩⟩) (fun h => by cases h)⟩
      · simp only [decide_eq_false_iff_not] at hc3
        have hm : perY p f t = 0 := by unfold perY; rw [if_neg hc3]
        exact next hBq (by rw [hm] at hip ⊢; have : i = 0 := by omega
                           rw [this, hm] at hJq; exact hJq) hKq
    · simp only [decide_eq_false_iff_not] at hc2
      have hie : i = perY p f t := by
        unfold perY at hip ⊢
        split at hip
        · rename_i hx; rw [if_pos hx]; omega
        · rename_i hx; rw [if_neg hx]; omega
      exact next hBq (by rw [hie] at hJq; exact hJq) hKq
  · simp only [decide_eq_false_iff_not] at hc
    have hje : j = nY f t := by omega
    rw [hje] at hJ
    exact ⟨⟨_, rfl⟩, .inl ⟨F, by rw [rowsX_len]; exact hJ⟩⟩
end Go.Proofs.YtfipllblcnahdaaDoor
namespace Go.Proofs.YtfipllblcnahdaaDoor
open Go Go.Vc Go.RowKit Go.Proofs Go.Chk Go.Runs

def kFill (p : Po) (C : List Int) (f t : Ce) (b : Int) : List Int × Int × Int := if bMay b = false then (C, 0, 1) else (boxC p C f t b, ((boxN p f t 8192 : Nat) : Int), 0)
theorem kFill_ok {p : Po} {C : List Int} (hl : C.length = 8192) (hm : ∀ b ∈ C, bMay b = true) (f t : Ce) (b : Int) : (kFill p C f t b).1.length = 8192 ∧ ∀ x ∈ (kFill p C f t b).1, bMay x = true := by
  unfold kFill
  split
  · exact ⟨hl, hm⟩
  · rename_i h
    refine ⟨by rw [boxC_len]; exact hl, fun x hx => ?_⟩
    rcases boxC_mem hx with h1 | h1
    · rw [h1]; simpa using h
    · exact hm x h1
theorem kFill_cut {p : Po} (hp : smallP p) {C : List Int} (hl : C.length = 8192) (f t : Ce) (b : Int) : kFill p C (cutC f) (cutC t) b = kFill p C f t b := by
  unfold kFill
  rw [boxC_cut hp hl, boxN_cut hp]
set_option maxRecDepth 100000 in
theorem Fill_spec {w : World} {g : Nat} {s : Sl} {p : Po} {C : List Int} (h : KIs w g s p C) (hp : smallP p) (f t : Ce) (b : Int) :
    Calls Tryd.prog n_chunk_Chunk_Fill #[.pointer (some ⟨g, 0, none⟩), cev f, cev t, .int .i64 b] w fun e w' => e = .returned (.tuple #[.int .i64 (kFill p C f t b).2.1, .int .i64 (kFill p C f t b).2.2]) ∧ ∃ s', KIs w' g s' p (kFill p C f t b).1 ∧ Mod (fun i => i = g) w w' ∧ (∀ i, s'.blk = some i → s.blk = some i ∨ w.heap.size ≤ i) := by
  rw [← kFill_cut hp h.len f t b]
  apply chunk_Chunk_Fill.vc
  intro w0 e0 w1 e1 w2 e2 w3 e3
  have hgl := h.row.lt
  have z0 : w0.heap.size = w.heap.size + 1 := by rw [e0]; simp
  have z1 : w1.heap.size = w.heap.size + 2 := by rw [e1]; simp [z0]
  have z2 : w2.heap.size = w.heap.size + 3 := by rw [e2]; simp [z1]
  have z3 : w3.heap.size = w.heap.size + 4 := by rw [e3]; simp [z2]
  have x3 : Ext w w3 := ((((Ext.rfl' w).of_alloc e0).of_alloc e1).of_alloc e2).of_alloc e3
  have hbk : Row w3 w.heap.size [.pointer (some ⟨g, 0, none⟩)] 24 := (by rw [e0]; exact Row.new w [_] _ : Row w0 w.heap.size [.pointer (some ⟨g, 0, none⟩)] 24).ext ((((Ext.rfl' _).of_alloc e1).of_alloc e2).of_alloc e3)
  have hbt : Row w3 w1.heap.size [.int .i64 t.1, .int .i64 t.2.1, .int .i64 t.2.2] tCe := (by rw [e2]; exact Row.new w1 [_, _, _] _ : Row w2 w1.heap.size [.int .i64 t.1, .int .i64 t.2.1, .int .i64 t.2.2] tCe).ext ((Ext.rfl' _).of_alloc e3)
  clear e0 e1 e2 e3
  refine (block_May_spec b w3).mono ?_
  rintro e w4 ⟨rfl, x4⟩
  have z4 := x4.size
  refine ⟨_, rfl, x4.heap (by omega), x4.heap (by omega), x4.heap (by omega), x4.heap (by omega), ?_⟩
  have hok := kFill_ok (p := p) h.len h.may (cutC f) (cutC t) b
  cases hb : bMay b with
  | false =>
    refine Br.mk (fun _ => ?_) (fun h => by cases h)
    have e : kFill p C (cutC f) (cutC t) b = (C, 0, 1) := by unfold kFill; rw [if_pos hb]
    rw [e]
    exact ⟨rfl, s, h.ext (x3.tr x4), Mod.of_ext (x3.tr x4), fun i hi => .inl hi⟩
  | true =>
    refine Br.mk (fun h => by cases h) (fun _ => ?_)
    have e : kFill p C (cutC f) (cutC t) b = (boxC p C (cutC f) (cutC t) b, ((boxN p (cutC f) (cutC t) 8192 : Nat) : Int), 0) := by unfold kFill; rw [if_neg (by rw [hb]; decide)]
    rw [e] at hok ⊢
    clear e
    intro w6 e6 w7 e7
    have z6 : w6.heap.size = w4.heap.size + 1 := by rw [e6]; simp
    have z7 : w7.heap.size = w4.heap.size + 1 := by rw [e7, setRow_size, z6]
    have x7 : Ext w4 w7.drew := (((Ext.rfl' _).of_alloc e6).of_setRow e7 (Nat.le_refl _)).drew
    have zd : w7.drew.heap.size = w7.heap.size := rfl
    refine (Cut_spec f w7.drew).mono ?_
    rintro e w8 ⟨rfl, x8⟩
    have z8 := x8.size
    have x38 := (x4.tr x7).tr x8
    refine ⟨_, _, _, rfl, x8.heap (by omega), x8.heap (by omega), x8.heap (by omega), x8.heap (by omega), x8.heap (by omega), (hbt.ext x38).loadL (fun j hj => by rw [Nat.zero_add]), (hbk.ext x38).loadL (fun j hj => by rw [Nat.zero_add]), ?_⟩
    refine (Cut_spec t w8).mono ?_
    rintro e w12 ⟨rfl, x12⟩
    have z12 := x12.size
    have x312 := x38.tr x12
    refine ⟨_, _, _, rfl, x12.heap (by omega), x12.heap (by omega), x12.heap (by omega), x12.heap (by omega), x12.heap (by omega), (hbk.ext x312).loadL (fun j hj => by rw [Nat.zero_add]), ?_⟩
    have hc12 := h.ext (x3.tr x312)
    refine (rows_spec hc12 hp (cutC f) (cutC t) (cut_mid f) (cut_mid t)).mono ?_
    rintro e w16 ⟨b0, b1, b2, b3, b4, b5, rfl, hbx, x16, hbn⟩
    have z16 := x16.size
    have x316 := x312.tr x16
    have xx := x3.tr x316
    have hk16 := h.ext xx
    have hp16 := hbk.ext x316
    generalize cutC f = cf at *
    generalize cutC t = ct at *
    refine ⟨_, rfl, x16.heap (by omega), x16.heap (by omega), x16.heap (by omega), x16.heap (by omega), x16.heap (by omega), ?_⟩
    have hcs : ∀ i, boxRd b0 b1 b2 b3 b4 b5 i → ∃ cs t, Row w16 i cs t ∧ (t = tCe ∨ t = tInt) := fun i hi => by
      rcases hi with e | e | e | e | e | e
      · exact ⟨_, _, e ▸ hbx.r0, .inl rfl⟩
      · exact ⟨_, _, e ▸ hbx.r1, .inl rfl⟩
      · exact ⟨_, _, e ▸ hbx.r2, .inr rfl⟩
      · exact ⟨_, _, e ▸ hbx.r3, .inr rfl⟩
      · exact ⟨_, _, e ▸ hbx.r4, .inr rfl⟩
      · exact ⟨_, _, e ▸ hbx.r5, .inr rfl⟩
    have hbf : ∀ i, boxRd b0 b1 b2 b3 b4 b5 i → ¬ (i = g ∨ s.blk = some i) := fun i hi => by
      obtain ⟨cs, t, hr, ht⟩ := hcs i hi
      rintro (e | e)
      · subst e
        rcases ht with rfl | rfl <;> exact hr.ne hk16.row (by decide) rfl
      · obtain ⟨cs', hr'⟩ := own_row hk16.own (by decide) e
        rcases ht with rfl | rfl <;> exact hr.ne hr' (by decide) rfl
    have hm0 : Mod (fun i => i = g) w w16 := Mod.of_ext xx
    have hlen := rowsX_len p cf ct
    have hrl := rows_le p cf ct
    refine ⟨rowsX p cf ct, boxRd b0 b1 b2 b3 b4 b5, fun i => i = g ∨ s.blk = some i, fun n F x w' => ∃ s', (∀ i, F i ↔ i = g ∨ s'.blk = some i) ∧ KIs w' g s' p (rowsC p C cf ct b n) ∧ x = (n : Int) * (hiX p ct - loX p cf + 1) ∧ Mod (fun i => i = g) w w' ∧ (∀ i, s'.blk = some i → s.blk = some i ∨ w16.heap.size + 2 ≤ i) ∧ w16.heap.size + 2 ≤ w'.heap.size ∧ Row w' w.heap.size [.pointer (some ⟨g, 0, none⟩)] 24, fun _ _ _ _ => False,
      rowsX_shape _ _ _, ?_, fun _ _ _ _ _ hh => hh.elim, ?_, fun _ _ _ _ hh => hh.elim, ?_, ?_, ?_, ?_, trivial⟩
    · rintro n F x wa wb ⟨s', hF, hk, hx, hm, hs', hz, hp⟩ hbl hsame
      refine ⟨s', hF, ⟨hk.row.same (hsame g ((hF g).2 (.inl rfl))), OwnK.keep hk.own fun i hi => hsame i ((hF i).2 (.inr hi)), hk.len, hk.may⟩, hx, ⟨hbl.os.trans hm.os, hbl.tape.trans hm.tape, hbl.output.trans hm.output, Nat.le_trans hm.size hbl.size, fun i hi hn => (hbl.block i (by omega)).trans (hm.same i hi hn)⟩, hs', by have := hbl.size; omega, hp.same (hbl.block _ (by omega))⟩
    · rintro n F x wa ⟨s', hF, hk, hx, hm, hs', hz, hp⟩ i hi
      rcases (hF i).1 hi with e | e
      · subst e; omega
      · have h1 := (hk.own.own.lt e).2
        rcases hs' i e with h2 | h2
        · have h3 := (h.own.own.lt h2).2; omega
        · omega
    · intro i hi
      have h1 := hbx.lt hi
      have h2 := hbn i hi
      exact ⟨h1, hbf i hi, by omega, by omega, by omega, by omega, by omega, trivial⟩
    · intro wa hbeg
      have hbel : Below w16.heap.size w16 wa := hbeg.ext
      refine ⟨rows_iter p cf ct b0 b1 b2 b3 b4 b5 wa (hbx.same fun i hi => hbel.block i (hbx.lt hi)), rfl, rfl, rfl, rfl, s, fun i => Iff.rfl, hk16.ext hbel, by simp, Mod.of_ext (xx.tr hbel), fun i hi => .inl hi, by have := hbeg.size; omega, hp16.ext hbel⟩
    · rintro n F us x y m wa hx hI
      obtain ⟨hn, hrow⟩ := rowsX_inv hx
      obtain ⟨r1, r2, r3, r4, r5⟩ := rowK_in hn
      have ey : y = (rowK p cf ct n).1 := congrArg Prod.fst hrow
      have em : m = (rowK p cf ct n).2 := congrArg Prod.snd hrow
      refine ⟨Below.refl _ _, fun wb hrec hI2 => ?_⟩
      clear hI hx hrow
      obtain ⟨s', hF, hk, hxx, hm, hs', hz, hp⟩ := hI2
      have hkd := hk.ext (Ext.dr wb)
      have w1' : IntKind.wrap .i64 (y + m) = y + m := wrap_in (by unfold inI; omega)
      rw [w1']
      have hnb : (n : Int) * (hiX p ct - loX p cf + 1) ≤ 512 * 16 := by
        rw [← r5]
        exact Int.mul_le_mul (by omega) r4 (by omega) (by decide)
      have hnb0 : 0 ≤ (n : Int) * (hiX p ct - loX p cf + 1) := Int.mul_nonneg (by omega) (by omega)
      have w2' : IntKind.wrap .i64 (x + m) = ((n + 1 : Nat) : Int) * (hiX p ct - loX p cf + 1) := by
        have : ((n + 1 : Nat) : Int) * (hiX p ct - loX p cf + 1) = (n : Int) * (hiX p ct - loX p cf + 1) + (hiX p ct - loX p cf + 1) := by
          rw [Int.natCast_add, Int.add_mul]; simp
        rw [this, wrap_in (by unfold inI; omega)]
        omega
      rw [w2']
      have hgb := hk.row.lt
      have zbd : wb.drew.heap.size = wb.heap.size := rfl
      refine ⟨s', hkd.row.at 2 rfl, (runs_Fill_spec s' (rowsC p C cf ct b n) y (y + m) b wb.drew (OwR.rdr hkd.own) hkd.bd (by unfold inI; omega) (by unfold inI; omega)).mono ?_⟩
      rintro e wc ⟨s4, rfl, ho, xc⟩
      have zc := xc.size
      rw [if_pos hb, ey, em] at ho
      have hpc := hp.ext ((Ext.dr wb).tr xc)
      obtain ⟨p1, p2⟩ := (hkd.row.ext xc).put1 (j := 2) (v := .slice s4.a s4.n s4.c) (by simp) rfl
      have pb : ∀ j : Nat, w.heap.size ≤ j → pblk (padd (some ⟨g, 0, none⟩) 2) ≠ some j := fun j hj e => by
        rw [pblk_padd] at e
        have : g = j := by simpa [pblk] using e
        omega
      refine ⟨s4, rfl, xc.heap (by omega), xc.heap (by omega), xc.heap (by omega), xc.heap (by omega), xc.heap (by omega), hpc.loadL (fun j hj => by rw [Nat.zero_add]), hpc.loadL (fun j hj => by rw [Nat.zero_add]), ⟨rfl, p1⟩, pb _ (by omega), pb _ (by omega), pb _ (by omega), pb _ (by omega), pb _ (by omega), ?_⟩
      intro wd ed we ee
      obtain ⟨q1, q2⟩ := p2 wd ed
      have zd2 := q2.size
      have ze : we.heap.size = wd.heap.size := by rw [ee, setRow_size]
      have he : ∀ i, i ≠ w4.heap.size → we.heap[i]? = wd.heap[i]? := fun i hi => by rw [ee]; exact setRow_other _ _ _ _ hi
      have hb4 : ∀ i, s4.blk = some i → wb.heap.size ≤ i := fun i hi => (ho.own.lt hi).1
      have hs4g : ∀ i, s4.blk = some i → i ≠ g := fun i hi e => by have := hb4 i hi; omega
      have hod := q2.ownK ho hs4g
      refine ⟨fun i => i = g ∨ s4.blk = some i, ⟨rfl, rfl, rfl, rfl, s4, fun i => Iff.rfl, ⟨q1.same (he _ (by omega)), OwnK.keep (OwnK.low hod (Nat.zero_le _)) fun i hi => he i (by have := hb4 i hi; omega), (rowsC_len p C cf ct b (n + 1)).trans h.len, rowsC_may h.may hb (n + 1)⟩, rfl, ?_, fun i hi => .inr (by have := hb4 i hi; omega), by omega, ?_⟩, ⟨?_, by omega, ?_⟩⟩
      · have hm2 : Mod (fun i => i = g) w wd := (hm.trans (Mod.of_ext ((Ext.dr wb).tr xc))).trans q2
        have ewd : we.os = wd.os ∧ we.tape = wd.tape ∧ we.output = wd.output := by rw [ee]; exact ⟨rfl, rfl, rfl⟩
        exact ⟨ewd.1.trans hm2.os, ewd.2.1.trans hm2.tape, ewd.2.2.trans hm2.output, by have := hm2.size; omega, fun i hi hn => (he i (by omega)).trans (hm2.same i hi hn)⟩
      · exact (q2.row hpc (by omega)).same (he _ (by omega))
      · rintro i (hi | hi)
        · rcases hi with hi | hi
          · exact .inl (.inl ((hF i).2 (.inl hi)))
          · exact .inr (hb4 i hi)
        · exact .inl (.inr hi)
      · intro i hi hni
        have h1 : i ≠ w4.heap.size := fun e => hni (.inr (by simp [e]))
        have h2 : i ≠ g := fun e => hni (.inl ((hF i).2 (.inl e)))
        rw [he i h1, q2.same i (by omega) h2]
        exact ((Ext.dr wb).tr xc).heap hi
    · rintro F us x wa ⟨s', hF, hk, hxx, hm, hs', hz, hp⟩ hD
      refine ⟨hD, fun wb hrec => ?_⟩
      rw [hlen] at hk hxx
      rw [rowsC_all h.len] at hk
      rw [← boxN_all] at hxx
      have hmr := Mod.of_rec hrec
      refine ⟨by rw [hxx], s', ?_, ?_, fun i hi => ?_⟩
      · refine hk.keep hmr (by omega) fun i hi => ?_
        rcases hs' i hi with h2 | h2
        · have h3 := (h.own.own.lt h2).2; omega
        · omega
      · exact hm.tr hmr fun i hi => .inr (by omega)
      · rcases hs' i hi with h2 | h2
        · exact .inl h2
        · exact .inr (by omega)
end Go.Proofs.YtfipllblcnahdaaDoor
namespace Go.Proofs.YtfipllblcnahdaaDoor
open Go Go.Vc Go.RowKit Go.Proofs Go.Chk Go.Runs

set_option maxRecDepth 100000 in
theorem rFill_spec {w : World} {s : Sl} {p : Po} {C : List Int} (ho : OwR 0 w s (ofC C)) (hl : C.length = 8192) (hp : okP p) (f t : Ce) (b : Int) :
    Calls Tryd.prog n_ref11_Fill #[kv p s, cev f, cev t, .int .i64 b] w fun e w' => (∃ s', e = .returned (.tuple #[kv p s', .int .i64 (kFill p C f t b).2.1, .int .i64 (kFill p C f t b).2.2]) ∧ OwR 0 w' s' (ofC (kFill p C f t b).1)) ∧ Ext w w' := by
  apply ref11_Fill.vc
  obtain ⟨q1, q2, q3⟩ := cells_pos hl
  intro w0 e0 w1 e1 w2 e2 w3 e3
  have z0 : w0.heap.size = w.heap.size + 1 := by rw [e0]; simp
  have z1 : w1.heap.size = w.heap.size + 2 := by rw [e1]; simp [z0]
  have z2 : w2.heap.size = w.heap.size + 3 := by rw [e2]; simp [z1]
  have z3 : w3.heap.size = w.heap.size + 4 := by rw [e3]; simp [z2]
  have x3 : Ext w w3 := ((((Ext.rfl' w).of_alloc e0).of_alloc e1).of_alloc e2).of_alloc e3
  clear e0 e1 e2 e3
  refine (ref04_May_spec b w3).mono ?_
  rintro e w4 ⟨rfl, rfl⟩
  refine ⟨_, rfl, rfl, rfl, rfl, rfl, ?_⟩
  cases hb : bMay b with
  | false =>
    refine Br.mk (fun _ => fun w6 e6 => ?_) (fun h => by cases h)
    have e : kFill p C f t b = (C, 0, 1) := by unfold kFill; rw [if_pos hb]
    rw [e]
    have x6 := x3.of_setRow e6 (by omega)
    exact ⟨⟨s, rfl, OwnK.ext ho x6⟩, x6⟩
  | true =>
    refine Br.mk (fun h => by cases h) (fun _ => ?_)
    have e : kFill p C f t b = (boxC p C f t b, ((boxN p f t 8192 : Nat) : Int), 0) := by unfold kFill; rw [if_neg (by rw [hb]; decide)]
    rw [e]
    have ho4 : OwR 0 w4 s (ofC C) := OwnK.ext ho x3
    refine (ref05_Cells_spec s _ w4 (OwR.rdr ho4) q3 q1 q2).mono ?_
    rintro e w7 ⟨s8, rfl, o8, x7⟩
    rw [cells_ofC] at o8
    have z7 := x7.size
    have hn8 := RdC.len o8.rdc
    refine ⟨s8, rfl, x7.heap (by omega), x7.heap (by omega), x7.heap (by omega), x7.heap (by omega), ?_⟩
    refine ⟨fun n i x wr => ∃ k : Nat, i = k ∧ k + n = 8192 ∧ x = (boxN p f t k : Nat) ∧ OwC w4.heap.size wr s8 (boxTo p C f t b k) ∧ Ext w4 wr, ⟨8192, rfl, rfl, rfl, rfl, 0, rfl, by omega, rfl, by rw [boxTo_zero]; exact o8, x7⟩, ?_⟩
    rintro n us i x wr ⟨k, rfl, hk, rfl, hor, xr⟩
    have hcl : (boxTo p C f t b k).length = 8192 := by rw [boxTo_len]; exact hl
    have hlow := fun j (hj : s8.blk = some j) => (hor.own.lt hj).1
    have zr := xr.size
    have hnk : boxN p f t k ≤ k := cnt_le _ _
    refine Br.mk (fun hc => ?_) (fun hc => ?_)
    · simp only [decide_eq_true_eq] at hc
      have hk8 : k < 8192 := by omega
      refine (rFrom_spec p hp k ⟨by omega, by omega⟩ wr).mono ?_
      rintro e w16 ⟨rfl, x16⟩
      have z16 := x16.size
      refine ⟨_, _, _, _, rfl, x16.heap (by omega), x16.heap (by omega), x16.heap (by omega), x16.heap (by omega), ?_⟩
      intro w21 e21 w22 e22
      have x22 : Ext w16 w22 := ((Ext.rfl' _).of_alloc e21).of_setRow e22 (Nat.le_refl _)
      have x1622 := x16.tr x22
      have hor22 : OwC w4.heap.size w22 s8 (boxTo p C f t b k) := OwnK.ext hor x1622
      have z22 := x22.size
      have wk : IntKind.wrap .i64 ((k : Int) + 1) = ((k + 1 : Nat) : Int) := by rw [wrap_in (by unfold inI; omega)]; omega
      have wn : IntKind.wrap .i64 ((boxN p f t k : Nat) + 1 : Int) = ((boxN p f t k + 1 : Nat) : Int) := by rw [wrap_in (by unfold inI; omega)]; omega
      rw [wk, wn]
      have hno : inBox f t (cellAt p k) = false → ∃ n15, n15 < n ∧ ([.int .i64 p.1, .int .i64 p.2, .slice s.a s.n s.c] : List Value) = [.int .i64 p.1, .int .i64 p.2, .slice s.a s.n s.c] ∧ ([.int .i64 f.1, .int .i64 f.2.1, .int .i64 f.2.2] : List Value) = [.int .i64 f.1, .int .i64 f.2.1, .int .i64 f.2.2] ∧ ([.int .i64 t.1, .int .i64 t.2.1, .int .i64 t.2.2] : List Value) = [.int .i64 t.1, .int .i64 t.2.1, .int .i64 t.2.2] ∧ ([.int .i64 0, .int .i64 0, .slice none 0 0] : List Value) = [.int .i64 0, .int .i64 0, .slice none 0 0] ∧ ∃ k' : Nat, ((k + 1 : Nat) : Int) = k' ∧ k' + n15 = 8192 ∧ ((boxN p f t k : Nat) : Int) = (boxN p f t k' : Nat) ∧ OwC w4.heap.size w22 s8 (boxTo p C f t b k') ∧ Ext w4 w22 := fun hf => by
        refine ⟨n - 1, by omega, rfl, rfl, rfl, rfl, k + 1, rfl, by omega, ?_, ?_, xr.tr x1622⟩
        · rw [boxN_out hf]
        · rw [← boxTo_out hf]; exact hor22
      have hib := inBox_iff f t (cellAt p k)
      have hf0 : ∀ q : Prop, (inBox f t (cellAt p k) = true → q) → ¬ q → inBox f t (cellAt p k) = false := fun q h1 h2 => by
        cases hq : inBox f t (cellAt p k) with
        | false => rfl
        | true => exact absurd (h1 hq) h2
      refine Br.mk (fun h1 => Br.mk (fun h2 => Br.mk (fun h3 => Br.mk (fun h4 => Br.mk (fun h5 => Br.mk (fun h6 => ?_) (fun h6 => ?_)) (fun h5 => ?_)) (fun h4 => ?_)) (fun h3 => ?_)) (fun h2 => ?_)) (fun h1 => ?_)
      · simp only [decide_eq_true_eq] at h1 h2 h3 h4 h5 h6
        have hin : inBox f t (cellAt p k) = true := hib.2 ⟨⟨h1, h2⟩, ⟨h3, h4⟩, h5, h6⟩
        obtain ⟨y, hy⟩ := get_lt (l := boxTo p C f t b k) (i := k) (by omega)
        have hinb := RdC.inB hor22.rdc (i := k) (by omega)
        obtain ⟨r1, r2, r3, r4, r5⟩ := OwnK.set hor22 (i := k) (j := 0) (r := iv y) (v := .int .i64 b) (by rw [List.getElem?_map, hy]; rfl) (by omega) rfl (by omega)
        have e0 : padd (padd s8.a (k * 1)) 0 = padd s8.a (((k : Nat) : Int).toNat * 1) := by rw [padd_padd, Int.toNat_natCast]; rfl
        rw [e0] at r1 r2 r3 r4 r5
        have hpb : ∀ j : Nat, (j < w4.heap.size ∨ wr.heap.size ≤ j) → pblk (padd s8.a (((k : Nat) : Int).toNat * 1)) ≠ some j := fun j hj e => by
          rw [pblk_padd] at e
          have hb2 : s8.blk = some j := e
          have h1 := hlow j hb2
          have h2 := (hor.own.lt hb2).2
          omega
        refine ⟨hinb, ⟨r1, r2⟩, hpb _ (by omega), hpb _ (by omega), hpb _ (by omega), hpb _ (by omega), hpb _ (by omega), ?_⟩
        rintro w23 rfl
        refine ⟨n - 1, by omega, rfl, rfl, rfl, rfl, k + 1, rfl, by omega, ?_, ?_, (xr.tr x1622).trans r4⟩
        · rw [boxN_in hin]
        · have e1 : ((boxTo p C f t b k).map iv).set k ((iv y).set 0 (.int .i64 b)) = ((boxTo p C f t b k).set k b).map iv := by rw [List.map_set]; rfl
          rw [e1, boxTo_in (by omega) hin] at r3
          exact r3
      · exact hno (hf0 _ (fun h => decide_eq_true (hib.1 h).2.2.2) (by rw [h6]; decide))
      · exact hno (hf0 _ (fun h => decide_eq_true (hib.1 h).2.2.1) (by rw [h5]; decide))
      · exact hno (hf0 _ (fun h => decide_eq_true (hib.1 h).2.1.2) (by rw [h4]; decide))
      · exact hno (hf0 _ (fun h => decide_eq_true (hib.1 h).2.1.1) (by rw [h3]; decide))
      · exact hno (hf0 _ (fun h => decide_eq_true (hib.1 h).1.2) (by rw [h2]; decide))
      · exact hno (hf0 _ (fun h => decide_eq_true (hib.1 h).1.1) (by rw [h1]; decide))
    · simp only [decide_eq_false_iff_not] at hc
      have hk8 : k = 8192 := by omega
      subst hk8
      refine (ref05_Of_spec s8 _ wr hor.rdc (by rw [hcl]; decide)).mono ?_
      rintro e w24 ⟨s25, rfl, ho25, x24⟩
      have z24 := x24.size
      refine ⟨s25, rfl, x24.heap (by omega), x24.heap (by omega), x24.heap (by omega), x24.heap (by omega), ?_⟩
      intro w26 e26 w27 e27
      have xx := (((x3.tr xr).tr x24).of_setRow e26 (Nat.le_refl _)).of_setRow e27 (by omega)
      refine ⟨⟨s25, rfl, ?_⟩, xx⟩
      rw [← hl, boxTo_all] at ho25
      refine OwnK.low (OwnK.keep ho25 fun j hj => ?_) (Nat.zero_le _)
      have := (ho25.own.lt hj).1
      rw [e27, setRow_other _ _ _ _ (by omega), e26, setRow_other _ _ _ _ (by omega)]
theorem rTop_spec {w : World} {s : Sl} {p : Po} {C : List Int} (hs : RdR w s (ofC C)) (hl : C.length = 8192) (x z : Int) :
    Calls Tryd.prog n_ref11_Top #[kv p s, .int .i64 x, .int .i64 z] w fun e w' => e = .returned (.int .i64 (topTo C (col x z) 8192)) ∧ Ext w w' := by
  apply ref11_Top.vc
  obtain ⟨q1, q2, q3⟩ := cells_pos hl
  intro w0 e0
  have z0 : w0.heap.size = w.heap.size + 1 := by rw [e0]; simp
  have x0 : Ext w w0 := (Ext.rfl' w).of_alloc e0
  refine (ref05_Cells_spec s _ w0 (RdK.ext hs x0) q3 q1 q2).mono ?_
  rintro e w1 ⟨s2, rfl, o2, x1⟩
  rw [cells_ofC] at o2
  have hn2 := RdC.len o2.rdc
  have hcb := col_in x z
  refine ⟨s2, rfl, x1.heap (by omega), ?_⟩
  refine ⟨fun n y wr => wr = w1 ∧ y + 1 = n ∧ -1 ≤ y ∧ y ≤ 31 ∧ ∀ k : Nat, (y + 1) * 256 ≤ (k : Int) → k < 8192 → (k : Int) % 256 = col x z → C.getD k 0 = 0, ⟨32, rfl, rfl, rfl, by omega, by omega, fun k h1 h2 => by omega⟩, ?_⟩
  rintro n us y wr ⟨rfl, hy, hlo, hhi, hz⟩
  refine Br.mk (fun hc => ?_) (fun hc => ?_)
  · simp only [decide_eq_true_eq] at hc
    refine (rMod_spec z 16 (by decide) (by decide) wr).mono ?_
    rintro e wq ⟨rfl, rfl⟩
    refine ⟨_, rfl, rfl, (rMod_spec x 16 (by decide) (by decide) wq).mono ?_⟩
    rintro e wq ⟨rfl, rfl⟩
    have a1 : IntKind.wrap .i64 (y * 256) = y * 256 := wrap_in (by unfold inI; omega)
    have a2 : IntKind.wrap .i64 (z % 16 * 16) = z % 16 * 16 := wrap_in (by unfold inI; omega)
    have a3 : IntKind.wrap .i64 (y * 256 + z % 16 * 16) = y * 256 + z % 16 * 16 := wrap_in (by unfold inI; omega)
    have a4 : IntKind.wrap .i64 (y * 256 + z % 16 * 16 + x % 16) = y * 256 + col x z := by unfold col; rw [wrap_in (by unfold inI; omega)]; omega
    have hi : (y * 256 + col x z).toNat < C.length := by omega
    obtain ⟨b, hb⟩ := get_lt (l := C) (i := (y * 256 + col x z).toNat) hi
    have hin := RdC.inB o2.rdc (i := (y * 256 + col x z).toNat) hi
    have hc0 := RdC.c0 o2.rdc hb
    rw [show (((y * 256 + col x z).toNat : Nat) : Int) = y * 256 + col x z from by omega] at hin
    have hgd : C.getD (y * 256 + col x z).toNat 0 = b := by rw [List.getD_eq_getElem?_getD, hb]; rfl
    refine ⟨_, rfl, rfl, ?_⟩
    rw [a1, a2, a3, a4]
    refine ⟨hin, b, hc0, Br.mk (fun hb0 => ?_) (fun hb0 => ?_)⟩
    · have hne : b ≠ 0 := by simpa using hb0
      refine ⟨?_, x0.tr x1⟩
      rw [topTo_at (m := (y * 256 + col x z).toNat) (by omega) (by omega) (by rw [hgd]; exact hne) (fun k h1 h2 h3 => hz k (by omega) h2 h3)]
      congr 2
      omega
    · have he : b = 0 := by simpa using hb0
      have a5 : IntKind.wrap .i64 (y - 1) = y - 1 := wrap_in (by unfold inI; omega)
      rw [a5]
      refine ⟨n - 1, by omega, rfl, rfl, by omega, by omega, by omega, fun k h1 h2 h3 => ?_⟩
      rcases Int.lt_or_le (k : Int) ((y + 1) * 256) with h4 | h4
      · have : k = (y * 256 + col x z).toNat := by omega
        rw [this, hgd, he]
      · exact hz k h4 h2 h3
  · simp only [decide_eq_false_iff_not] at hc
    refine ⟨?_, x0.tr x1⟩
    rw [topTo_none fun k h1 h2 => hz k (by omega) h1 h2]
end Go.Proofs.YtfipllblcnahdaaDoor
namespace Go.Proofs.YtfipllblcnahdaaDoor
open Go Go.Vc Go.RowKit Go.Proofs Go.Chk Go.Runs

/-- A deed: its kind, its block, its two cells. -/
abbrev De := Int × Int × Ce × Ce
abbrev dev (d : De) : Value := .agg #[.int .i64 d.1, .int .i64 d.2.1, .int .i64 d.2.2.1.1, .int .i64 d.2.2.1.2.1, .int .i64 d.2.2.1.2.2, .int .i64 d.2.2.2.1, .int .i64 d.2.2.2.2.1, .int .i64 d.2.2.2.2.2]
def deedK (p : Po) (C : List Int) (d : De) : List Int := if d.1 = 0 then (kFill p C (nearK p d.2.2.1) (nearK p d.2.2.2) d.2.1).1 else (kSet p C (nearK p d.2.2.1) d.2.1).1
theorem deedK_ok {p : Po} {C : List Int} (hl : C.length = 8192) (hm : ∀ b ∈ C, bMay b = true) (d : De) : (deedK p C d).length = 8192 ∧ ∀ x ∈ deedK p C d, bMay x = true := by
  unfold deedK
  split
  · exact kFill_ok hl hm _ _ _
  · exact kSet_ok hl hm _ _
theorem mod_set {F : Nat → Prop} {w w1 w2 : World} (h : Mod F w w1) {g : Nat} {cs : Array Value} (e : w2 = w1.setRow g cs) (hg : w.heap.size ≤ g) : Mod F w w2 := by
  subst e
  exact ⟨h.os, h.tape, h.output, by rw [setRow_size]; exact h.size, fun i hi hn => by rw [setRow_other _ _ _ _ (by omega)]; exact h.same i hi hn⟩
theorem KIs.set {w1 w2 : World} {g : Nat} {s : Sl} {p : Po} {C : List Int} (h : KIs w1 g s p C) {j : Nat} {cs : List Value} {c2 : Array Value} {t : TypeId} (hr : Row w1 j cs t) (ht : t ≠ tChunk ∧ t ≠ tRun) (e : w2 = w1.setRow j c2) : KIs w2 g s p C := by
  refine ⟨h.row.same ?_, OwnK.keep h.own fun b hb => ?_, h.len, h.may⟩
  · rw [e]; exact setRow_other _ _ _ _ (fun e => (h.row.ne hr ht.1.symm) e)
  · obtain ⟨cs', hr'⟩ := own_row h.own (by decide) hb
    rw [e]; exact setRow_other _ _ _ _ (fun e => (hr'.ne hr ht.2.symm) e)
theorem own_set {w1 w2 : World} {s : Sl} {l : List Rn} (h : OwR 0 w1 s l) {j : Nat} {cs : List Value} {c2 : Array Value} {t : TypeId} (hr : Row w1 j cs t) (ht : t ≠ tRun) (e : w2 = w1.setRow j c2) : OwR 0 w2 s l := OwnK.keep h fun b hb => by
  obtain ⟨cs', hr'⟩ := own_row h (by decide) hb
  rw [e]; exact setRow_other _ _ _ _ (fun e => (hr'.ne hr ht.symm) e)
theorem does_spec {w : World} {g : Nat} {s sr : Sl} {p : Po} {C : List Int} (h : KIs w g s p C) (ho : OwR 0 w sr (ofC C)) (hp : okP p) (hsm : smallP p) (d : De) :
    Calls Tryd.prog n_law11_does #[.pointer (some ⟨g, 0, none⟩), kv p sr, dev d] w fun e w' => (∃ sr', e = .returned (.tuple #[kv p sr', .bool true]) ∧ OwR 0 w' sr' (ofC (deedK p C d))) ∧ ∃ s', KIs w' g s' p (deedK p C d) ∧ Mod (fun i => i = g) w w' ∧ (∀ i, s'.blk = some i → s.blk = some i ∨ w.heap.size ≤ i) := by
  apply law11_does.vc
  have hgl := h.row.lt
  intro w0 e0 w1 e1 w2 e2
  have z0 : w0.heap.size = w.heap.size + 1 := by rw [e0]; simp
  have z1 : w1.heap.size = w.heap.size + 2 := by rw [e1]; simp [z0]
  have z2 : w2.heap.size = w.heap.size + 3 := by rw [e2]; simp [z1]
  have x2 : Ext w w2 := (((Ext.rfl' w).of_alloc e0).of_alloc e1).of_alloc e2
  have hb2 : Row w2 w1.heap.size [.int .i64 0, .int .i64 0, .slice none 0 0] tK := by rw [e2]; exact Row.new w1 [_, _, _] _
  clear e0 e1 e2
  refine (Near_spec p hp d.2.2.1 w2).mono ?_
  rintro e w3 ⟨rfl, x3⟩
  have z3 := x3.size
  refine ⟨_, _, _, rfl, x3.heap (by omega), x3.heap (by omega), x3.heap (by omega), ?_⟩
  intro w7 e7 w8 e8
  have x8 : Ext w3 w8 := ((Ext.rfl' _).of_alloc e7).of_setRow e8 (Nat.le_refl _)
  have z8 : w8.heap.size = w3.heap.size + 1 := by rw [e8, setRow_size, e7]; simp
  have x08 := x2.tr (x3.tr x8)
  have hb8 := hb2.ext (x3.tr x8)
  clear e7 e8
  have hok1 := near_ok hp d.2.2.1
  generalize hc : nearK p d.2.2.1 = c at *
  refine Br.mk (fun hk => ?_) (fun hk => ?_)
  · have hd0 : d.1 = 0 := by simpa using hk
    refine (Near_spec p hp d.2.2.2 w8).mono ?_
    rintro e w9 ⟨rfl, x9⟩
    have z9 := x9.size
    refine ⟨_, _, _, rfl, x9.heap (by omega), x9.heap (by omega), x9.heap (by omega), x9.heap (by omega), ?_⟩
    generalize hc2 : nearK p d.2.2.2 = c2 at *
    have hD : deedK p C d = (kFill p C c c2 d.2.1).1 := by unfold deedK; rw [if_pos hd0, hc, hc2]
    rw [hD]
    intro w13 e13 w14 e14
    have x14 : Ext w9 w14 := ((Ext.rfl' _).of_alloc e13).of_setRow e14 (Nat.le_refl _)
    have z14 : w14.heap.size = w9.heap.size + 1 := by rw [e14, setRow_size, e13]; simp
    have x014 := x08.tr (x9.tr x14)
    have hb14 := hb8.ext (x9.tr x14)
    clear e13 e14
    refine (rFill_spec (OwnK.ext ho x014) h.len hp c c2 d.2.1).mono ?_
    rintro e w15 ⟨⟨s18, rfl, o18⟩, x15⟩
    have z15 := x15.size
    refine ⟨_, _, s18, _, _, rfl, x15.heap (by omega), x15.heap (by omega), x15.heap (by omega), x15.heap (by omega), x15.heap (by omega), ?_⟩
    intro w21 e21 w22 e22
    have x22 : Ext w15 w22 := ((Ext.rfl' _).of_alloc e21).of_setRow e22 (Nat.le_refl _)
    have z22 : w22.heap.size = w15.heap.size + 1 := by rw [e22, setRow_size, e21]; simp
    have x022 := x014.tr (x15.tr x22)
    have hb22 := hb14.ext (x15.tr x22)
    have o22 : OwR 0 w22 s18 _ := OwnK.ext o18 x22
    clear e21 e22
    refine (Fill_spec (h.ext x022) hsm c c2 d.2.1).mono ?_
    rintro e w23 ⟨rfl, s24, h24, m24, f24⟩
    have hz := m24.size
    have ne : ∀ j, w.heap.size ≤ j → j < w22.heap.size → w23.heap[j]? = w22.heap[j]? := fun j h1 h2 => m24.same j h2 (by omega)
    have hsame : ∀ j, w.heap.size ≤ j → j < w22.heap.size → w23.heap[j]? = w22.heap[j]? := ne
    refine ⟨_, _, rfl, ne _ (by omega) (by omega), ne _ (by omega) (by omega), ne _ (by omega) (by omega), ne _ (by omega) (by omega), ne _ (by omega) (by omega), ne _ (by omega) (by omega), Br.mk (fun _ => ?_) (fun h => by simp at h)⟩
    intro w26 e26
    have hb23 := hb22.same (ne _ (by omega) (by omega))
    have o23 : OwR 0 w23 s18 _ := m24.ownK o22 fun i hi => by
      obtain ⟨cs', hr'⟩ := own_row o22 (by decide) hi
      exact hr'.ne (h.row.ext x022) (by decide)
    refine ⟨⟨s18, by simp, own_set o23 hb23 (by decide) e26⟩, s24, h24.set hb23 (by decide) e26, ?_, fun i hi => ?_⟩
    · exact mod_set ((Mod.of_ext x022).trans m24) e26 (by omega)
    · rcases f24 i hi with h1 | h1
      · exact .inl h1
      · exact .inr (by have := x022.size; omega)
  · have hd0 : d.1 ≠ 0 := by simpa using hk
    have hD : deedK p C d = (kSet p C c d.2.1).1 := by unfold deedK; rw [if_neg hd0, hc]
    rw [hD]
    refine (rSet_spec (OwnK.ext ho x08) h.len c hok1 d.2.1).mono ?_
    rintro e w28 ⟨⟨s31, rfl, o31⟩, x28⟩
    have z28 := x28.size
    refine ⟨_, _, s31, _, rfl, x28.heap (by omega), x28.heap (by omega), x28.heap (by omega), x28.heap (by omega), ?_⟩
    intro w33 e33 w34 e34
    have x34 : Ext w28 w34 := ((Ext.rfl' _).of_alloc e33).of_setRow e34 (Nat.le_refl _)
    have z34 : w34.heap.size = w28.heap.size + 1 := by rw [e34, setRow_size, e33]; simp
    have hr34 : Row w34 w28.heap.size [.int .i64 p.1, .int .i64 p.2, .slice s31.a s31.n s31.c] tK := by
      have : Row w33 w28.heap.size [.int .i64 0, .int .i64 0, .slice none 0 0] tK := by rw [e33]; exact Row.new w28 [_, _, _] _
      rw [e34]; exact this.set [_, _, _]
    have x034 := x08.tr (x28.tr x34.drew)
    have hb34 := hb8.ext (x28.tr x34.drew)
    have o34 : OwR 0 w34.drew s31 _ := OwnK.ext o31 x34.drew
    have zd : w34.drew.heap.size = w34.heap.size := rfl
    clear e33 e34
    refine (Set_spec (h.ext x034) c hok1 d.2.1).mono ?_
    rintro e w35 ⟨rfl, s36, h36, m36, f36⟩
    have hz := m36.size
    have ne : ∀ j, w.heap.size ≤ j → j < w34.heap.size → w35.heap[j]? = w34.drew.heap[j]? := fun j h1 h2 => m36.same j h2 (by omega)
    have hr35 : Row w35 w28.heap.size [.int .i64 p.1, .int .i64 p.2, .slice s31.a s31.n s31.c] tK := (rdrew hr34).same (ne _ (by omega) (by omega))
    refine ⟨_, rfl, ne _ (by omega) (by omega), ne _ (by omega) (by omega), ne _ (by omega) (by omega), ne _ (by omega) (by omega), ne _ (by omega) (by omega), hr35.loadL (fun j hj => by rw [Nat.zero_add]), ?_⟩
    intro w37 e37
    have hb35 := hb34.same (ne _ (by omega) (by omega))
    have o35 : OwR 0 w35 s31 _ := m36.ownK o34 fun i hi => by
      obtain ⟨cs', hr'⟩ := own_row o34 (by decide) hi
      exact hr'.ne (h.row.ext x034) (by decide)
    refine ⟨⟨s31, by simp, own_set o35 hb35 (by decide) e37⟩, s36, h36.set hb35 (by decide) e37, ?_, fun i hi => ?_⟩
    · exact mod_set ((Mod.of_ext x034).trans m36) e37 (by omega)
    · rcases f36 i hi with h1 | h1
      · exact .inl h1
      · exact .inr (by have := x034.size; omega)
end Go.Proofs.YtfipllblcnahdaaDoor
namespace Go.Proofs.YtfipllblcnahdaaDoor
open Go Go.Vc Go.RowKit Go.Proofs Go.Chk Go.Runs

theorem yes {b : Bool} {A B : Prop} (hb : b = true) (h : A) : Br b A B := by subst hb; exact h
theorem nope {b : Bool} {A B : Prop} (hb : b = false) (h : B) : Br b A B := by subst hb; exact h
theorem nnS {a : Addr} {K : Prop} (h : K) : AndL (nnC (some a)) K := h
abbrev dvs (d : De) : List Value := [.int .i64 d.1, .int .i64 d.2.1, .int .i64 d.2.2.1.1, .int .i64 d.2.2.1.2.1, .int .i64 d.2.2.1.2.2, .int .i64 d.2.2.2.1, .int .i64 d.2.2.2.2.1, .int .i64 d.2.2.2.2.2]
/-- The cells behind the first k deeds. -/
def deedsK (P : Po) (C : List Int) (z : List De) (k : Nat) : List Int := (z.take k).foldl (deedK P) C
theorem deedsK_zero (P : Po) (C : List Int) (z : List De) : deedsK P C z 0 = C := rfl
theorem deedsK_succ {P : Po} {C : List Int} {z : List De} {k : Nat} {d : De} (h : z[k]? = some d) : deedsK P C z (k + 1) = deedK P (deedsK P C z k) d := by
  unfold deedsK
  rw [List.take_add_one, h, List.foldl_append]; rfl
theorem place_small (p : Po) : smallP (placeK p) := by
  have h1 := around_bd p.1 19 (by decide)
  have h2 := around_bd p.2 19 (by decide)
  unfold smallP placeK
  simp only
  omega
/-- A chunk, and the document's, beside each other: b0: the box of the place; b1: the box of the document's chunk. -/
structure Pl (w wr : World) (g : Nat) (sg sr : Sl) (P : Po) (C : List Int) (b0 b1 : Nat) : Prop where
  k : KIs wr g sg P C
  o : OwR 0 wr sr (ofC C)
  x : Ext w wr
  g0 : w.heap.size ≤ g
  r0 : Row wr b0 [.int .i64 P.1, .int .i64 P.2] tPo
  r1 : Row wr b1 [.int .i64 P.1, .int .i64 P.2, .slice sr.a sr.n sr.c] tK
  h1 : w.heap.size ≤ b1
theorem Pl.ext {w wr w2 : World} {g : Nat} {sg sr : Sl} {P : Po} {C : List Int} {b0 b1 : Nat} (h : Pl w wr g sg sr P C b0 b1) (x : Ext wr w2) : Pl w w2 g sg sr P C b0 b1 :=
  ⟨h.k.ext x, OwnK.ext h.o x, h.x.tr x, h.g0, h.r0.ext x, h.r1.ext x, h.h1⟩
theorem keepb {w1 w2 : World} {g : Nat} {s : Sl} {P : Po} {C : List Int} (hk : KIs w1 g s P C) (hm : Mod (fun i => i = g) w1 w2) {j : Nat} {cs : List Value} {t : TypeId} (hr : Row w1 j cs t) (ht : t ≠ tChunk) : w2.heap[j]? = w1.heap[j]? := hm.same j hr.lt (hr.ne hk.row ht)
theorem Pl.fin {w wr we wf : World} {g : Nat} {sg sr s' sr' : Sl} {P : Po} {C C' : List Int} {b0 b1 : Nat} (h : Pl w wr g sg sr P C b0 b1) (hk : KIs we g s' P C') (ho : OwR 0 we sr' (ofC C')) (hm : Mod (fun i => i = g) wr we)
    (e : wf = we.setRow b1 #[.int .i64 P.1, .int .i64 P.2, .slice sr'.a sr'.n sr'.c]) : Pl w wf g s' sr' P C' b0 b1 ∧ Mod (fun i => i = g ∨ i = b1) wr wf ∧ wf.heap.size = we.heap.size := by
  have hr1 := h.r1.same (keepb h.k hm h.r1 (by decide))
  have hr0 := h.r0.same (keepb h.k hm h.r0 (by decide))
  have n01 : b0 ≠ b1 := h.r0.ne h.r1 (by decide)
  refine ⟨⟨hk.set hr1 (by decide) e, own_set ho hr1 (by decide) e, ?_, h.g0, hr0.same (by rw [e]; exact setRow_other _ _ _ _ n01), by rw [e]; exact hr1.set [_, _, _], h.h1⟩, ?_, by rw [e, setRow_size]⟩
  · exact (Turn_k hm h.x h.g0).of_setRow e h.h1
  · rw [e]
    exact ⟨hm.os, hm.tape, hm.output, by rw [setRow_size]; exact hm.size, fun i hi hn => by
      rw [setRow_other _ _ _ _ (fun e => hn (.inr e))]
      exact hm.same i hi fun e => hn (.inl e)⟩
theorem Pl.roundA {w wr wd wx we wf : World} {g : Nat} {sg sr s' sr' : Sl} {P : Po} {C C' : List Int} {b0 b1 : Nat} (h : Pl w wr g sg sr P C b0 b1) (hk : KIs wd g s' P C') (ho : OwR 0 wd sr' (ofC C')) (hm : Mod (fun i => i = g) wr.drew wd)
    {cs c2 : Array Value} {t : TypeId} (ex : wx = wd.alloc (.cells cs t)) (ee : we = wx.setRow wd.heap.size c2)
    (e : wf = we.setRow b1 #[.int .i64 P.1, .int .i64 P.2, .slice sr'.a sr'.n sr'.c]) : Pl w wf g s' sr' P C' b0 b1 ∧ Mod (fun i => i = g ∨ i = b1) wr wf ∧ wf.heap.size = wd.heap.size + 1 := by
  have x : Ext wd we := ((Ext.rfl' _).of_alloc ex).of_setRow ee (Nat.le_refl _)
  obtain ⟨q1, q2, q3⟩ := h.fin (hk.ext x) (OwnK.ext ho x) (((Mod.of_ext (Ext.dr wr)).trans hm).trans (Mod.of_ext x)) e
  exact ⟨q1, q2, by rw [q3, ee, setRow_size, ex]; simp⟩
theorem Pl.roundB {w wr wq wd we wf : World} {g : Nat} {sg sr s' sr' : Sl} {P : Po} {C C' : List Int} {b0 b1 : Nat} (h : Pl w wr g sg sr P C b0 b1) (eq : wq = wr.drew.alloc (.cells #[.int .i64 0, .int .i64 0, .slice none 0 0] tK))
    (hk : KIs wd g s' P C') (ho : OwR 0 wd sr' (ofC C')) (hm : Mod (fun i => i = g) wq wd) {c2 : Array Value} (ee : we = wd.setRow wr.drew.heap.size c2)
    (e : wf = we.setRow b1 #[.int .i64 P.1, .int .i64 P.2, .slice sr'.a sr'.n sr'.c]) : Pl w wf g s' sr' P C' b0 b1 ∧ Mod (fun i => i = g ∨ i = b1) wr wf ∧ wf.heap.size = wd.heap.size := by
  have hq : Row wq wr.drew.heap.size [.int .i64 0, .int .i64 0, .slice none 0 0] tK := by rw [eq]; exact Row.new wr.drew [_, _, _] _
  have hxq : Ext wr wq := (Ext.dr wr).of_alloc eq
  have hd := hq.same (keepb (h.k.ext hxq) hm hq (by decide))
  have hmd : Mod (fun i => i = g) wr wd := (Mod.of_ext hxq).trans hm
  obtain ⟨q1, q2, q3⟩ := h.fin (hk.set hd (by decide) ee) (own_set ho hd (by decide) ee) (mod_set hmd ee (Nat.le_refl _)) e
  exact ⟨q1, q2, by rw [q3, ee, setRow_size]⟩
theorem Pl.lt0 {w wr : World} {g : Nat} {sg sr : Sl} {P : Po} {C : List Int} {b0 b1 : Nat} (h : Pl w wr g sg sr P C b0 b1) : b0 < wr.heap.size ∧ b1 < wr.heap.size ∧ g < wr.heap.size := ⟨h.r0.lt, h.r1.lt, h.k.row.lt⟩
/-- What a deed finds: the row of a list of deeds. -/
theorem deeds_row {w wr : World} {s : Sl} {z : List De} (hz : RdK w s 8 (z.map dvs)) (x : Ext w wr) {k : Nat} (hk : k < z.length) : ∃ d, z[k]? = some d ∧ LoadL wr (padd s.a (k * 8)) 0 (dvs d) ∧ InB s.a (k : Int) s.n := by
  obtain ⟨d, hd⟩ := get_lt hk
  have h2 := RdK.ext hz x
  refine ⟨d, hd, h2.loadL (by rw [List.getElem?_map, hd]; rfl), RdK.inB h2 (by decide) (by omega) ?_⟩
  have := hz.n
  rw [List.length_map] at this
  omega
end Go.Proofs.YtfipllblcnahdaaDoor
