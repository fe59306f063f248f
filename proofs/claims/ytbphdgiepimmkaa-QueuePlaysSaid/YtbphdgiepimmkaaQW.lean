import Derived.Test.YtbphdgiepimmkaaQC
set_option linter.all false
namespace Go.Proofs.Ytbphdgiepimmkaa
open Go Go.Vc Go.RowKit Go.Proofs Go.Que

theorem qsmall_spec (c : Cl) (hi : inI c.1 ∧ inI c.2.1 ∧ inI c.2.2) (w : World) : Calls Try.prog n_law17_small #[cv c] w fun e w' => e = .returned (cv (around c.1 3, around c.2.1 3, around c.2.2 3)) ∧ Ext w w' := by
  apply law17_small.vc
  intro w0 e0 w1 e1
  have x1 : Ext w w1.drew := (((Ext.rfl' w).of_alloc e0).of_alloc e1).drew
  have z0 : w0.heap.size = w.heap.size + 1 := by rw [e0]; simp
  have hb : Row w1.drew w.heap.size (clv c) tCell := ((by rw [e0]; exact Row.new w [_, _, _] _ : Row w0 w.heap.size (clv c) tCell).ext ((Ext.rfl' _).of_alloc e1)).ext (Ext.dr _)
  refine (around_spec c.1 3 w1.drew hi.1 (by decide) (by unfold inI; omega)).mono ?_
  rintro e w2 ⟨rfl, rfl⟩
  refine ⟨_, rfl, rfl, rfl, hb.loadL (fun j hj => by simp at hj; subst hj; rfl), hb.loadL (fun j hj => by simp at hj; subst hj; rfl), ?_⟩
  refine (around_spec c.2.1 3 w1.drew hi.2.1 (by decide) (by unfold inI; omega)).mono ?_
  rintro e w2 ⟨rfl, rfl⟩
  refine ⟨_, rfl, rfl, rfl, hb.loadL (fun j hj => by simp at hj; subst hj; rfl), ?_⟩
  refine (around_spec c.2.2 3 w1.drew hi.2.2 (by decide) (by unfold inI; omega)).mono ?_
  rintro e w2 ⟨rfl, rfl⟩
  refine ⟨_, rfl, rfl, rfl, ?_⟩
  intro w8 e8
  exact ⟨rfl, x1.of_setRow e8 (by omega)⟩
/-- The cells' place is near. -/
def near (c : Cl) : Cl := (around c.1 3, around c.2.1 3, around c.2.2 3)
/-- What a deed makes of a queue. -/
def deed (q : QS) (k n m : Int) (c : Cl) : QS :=
  if k = 0 then (qadd q c n).1 else if k = 1 then (qdue q n m).1 else if k = 2 then { q with l := qdrop q.l c } else (qput q [(n, c), (m, (c.1 + 1, c.2.1, c.2.2))]).1
theorem deed_ok {q : QS} (h : QOk q) (k n m : Int) (c : Cl) : QOk (deed q k n m c) := by
  unfold deed
  split
  · exact h.add _ _
  · split
    · exact h.due _ _
    · split
      · exact h.drop _
      · exact h.put _
theorem deed_lost {q : QS} (k n m : Int) (c : Cl) : q.lost ≤ (deed q k n m c).lost ∧ (deed q k n m c).lost ≤ q.lost + 2 := by
  unfold deed
  split
  · have := qadd_lost q c n; omega
  · split
    · exact ⟨Int.le_refl _, by show q.lost ≤ _; omega⟩
    · split
      · exact ⟨Int.le_refl _, by show q.lost ≤ _; omega⟩
      · simp only [qput]
        have h1 := qadd_lost q c n
        have h2 := qadd_lost (qadd q c n).1 (c.1 + 1, c.2.1, c.2.2) m
        omega
theorem setRow_mod {w w' : World} {b : Nat} {cs : Array Value} (e : w' = w.setRow b cs) : Mod (fun i => i = b) w w' := by
  rw [e]; exact ⟨rfl, rfl, rfl, by rw [setRow_size]; exact Nat.le_refl _, fun i _ hn => setRow_other _ _ _ _ hn⟩
theorem box_row {w w1 w2 : World} {a b : Int} {s : Sl} (e1 : w1 = w.alloc (.cells #[.int .i64 0, .int .i64 0, .slice none 0 0] 43)) (e2 : w2 = w1.setRow w.heap.size #[.int .i64 a, .int .i64 b, .slice s.a s.n s.c]) :
    Row w2 w.heap.size [.int .i64 a, .int .i64 b, .slice s.a s.n s.c] 43 ∧ Ext w w2 ∧ w2.heap.size = w.heap.size + 1 := by
  have : Row w1 w.heap.size [.int .i64 0, .int .i64 0, .slice none 0 0] 43 := by rw [e1]; exact Row.new w [_, _, _] _
  refine ⟨by rw [e2]; exact this.set [_, _, _], ((Ext.rfl' _).of_alloc e1).of_setRow e2 (Nat.le_refl _), by rw [e2, setRow_size, e1]; simp⟩
/-- Of a queue, and of the document's, the same. -/
theorem qdoes_spec {w : World} {g m : Nat} {s r : Sl} {q : QS} (h : QIs w g m s q) (hr : OwnK 0 tX 4 w r (q.l.map itv)) (hq : QOk q) (hl : 0 ≤ q.lost ∧ q.lost ≤ 900000) (k n mo : Int) (c : Cl) (hc : inI c.1 ∧ inI c.2.1 ∧ inI c.2.2) :
    Calls Try.prog n_law17_does #[.pointer (some ⟨g, 0, none⟩), .agg #[.int .i64 q.room, .int .i64 q.lost, .slice r.a r.n r.c], .agg #[.int .i64 k, .int .i64 n, .int .i64 mo, .int .i64 c.1, .int .i64 c.2.1, .int .i64 c.2.2]] w fun e w' =>
      ∃ s' r' : Sl, e = .returned (.tuple #[.agg #[.int .i64 (deed q k n mo (near c)).room, .int .i64 (deed q k n mo (near c)).lost, .slice r'.a r'.n r'.c], .bool true]) ∧ QIs w' g m s' (deed q k n mo (near c)) ∧ OwnK 0 tX 4 w' r' ((deed q k n mo (near c)).l.map itv) ∧ Turned (Foot g m s) (Foot g m s') w w' := by
  apply law17_does.vc
  intro w0 e0 w1 e1 w2 e2
  have x2 : Ext w w2 := (((Ext.rfl' w).of_alloc e0).of_alloc e1).of_alloc e2
  have z0 : w0.heap.size = w.heap.size + 1 := by rw [e0]; simp
  have z1 : w1.heap.size = w.heap.size + 2 := by rw [e1]; simp [z0]
  have z2 : w2.heap.size = w.heap.size + 3 := by rw [e2]; simp [z1]
  have hb1 : Row w2 w1.heap.size [.int .i64 0, .int .i64 0, .slice none 0 0] 43 := by rw [e2]; exact Row.new w1 [_, _, _] _
  refine (qsmall_spec c hc w2).mono ?_
  rintro e w3 ⟨rfl, x3⟩
  have z3 := x3.size
  refine ⟨_, _, _, rfl, ?_⟩
  (repeat (refine And.intro ((x3).block _ (by omega)) ?_))
  intro w7 e7 w8 e8
  have x8 : Ext w3 w8 := ((Ext.rfl' _).of_alloc e7).of_setRow e8 (Nat.le_refl _)
  have z8 : w8.heap.size = w3.heap.size + 1 := by rw [e8, setRow_size, e7]; simp
  have x08 : Ext w w8 := (x2.tr x3).tr x8
  have h8 := h.ext x08
  have hr8 := hr.ext x08
  have hlt := h.lt
  show Br _ _ _
  generalize hnc : near c = d
  have hd1 : around c.1 3 = d.1 := by rw [← hnc]; rfl
  have hd2 : around c.2.1 3 = d.2.1 := by rw [← hnc]; rfl
  have hd3 : around c.2.2 3 = d.2.2 := by rw [← hnc]; rfl
  have hdb : 0 ≤ d.1 ∧ d.1 < 3 := by rw [← hd1]; exact around_bd _ 3 (by decide)
  rw [hd1, hd2, hd3]
  -- the box of the answer
  have hbox : ∀ {w' : World}, Ext w2 w' → Row w' w1.heap.size [.int .i64 0, .int .i64 0, .slice none 0 0] 43 := fun x => hb1.ext x
  refine Br.mk (fun hk => ?_) (fun hk => Br.mk (fun hk1 => ?_) (fun hk1 => Br.mk (fun hk2 => ?_) (fun hk2 => ?_)))
  · have hk0 : k = 0 := by simpa using hk
    have ed : deed q k n mo d = (qadd q d n).1 := by unfold deed; rw [if_pos hk0]
    rw [ed]
    refine (rAdd_spec hr8 hq ⟨hl.1, by omega⟩ d n).mono ?_
    rintro e w9 ⟨⟨r9, rfl, ho9⟩, x9⟩
    have z9 := x9.size
    refine ⟨_, _, r9, _, rfl, ?_⟩
    (repeat (refine And.intro ((x9).block _ (by omega)) ?_))
    intro w14 e14 w15 e15
    obtain ⟨hb15, x15, z15⟩ := box_row e14 e15
    have x15d := x15.drew
    have h15 := (h8.ext x9).ext x15d
    refine (Add_spec h15 hq ⟨hl.1, by omega⟩ d n).mono ?_
    rintro e w16 ⟨rfl, s16, h16, t16⟩
    have zd : w15.drew.heap.size = w15.heap.size := rfl
    refine ⟨_, rfl, ?_⟩
    (repeat (refine And.intro ((t16).mod.same _ (by omega) (fun hf => by have := hlt _ hf; omega)) ?_))
    have hb16 := t16.mod.row (hb15.ext (Ext.dr _)) (h15.no_row (hb15.ext (Ext.dr _)) (by decide) (by decide))
    refine ⟨hb16.loadL (fun j hj => by rw [Nat.zero_add]), fun w18 e18 => ?_⟩
    (
      have hm18 := setRow_mod e18
      have hb16' := (t16).mod.row (hbox ((x3.tr x8).tr (x9.tr x15d))) (fun hf => by have := hlt _ hf; omega)
      have ho16 := (t16).mod.ownK (ho9.ext x15d) (fun b hb => (h15).no_own (ho9.ext x15d) (by decide) (by decide) (by decide) b hb)
      refine ⟨_, _, ?_, (h16).keep hm18 (fun b hb hf => ?_), hm18.ownK ho16 (fun b hb hf => ?_), ?_⟩
      rotate_left
      · exact (h16).no_row hb16' (by decide) (by decide) (show Foot _ _ _ w1.heap.size from hf ▸ hb)
      · obtain ⟨cs, hrr⟩ := own_row ho16 (by decide) hb
        exact hrr.ne hb16' (by decide) hf
      · have t1 := (Turned.of_ext ((x08.tr x9).tr x15d)).trans t16
        exact ⟨t1.mod.tr hm18 (fun i hi => .inr (by omega)), t1.sub⟩)
    simp
  · have hk1' : k = 1 := by simpa using hk1
    have ed : deed q k n mo d = (qdue q n mo).1 := by unfold deed; rw [if_neg (by omega), if_pos hk1']
    rw [ed]
    refine (rDue_spec hr8 hq n mo).mono ?_
    rintro e w9 ⟨⟨r9, c9, rfl, ho9, hc9⟩, x9⟩
    have z9 := x9.size
    refine ⟨_, _, r9, c9, rfl, ?_⟩
    (repeat (refine And.intro ((x9).block _ (by omega)) ?_))
    intro w14 e14 w15 e15
    obtain ⟨hb15, x15, z15⟩ := box_row e14 e15
    have x15d := x15.drew
    have h15 := (h8.ext x9).ext x15d
    refine (Due_spec h15 hq n mo).mono ?_
    rintro e w16 ⟨so, rfl, s16, hso, h16, t16⟩
    have zd : w15.drew.heap.size = w15.heap.size := rfl
    have zt := t16.mod.size
    refine ⟨so, rfl, ?_⟩
    (repeat (refine And.intro ((t16).mod.same _ (by omega) (fun hf => by have := hlt _ hf; omega)) ?_))
    have hb16 := t16.mod.row (hb15.ext (Ext.dr _)) (h15.no_row (hb15.ext (Ext.dr _)) (by decide) (by decide))
    refine ⟨hb16.loadL (fun j hj => by rw [Nat.zero_add]), ?_⟩
    have hc15 := hc9.ext x15d
    have hc16 := t16.mod.ownK hc15 (fun b hb => h15.no_own hc15 (by decide) (by decide) (by decide) b hb)
    have hll := hq.len
    have hlr := hq.room
    refine (rSame_spec (hso.rd (by decide)) (hc16.rd (by decide)) (by unfold qdue; simp; omega)).mono ?_
    rintro e w28 ⟨rfl, x28⟩
    refine ⟨_, rfl, ?_⟩
    (repeat (refine And.intro ((x28).block _ (by omega)) ?_))
    refine ⟨(hb16.ext x28).loadL (fun j hj => by rw [Nat.zero_add]), fun w18 e18 => ?_⟩
    (
      have hm18 := setRow_mod e18
      have hb16' := ((t16.trans (Turned.of_ext x28))).mod.row (hbox ((x3.tr x8).tr (x9.tr x15d))) (fun hf => by have := hlt _ hf; omega)
      have ho16 := ((t16.trans (Turned.of_ext x28))).mod.ownK (ho9.ext x15d) (fun b hb => (h15).no_own (ho9.ext x15d) (by decide) (by decide) (by decide) b hb)
      refine ⟨_, _, ?_, ((h16.ext x28)).keep hm18 (fun b hb hf => ?_), hm18.ownK ho16 (fun b hb hf => ?_), ?_⟩
      rotate_left
      · exact ((h16.ext x28)).no_row hb16' (by decide) (by decide) (show Foot _ _ _ w1.heap.size from hf ▸ hb)
      · obtain ⟨cs, hrr⟩ := own_row ho16 (by decide) hb
        exact hrr.ne hb16' (by decide) hf
      · have t1 := (Turned.of_ext ((x08.tr x9).tr x15d)).trans (t16.trans (Turned.of_ext x28))
        exact ⟨t1.mod.tr hm18 (fun i hi => .inr (by omega)), t1.sub⟩)
    simp
  · have hk2' : k = 2 := by simpa using hk2
    have ed : deed q k n mo d = { q with l := qdrop q.l d } := by unfold deed; rw [if_neg (by omega), if_neg (by omega), if_pos hk2']
    rw [ed]
    have hll := hq.len
    have hlr := hq.room
    refine (rDrop_spec hr8 hq.nodup (by omega) q.room q.lost d).mono ?_
    rintro e w9 ⟨⟨r9, rfl, ho9⟩, x9⟩
    have z9 := x9.size
    refine ⟨_, _, r9, _, rfl, ?_⟩
    (repeat (refine And.intro ((x9).block _ (by omega)) ?_))
    intro w14 e14 w15 e15
    obtain ⟨hb15, x15, z15⟩ := box_row e14 e15
    have x15d := x15.drew
    have h15 := (h8.ext x9).ext x15d
    refine (Drop_spec h15 hq d).mono ?_
    rintro e w16 ⟨rfl, s16, h16, t16⟩
    have zd : w15.drew.heap.size = w15.heap.size := rfl
    have zt := t16.mod.size
    refine ⟨_, rfl, ?_⟩
    (repeat (refine And.intro ((t16).mod.same _ (by omega) (fun hf => by have := hlt _ hf; omega)) ?_))
    have hb16 := t16.mod.row (hb15.ext (Ext.dr _)) (h15.no_row (hb15.ext (Ext.dr _)) (by decide) (by decide))
    refine ⟨hb16.loadL (fun j hj => by rw [Nat.zero_add]), fun w18 e18 => ?_⟩
    (
      have hm18 := setRow_mod e18
      have hb16' := (t16).mod.row (hbox ((x3.tr x8).tr (x9.tr x15d))) (fun hf => by have := hlt _ hf; omega)
      have ho16 := (t16).mod.ownK (ho9.ext x15d) (fun b hb => (h15).no_own (ho9.ext x15d) (by decide) (by decide) (by decide) b hb)
      refine ⟨_, _, ?_, (h16).keep hm18 (fun b hb hf => ?_), hm18.ownK ho16 (fun b hb hf => ?_), ?_⟩
      rotate_left
      · exact (h16).no_row hb16' (by decide) (by decide) (show Foot _ _ _ w1.heap.size from hf ▸ hb)
      · obtain ⟨cs, hrr⟩ := own_row ho16 (by decide) hb
        exact hrr.ne hb16' (by decide) hf
      · have t1 := (Turned.of_ext ((x08.tr x9).tr x15d)).trans t16
        exact ⟨t1.mod.tr hm18 (fun i hi => .inr (by omega)), t1.sub⟩)
    simp
  · have hk0' : k ≠ 0 := by simpa using hk
    have hk1' : k ≠ 1 := by simpa using hk1
    have hk2' : k ≠ 2 := by simpa using hk2
    have ed : deed q k n mo d = (qput q [(n, d), (mo, (d.1 + 1, d.2.1, d.2.2))]).1 := by unfold deed; rw [if_neg hk0', if_neg hk1', if_neg hk2']
    rw [ed]
    have hwd : IntKind.wrap .i64 (d.1 + 1) = d.1 + 1 := wrap_in (by unfold inI; omega)
    rw [hwd]
    intro w41 e41 w42 e42
    have x42 : Ext w8 w42 := ((Ext.rfl' _).of_alloc e41).of_setRow e42 (Nat.le_refl _)
    have z42 : w42.heap.size = w8.heap.size + 1 := by rw [e42, setRow_size, e41]; simp
    refine (rAdd_spec (hr8.ext x42) hq ⟨hl.1, by omega⟩ d n).mono ?_
    rintro e w43 ⟨⟨r43, rfl, ho43⟩, x43⟩
    have z43 := x43.size
    have hlo := qadd_lost q d n
    have hok1 := hq.add d n
    have hlo2 := qadd_lost (qadd q d n).1 (d.1 + 1, d.2.1, d.2.2) mo
    have hpx : qput q [(n, d), (mo, (d.1 + 1, d.2.1, d.2.2))] = ((qadd (qadd q d n).1 (d.1 + 1, d.2.1, d.2.2) mo).1, (if (qadd q d n).2 then 1 else 0) + ((if (qadd (qadd q d n).1 (d.1 + 1, d.2.1, d.2.2) mo).2 then 1 else 0) + 0)) := rfl
    refine ⟨_, _, r43, _, rfl, ?_⟩
    (repeat (refine And.intro ((x43).block _ (by omega)) ?_))
    intro w48 e48 w49 e49
    obtain ⟨hb49, x49, z49⟩ := box_row e48 e49
    refine (rAdd_spec (ho43.ext x49) hok1 ⟨by omega, by omega⟩ (d.1 + 1, d.2.1, d.2.2) mo).mono ?_
    rintro e w50 ⟨⟨r50, rfl, ho50⟩, x50⟩
    have z50 := x50.size
    refine ⟨_, _, r50, _, rfl, ?_⟩
    (repeat (refine And.intro ((x50).block _ (by omega)) ?_))
    intro w55 e55 w56 e56
    obtain ⟨hb56, x56, z56⟩ := box_row e55 e56
    have xw : Ext w w56.drew := (x08.tr (x42.tr (x43.tr (x49.tr (x50.tr x56))))).drew
    have xw2 : Ext w2 w56.drew := ((x3.tr x8).tr (x42.tr (x43.tr (x49.tr (x50.tr x56))))).drew
    have h56 := h.ext xw
    have ho56 := (ho50.ext x56).ext (Ext.dr _)
    have hb56d := hb56.ext (Ext.dr w56)
    have zd : w56.drew.heap.size = w56.heap.size := rfl
    have xo := x56.drew
    refine Br.mk (fun hc1 => Br.mk (fun hc2 => ⟨?_, ?_⟩) (fun hc2 => ⟨?_, ?_⟩)) (fun hc1 => Br.mk (fun hc2 => ⟨?_, ?_⟩) (fun hc2 => ⟨?_, ?_⟩))
    all_goals
      intro w57 e57
      have x57 : Ext w56.drew w57 := (Ext.rfl' _).of_alloc e57
      have z57 : w57.heap.size = w56.drew.heap.size + 1 := by rw [e57]; simp
      have hr57 : Row w57 w56.drew.heap.size ([itv (n, d), itv (mo, (d.1 + 1, d.2.1, d.2.2))].flatten) 36 := by rw [e57]; exact Row.new _ [_, _, _, _, _, _, _, _] _
      have hrd57 : RdK w57 ⟨some ⟨w56.drew.heap.size, 0, none⟩, 2, 2⟩ 4 ([((n, d) : It), (mo, (d.1 + 1, d.2.1, d.2.2))].map itv) := row_rdK (rows := [itv (n, d), itv (mo, (d.1 + 1, d.2.1, d.2.2))]) hr57 (by simp) rfl
      have hblk : ∀ b, (⟨some ⟨w56.drew.heap.size, 0, none⟩, 2, 2⟩ : Sl).blk = some b → b = w56.drew.heap.size := fun b hb => by
        have : w56.drew.heap.size = b := by simpa [Sl.blk] using hb
        omega
      refine (Put_spec (a := ⟨some ⟨w56.drew.heap.size, 0, none⟩, 2, 2⟩) (h56.ext x57) hq ⟨hl.1, by show q.lost + ((2 : Nat) : Int) ≤ _; omega⟩ hrd57 (fun b hb => by have := hblk b hb; omega) (fun b hb hf => by have := hblk b hb; have := hlt _ hf; have := xw.size; omega)).mono ?_
      rintro e w58 ⟨rfl, s58, h58, t58⟩
      have z58 := t58.mod.size
      refine ⟨_, rfl, ?_⟩
      (repeat (refine And.intro ((t58).mod.same _ (by omega) (fun hf => by have := hlt _ hf; omega)) ?_))
      have hb58 := t58.mod.row (hb56d.ext x57) ((h56.ext x57).no_row (hb56d.ext x57) (by decide) (by decide))
      refine ⟨hb58.loadL (fun j hj => by rw [Nat.zero_add]), fun w18 e18 => ?_⟩
      (
        have hm18 := setRow_mod e18
        have hb16' := (t58).mod.row (hbox (xw2.tr x57)) (fun hf => by have := hlt _ hf; omega)
        have ho16 := (t58).mod.ownK (ho56.ext x57) (fun b hb => ((h56.ext x57)).no_own (ho56.ext x57) (by decide) (by decide) (by decide) b hb)
        refine ⟨_, _, ?_, (h58).keep hm18 (fun b hb hf => ?_), hm18.ownK ho16 (fun b hb hf => ?_), ?_⟩
        rotate_left
        · exact (h58).no_row hb16' (by decide) (by decide) (show Foot _ _ _ w1.heap.size from hf ▸ hb)
        · obtain ⟨cs, hrr⟩ := own_row ho16 (by decide) hb
          exact hrr.ne hb16' (by decide) hf
        · have t1 := (Turned.of_ext (xw.tr x57)).trans t58
          exact ⟨t1.mod.tr hm18 (fun i hi => .inr (by omega)), t1.sub⟩)
      rw [hpx, hc1, hc2]
      have hw2 : IntKind.wrap .i64 (IntKind.wrap .i64 (0 + 1) + 1) = 2 := by decide
      have hw1 : IntKind.wrap .i64 (0 + 1) = 1 := by decide
      first | rw [hw2] | rw [hw1] | skip
      rfl
end Go.Proofs.Ytbphdgiepimmkaa
namespace Go.Proofs.Ytbphdgiepimmkaa
open Go Go.Vc Go.RowKit Go.Proofs Go.Que

theorem qadd_mem {q : QS} {c : Cl} {t : Int} {x : It} (h : x ∈ (qadd q c t).1.l) : x ∈ q.l ∨ x = (t, c) := by
  unfold qadd at h
  split at h
  · split at h
    · exact .inl h
    · rcases (qins_mem _ _ _).1 h with h | h
      · exact .inr h
      · exact .inl ((qdrop_sub _ _).subset h)
  · split at h
    · exact .inl h
    · rcases (qins_mem _ _ _).1 h with h | h
      · exact .inr h
      · exact .inl h
theorem deed_small {q : QS} {k n m : Int} {c : Cl} (h : ∀ x ∈ q.l, x.2.1 < 9) (hc : c.1 < 3) : ∀ x ∈ (deed q k n m c).l, x.2.1 < 9 := by
  intro x hx
  unfold deed at hx
  split at hx
  · rcases qadd_mem hx with hx | rfl
    · exact h x hx
    · show c.1 < 9; omega
  · split at hx
    · exact h x (List.mem_of_mem_drop hx)
    · split at hx
      · exact h x ((qdrop_sub _ _).subset hx)
      · rcases qadd_mem hx with hx | rfl
        · rcases qadd_mem hx with hx | rfl
          · exact h x hx
          · show c.1 < 9; omega
        · show c.1 + 1 < 9; omega
theorem cell_of {w : World} {s : Sl} {l : List It} (h : RdK w s 4 (l.map itv)) {i : Nat} {x : It} (hi : l[i]? = some x) : LoadL w (padd (padd s.a (i * 4)) 1) 0 (clv x.2) := by
  rw [padd_padd]
  refine LoadL_of fun j v hj => ?_
  have h1 := h.rd i (itv x) (by rw [List.getElem?_map, hi]; rfl)
  rw [Nat.zero_add, padd_padd, Nat.add_assoc]
  exact h1 (1 + j) v (by rw [Nat.add_comm]; exact hj)
theorem tick_of {w : World} {s : Sl} {l : List It} (h : RdK w s 4 (l.map itv)) {i : Nat} {x : It} (hi : l[i]? = some x) : ld w (padd (padd s.a (i * 4)) 0) = some (.int .i64 x.1) :=
  h.at (i := i) (r := itv x) (by rw [List.getElem?_map, hi]; rfl) rfl
theorem like_spec' {w : World} {g m : Nat} {s r : Sl} {q : QS} (h : QIs w g m s q) (hr : OwnK 0 tX 4 w r (q.l.map itv)) (hq : QOk q) (hx : ∀ x ∈ q.l, x.2.1 < 9) :
    Calls Try.prog n_law17_like #[.pointer (some ⟨g, 0, none⟩), .agg #[.int .i64 q.room, .int .i64 q.lost, .slice r.a r.n r.c]] w fun e w' => e = .returned (.bool true) ∧ Ext w w' := by
  apply law17_like.vc
  have hlen := hq.len
  have hroom := hq.room
  have hrn : r.n = q.l.length := by rw [(hr.rd (by decide)).n, List.length_map]
  intro w0 e0
  have x0 : Ext w w0 := (Ext.rfl' w).of_alloc e0
  have z0 : w0.heap.size = w.heap.size + 1 := by rw [e0]; simp
  have hbox : Row w0 w.heap.size [.int .i64 q.room, .int .i64 q.lost, .slice r.a r.n r.c] 43 := by rw [e0]; exact Row.new w [_, _, _] _
  have hb2 : ∀ {w'}, Ext w0 w' → LoadL w' (some ⟨w.heap.size, 2, none⟩) 0 [.slice r.a r.n r.c] := fun x => (hbox.ext x).loadL (fun j hj => by simp at hj; subst hj; rfl)
  have hb1 : ∀ {w'}, Ext w0 w' → LoadL w' (some ⟨w.heap.size, 1, none⟩) 0 [.int .i64 q.lost] := fun x => (hbox.ext x).loadL (fun j hj => by simp at hj; subst hj; rfl)
  have h0 := h.ext x0
  refine (All_spec h0 hq).mono ?_
  rintro e w1 ⟨s2, rfl, ho2, x1⟩
  have hsn : s2.n = q.l.length := by rw [(ho2.rd (by decide)).n, List.length_map]
  have z1 := x1.size
  refine ⟨s2, rfl, x1.heap (by omega), Br.mk (fun hc => ?_) (fun _ => ?_)⟩
  · rw [hsn, hrn] at hc; simp at hc
  refine (Len_spec (h0.ext x1.drew)).mono ?_
  rintro e w3 ⟨rfl, x3⟩
  have y3 := x1.drew.tr x3
  refine ⟨_, rfl, x3.heap (show w.heap.size < w1.heap.size by omega), hb2 y3, hb2 y3, Br.mk (fun hc => ?_) (fun _ => ?_)⟩
  · rw [hrn] at hc; simp at hc
  refine (Lost_spec (h0.ext y3)).mono ?_
  rintro e w5 ⟨rfl, x5⟩
  have z3 := y3.size
  have y5 := y3.tr x5
  refine ⟨_, rfl, x5.heap (by omega), hb1 y5, hb2 y5, hb2 y5, Br.mk (fun hc => by simp at hc) (fun _ => ?_)⟩
  have ho5 := (ho2.ext (Ext.dr _)).ext x3 |>.ext x5
  have z5 := y5.size
  refine ⟨fun n x wr => ∃ k : Nat, x = k ∧ k + n = q.l.length ∧ Ext w5 wr, ⟨q.l.length, rfl, 0, rfl, by omega, Ext.rfl' _⟩, ?_⟩
  rintro n us x wr ⟨k, rfl, hk, xr⟩
  have zr := xr.size
  have hqr := h0.ext (y5.tr xr)
  refine Br.mk (fun hc => ?_) (fun hc => ?_)
  · simp only [decide_eq_true_eq] at hc
    have hget : q.l[k]? = some (q.l[k]'(by omega)) := List.getElem?_eq_getElem (by omega)
    generalize q.l[k]'(by omega) = y at hget
    have hrd := (ho5.ext xr).rd (by decide)
    have hs := hrd.isSome (by decide) (i := k) (by simp; omega)
    have hin : InB s2.a (k : Int) s2.n := ⟨hs, by omega, by omega⟩
    have hnn : ∀ p ∈ nnC (padd s2.a ((k : Int).toNat * 4)), p := nnC_iff.2 (by rw [padd_isSome]; exact hs)
    refine ⟨hin, AndL_iff.2 ⟨hnn, _, _, _, cell_of (i := k) hrd hget, ?_⟩⟩
    have ht : qtick q.l y.2 = some y.1 := qtick_mem hq.nodup (List.mem_of_getElem? hget)
    refine (At_spec hqr hq y.2).mono ?_
    rintro e w16 ⟨rfl, x16⟩
    have hrd16 := (hrd.ext x16).ext (Ext.dr _)
    have hrr := (hr.ext ((x0.tr (y5.tr xr)).tr (x16.drew))).rd (by decide)
    have hsr := hrr.isSome (by decide) (i := k) (by simp; omega)
    have hinr : InB r.a (k : Int) r.n := ⟨hsr, by omega, by omega⟩
    have hnr : ∀ p ∈ nnC (padd r.a ((k : Int).toNat * 4)), p := nnC_iff.2 (by rw [padd_isSome]; exact hsr)
    refine ⟨_, _, rfl, x16.heap (by omega), hin, AndL_iff.2 ⟨hnn, _, tick_of (i := k) hrd16 hget, hinr, AndL_iff.2 ⟨hnr, _, tick_of (i := k) hrr hget, Br.mk (fun hb => by simp at hb) (fun _ => ⟨hin, AndL_iff.2 ⟨hnn, _, _, _, cell_of (i := k) hrd16 hget, hinr, AndL_iff.2 ⟨hnr, _, _, _, cell_of (i := k) hrr hget, Br.mk (fun hb => by simp at hb) (fun _ => ⟨hin, AndL_iff.2 ⟨hnn, _, tick_of (i := k) hrd16 hget, ?_⟩⟩)⟩⟩⟩)⟩⟩⟩
    rw [ht]
    have hwk : IntKind.wrap .i64 ((k : Int) + 1) = ((k + 1 : Nat) : Int) := by rw [wrap_in (by unfold inI; omega)]; omega
    exact Br.mk (fun hb => by simp at hb) (fun _ => Br.mk (fun hb => by simp at hb) (fun _ => ⟨n - 1, by omega, rfl, k + 1, hwk, by omega, xr.tr x16.drew⟩))
  · refine (Next_spec hqr).mono ?_
    rintro e w28 ⟨rfl, x28⟩
    refine ⟨_, _, _, _, _, rfl, x28.heap (by omega), ?_⟩
    have z28 := x28.size
    intro w34 e34 w35 e35
    have x35 : Ext w28 w35 := ((Ext.rfl' _).of_alloc e34).of_setRow e35 (Nat.le_refl _)
    have z35 : w35.heap.size = w28.heap.size + 1 := by rw [e35, setRow_size, e34]; simp
    have hb35 : Row w35 w28.heap.size (itv (q.l.headD (0, 0, 0, 0))) tItem := by
      have : Row w34 w28.heap.size [.int .i64 0, .int .i64 0, .int .i64 0, .int .i64 0] tItem := by rw [e34]; exact Row.new _ [_, _, _, _] _
      rw [e35]; exact this.set _
    refine (At_spec (c := (99, 0, 0)) ((hqr.ext x28).ext x35) hq).mono ?_
    rintro e w36 ⟨rfl, x36⟩
    have hno : qtick q.l (99, 0, 0) = none := by
      cases ht : qtick q.l (99, 0, 0) with
      | none => rfl
      | some t =>
        have := hx _ (qtick_some ht)
        simp at this
    rw [hno]
    refine ⟨_, _, rfl, x36.heap (by omega), x36.heap (by omega), Br.mk (fun hb => by simp at hb) (fun _ => ?_)⟩
    have xall : Ext w w36 := (x0.tr (y5.tr (xr.tr (x28.tr (x35.tr x36)))))
    have z36 := x36.size
    rw [hsn]
    refine Br.mk (fun hb => ?_) (fun _ => ?_)
    · exfalso
      cases hl : q.l with
      | nil => rw [hl] at hb; simp at hb
      | cons a l => rw [hl] at hb; simp at hb
    cases hl : q.l with
    | nil =>
      refine Br.mk (fun _ => Br.mk (fun _ => ?_) (fun hb => by simp at hb)) (fun hb => by simp at hb)
      refine (qsmall_spec (0, 0, 0) ⟨⟨by decide, by decide⟩, ⟨by decide, by decide⟩, ⟨by decide, by decide⟩⟩ w36.drew).mono ?_
      rintro e w39 ⟨rfl, x39⟩
      have hb39 := ((hb35.ext x36).ext (Ext.dr _)).ext x39
      rw [hl] at hb39
      exact ⟨_, _, _, rfl, x39.heap (show w.heap.size < w36.heap.size by omega), x39.heap (show w28.heap.size < w36.heap.size by omega), hb39.loadL (fun j hj => by rw [Nat.add_comm]; rfl), hb39.loadL (fun j hj => by simp at hj; subst hj; rfl), rfl, (xall.drew).tr x39⟩
    | cons a l =>
      refine Br.mk (fun hb => by simp at hb) (fun _ => ?_)
      have hrd := ((ho5.ext xr).ext (x28.tr (x35.tr x36.drew))).rd (by decide)
      have hget : q.l[0]? = some a := by rw [hl]; rfl
      have hs := hrd.isSome (by decide) (i := 0) (by rw [hl]; simp)
      have hin : InB s2.a 0 s2.n := ⟨hs, by omega, by rw [hsn, hl]; simp⟩
      have hnn : ∀ p ∈ nnC (padd s2.a ((0 : Int).toNat * 4)), p := nnC_iff.2 (by rw [padd_isSome]; exact hs)
      rw [hsn, hl] at hin
      refine ⟨hin, AndL_iff.2 ⟨hnn, _, tick_of (i := 0) hrd hget, Br.mk (fun _ => ⟨hin, AndL_iff.2 ⟨hnn, _, _, _, cell_of (i := 0) hrd hget, by simp, xall.drew⟩⟩) (fun hb => by simp at hb)⟩⟩
end Go.Proofs.Ytbphdgiepimmkaa
namespace Go.Proofs.Ytbphdgiepimmkaa
open Go Go.Vc Go.RowKit Go.Proofs Go.Que

/-- A deed that came in. -/
abbrev Dd := Int × Int × Int × Cl
abbrev ddv (d : Dd) : List Value := [.int .i64 d.1, .int .i64 d.2.1, .int .i64 d.2.2.1, .int .i64 d.2.2.2.1, .int .i64 d.2.2.2.2.1, .int .i64 d.2.2.2.2.2]
theorem QueuePlays_law (room : Int) (s : Sl) (z : List Dd) (w : World) (hz : RdK w s 6 (z.map ddv)) (hzi : ∀ d ∈ z, inI d.2.2.2.1 ∧ inI d.2.2.2.2.1 ∧ inI d.2.2.2.2.2) :
    Calls Try.prog n_law17_QueuePlays #[.int .i64 room, .slice s.a s.n s.c] w fun e w' => e = .returned (.bool true) ∧ Ext w w' := by
  apply law17_QueuePlays.vc
  have hsn : s.n = z.length := by rw [hz.n, List.length_map]
  refine (New_spec room w).mono ?_
  rintro e w0 ⟨g, m, rfl, h0, x0, hg, hm⟩
  refine ⟨_, rfl, Br.mk (fun h => by cases h) (fun _ => ?_)⟩
  refine (rNew_spec room w0).mono ?_
  rintro e w2 ⟨rfl, x2⟩
  refine ⟨_, _, ⟨none, 0, 0⟩, rfl, ?_⟩
  intro w6 e6 w7 e7
  have x7 : Ext w2 w7 := ((Ext.rfl' _).of_alloc e6).of_setRow e7 (Nat.le_refl _)
  have z7 : w7.heap.size = w2.heap.size + 1 := by rw [e7, setRow_size, e6]; simp
  have hB7 : Row w7 w2.heap.size [.int .i64 (min (max room 1) 4096), .int .i64 0, .slice none 0 0] 43 := by
    have : Row w6 w2.heap.size [.int .i64 0, .int .i64 0, .slice none 0 0] 43 := by rw [e6]; exact Row.new w2 [_, _, _] _
    rw [e7]; exact this.set [_, _, _]
  have zB : w.heap.size ≤ w2.heap.size := (x0.tr x2).size
  refine ⟨fun n x a b r wr => ∃ k : Nat, x = k ∧ k + n = 60 ∧ ∃ (q : QS) (sq : Sl), a = q.room ∧ b = q.lost ∧ QIs wr g m sq q ∧ OwnK 0 tX 4 wr r (q.l.map itv) ∧ QOk q ∧ 0 ≤ q.lost ∧ q.lost ≤ 2 * k ∧ (∀ x ∈ q.l, x.2.1 < 9) ∧ Ext w wr ∧ (∀ i, Foot g m sq i → w.heap.size ≤ i) ∧ Row wr w2.heap.size [.int .i64 a, .int .i64 b, .slice r.a r.n r.c] 43,
    ⟨60, 0, rfl, rfl, _, _, rfl, rfl, (h0.ext x2).ext x7, OwnK.nil, QOk.empty (by omega), Int.le_refl _, by show (0 : Int) ≤ 2 * ((0 : Nat) : Int); omega, by simp, (x0.tr x2).tr x7, Foot.none hg hm, hB7⟩, ?_⟩
  rintro nn us x a b r wr ⟨kk, rfl, hk, q, sq, rfl, rfl, hq, hr, hok, hl0, hl1, hsm, xr, fr, hB⟩
  have zr := xr.size
  have hBlt := hB.lt
  refine Br.mk (fun hc => Br.mk (fun hc2 => ?_) (fun hc2 => ?_)) (fun hc => ?_)
  · simp only [decide_eq_true_eq] at hc hc2
    have hget : z[kk]? = some (z[kk]'(by omega)) := List.getElem?_eq_getElem (by omega)
    have hci := hzi (z[kk]'(by omega)) (List.getElem_mem _)
    generalize z[kk]'(by omega) = dd at hget hci
    obtain ⟨k, n, mo, c⟩ := dd
    have hzr := hz.ext xr.drew
    have hs := hzr.isSome (by decide) (i := kk) (by simp; omega)
    have hwk : IntKind.wrap .i64 ((kk : Int) + 1) = ((kk + 1 : Nat) : Int) := by rw [wrap_in (by unfold inI; omega)]; omega
    refine ⟨⟨hs, by omega, by omega⟩, k, n, mo, c.1, c.2.1, c.2.2, hzr.loadL (i := kk) (by rw [List.getElem?_map, hget]; rfl), ?_, ?_⟩
    · have hqd := hq.ext (Ext.dr wr)
      have hrd := hr.ext (Ext.dr wr)
      have xwd := xr.drew
      have hBd := hB.ext (Ext.dr wr)
      have hbx : ¬ Foot g m sq w2.heap.size := hqd.no_row hBd (by decide) (by decide)
      have hzd : wr.drew.heap.size = wr.heap.size := rfl
      (
        refine (qdoes_spec hqd hrd hok ⟨hl0, by omega⟩ k n mo c hci).mono ?_
        rintro e w20 ⟨s2, r2, rfl, h20, hr20, t20⟩
        obtain ⟨x20, f20⟩ := t20.fresh xwd fr
        have z20 := t20.mod.size
        refine ⟨_, _, r2, _, rfl, ?_⟩
        refine And.intro (t20.mod.same _ (by omega) (fun hf => hbx hf)) ?_)
      intro w25 e25 w26 e26 w27 e27
      have x26 : Ext w20 w26 := ((Ext.rfl' _).of_alloc e25).of_setRow e26 (Nat.le_refl _)
      have z26 : w26.heap.size = w20.heap.size + 1 := by rw [e26, setRow_size, e25]; simp
      have hm27 := setRow_mod e27
      have hB20 := t20.mod.row hBd hbx
      have hB26 := hB20.ext x26
      have hB27 : Row w27 w2.heap.size [.int .i64 (deed q k n mo (near c)).room, .int .i64 (deed q k n mo (near c)).lost, .slice r2.a r2.n r2.c] 43 := by rw [e27]; exact hB26.set [.int .i64 (deed q k n mo (near c)).room, .int .i64 (deed q k n mo (near c)).lost, .slice r2.a r2.n r2.c]
      have h27 := (h20.ext x26).keep hm27 (fun b hb hf => (h20.ext x26).no_row hB26 (by decide) (by decide) (show Foot g m s2 w2.heap.size from hf ▸ hb))
      have hr26 := hr20.ext x26
      have hr27 := hm27.ownK hr26 (fun b hb hf => by
        obtain ⟨cs, hrr⟩ := own_row hr26 (by decide) hb
        exact hrr.ne hB26 (by decide) hf)
      have hok2 := deed_ok hok k n mo (near c)
      have hsm2 := deed_small (k := k) (n := n) (m := mo) (c := near c) hsm (around_bd _ 3 (by decide)).2
      have hdl := deed_lost (q := q) k n mo (near c)
      have x27 : Ext w w27 := (x20.tr x26).of_setRow e27 zB
      refine Br.mk (fun hb => by cases hb) (fun _ => ?_)
      refine (like_spec' h27 hr27 hok2 hsm2).mono ?_
      rintro e w28 ⟨rfl, x28⟩
      have z27 : w27.heap.size = w26.heap.size := by rw [e27, setRow_size]
      refine ⟨_, rfl, x28.heap (by omega), x28.heap (by omega), Br.mk (fun hb => by cases hb) (fun _ => ?_)⟩
      exact ⟨nn - 1, by omega, kk + 1, hwk, by omega, _, s2, rfl, rfl, h27.ext x28, hr27.ext x28, hok2, by omega, by omega, hsm2, x27.tr x28, f20, hB27.ext x28⟩
    · intro w30 e30
      have x30 : Ext wr w30 := (Ext.dr wr).of_alloc e30
      have hqd := hq.ext x30
      have hrd := hr.ext x30
      have xwd := xr.tr x30
      have hBd := hB.ext x30
      have hbx : ¬ Foot g m sq w2.heap.size := hqd.no_row hBd (by decide) (by decide)
      have hzd : w30.heap.size = wr.heap.size + 1 := by rw [e30]; simp
      have hbox30 : Row w30 wr.heap.size [.int .i64 0, .int .i64 0, .slice none 0 0] 43 := by rw [e30]; exact Row.new wr.drew [_, _, _] _
      have hb30 : ¬ Foot g m sq wr.heap.size := hqd.no_row hbox30 (by decide) (by decide)
      (
        refine (qdoes_spec hqd hrd hok ⟨hl0, by omega⟩ k n mo c hci).mono ?_
        rintro e w20 ⟨s2, r2, rfl, h20, hr20, t20⟩
        obtain ⟨x20, f20⟩ := t20.fresh xwd fr
        have z20 := t20.mod.size
        refine ⟨_, _, r2, _, rfl, ?_⟩
        refine And.intro (t20.mod.same _ (by omega) (fun hf => hbx hf)) ?_)
      refine And.intro (t20.mod.same _ (by rw [hzd]; exact Nat.lt_succ_self _) hb30) ?_
      have hbox20 := t20.mod.row hbox30 hb30
      intro w36 e36 w37 e37
      have e36' : w36 = w20.setRow wr.heap.size _ := e36
      have hm36 := setRow_mod e36'
      have hm37 := setRow_mod e37
      have hB20 := t20.mod.row hBd hbx
      have hne : w2.heap.size ≠ wr.heap.size := by omega
      have hB36 := hm36.row hB20 hne
      have hB37 : Row w37 w2.heap.size [.int .i64 (deed q k n mo (near c)).room, .int .i64 (deed q k n mo (near c)).lost, .slice r2.a r2.n r2.c] 43 := by rw [e37]; exact hB36.set [.int .i64 (deed q k n mo (near c)).room, .int .i64 (deed q k n mo (near c)).lost, .slice r2.a r2.n r2.c]
      have h36 := h20.keep hm36 (fun b hb hf => h20.no_row hbox20 (by decide) (by decide) (show Foot g m s2 wr.heap.size from hf ▸ hb))
      have h37 := h36.keep hm37 (fun b hb hf => h36.no_row hB36 (by decide) (by decide) (show Foot g m s2 w2.heap.size from hf ▸ hb))
      have hr36 := hm36.ownK hr20 (fun b hb hf => by
        obtain ⟨cs, hrr⟩ := own_row hr20 (by decide) hb
        exact hrr.ne hbox20 (by decide) hf)
      have hr37 := hm37.ownK hr36 (fun b hb hf => by
        obtain ⟨cs, hrr⟩ := own_row hr36 (by decide) hb
        exact hrr.ne hB36 (by decide) hf)
      have hok2 := deed_ok hok k n mo (near c)
      have hsm2 := deed_small (k := k) (n := n) (m := mo) (c := near c) hsm (around_bd _ 3 (by decide)).2
      have hdl := deed_lost (q := q) k n mo (near c)
      have x37 : Ext w w37 := (x20.of_setRow e36' zr).of_setRow e37 zB
      have z37 : w37.heap.size = w20.heap.size := by rw [e37, setRow_size, e36', setRow_size]
      refine Br.mk (fun hb => by cases hb) (fun _ => ?_)
      refine (like_spec' h37 hr37 hok2 hsm2).mono ?_
      rintro e w38 ⟨rfl, x38⟩
      refine ⟨_, rfl, x38.heap (by omega), x38.heap (show wr.heap.size < w37.heap.size by omega), Br.mk (fun hb => by cases hb) (fun _ => ?_)⟩
      exact ⟨nn - 1, by omega, kk + 1, hwk, by omega, _, s2, rfl, rfl, h37.ext x38, hr37.ext x38, hok2, by omega, by omega, hsm2, x37.tr x38, f20, hB37.ext x38⟩
  · refine (lives_spec wr).mono ?_
    rintro e w40 ⟨rfl, x40⟩
    exact ⟨_, rfl, x40.heap (by omega), rfl, xr.tr x40⟩
  · refine (lives_spec wr).mono ?_
    rintro e w40 ⟨rfl, x40⟩
    exact ⟨_, rfl, x40.heap (by omega), rfl, xr.tr x40⟩
end Go.Proofs.Ytbphdgiepimmkaa
