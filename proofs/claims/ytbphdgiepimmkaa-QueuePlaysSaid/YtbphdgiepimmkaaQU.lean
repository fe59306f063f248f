import Derived.Test.YtbphdgiepimmkaaQO
set_option linter.all false
namespace Go.Proofs.Ytbphdgiepimmkaa
open Go Go.Vc Go.RowKit Go.Proofs Go.Que

set_option hygiene false in
local macro "keeps" h:term : tactic => `(tactic| repeat (refine And.intro (($h).block _ (by omega)) ?_))
set_option hygiene false in
local macro "keepm" h:term:max f:term:max : tactic => `(tactic| repeat (refine And.intro (($h).mod.same _ (by omega) (fun hf => by have := $f _ hf; omega)) ?_))
theorem qsmall_spec (c : Cl) (hi : inI c.1 ∧ inI c.2.1 ∧ inI c.2.2) (w : World) : Calls Try.prog n_law17_small #[cv c] w fun e w' => e = .returned (cv (around c.1 3, around c.2.1 3, around c.2.2 3)) ∧ Ext w w' := by
  apply law17_small.vc
  intro w0 e0 w1 e1
  have x1 : Ext w w1.drew := (((Ext.rfl' w).of_alloc e0).of_alloc e1).drew
  have z0 : w0.heap.size = w.heap.size + 1 := by rw [e0]; simp
  have hb : Row w1.drew w.heap.size (clv c) tCell := ((by rw [e0]; exact Row.new w [_, _, _] _ : Row w0 w.heap.size (clv c) tCell).ext ((Ext.rfl' _).of_alloc e1)).ext (Ext.dr _)
  refine (around_spec c.1 3 w1.drew hi.1 (by decide) (by unfold inI; omega)).mono ?_
  rintro e w2 ⟨rfl, rfl⟩
  refine ⟨_, rfl, rfl, rfl, hb.loadL (fun j hj => by simp at hj; subst hj; rfl), hb.loadL (fun j hj => by simp at hj; subst hj; rfl), ?_⟩
  refine (around_spec c.2.1 3 w1.drew hi.2.1 (by decide) (by unfold inI; omega)).mono ?_
  rintro e w2 ⟨rfl, rfl⟩
  refine ⟨_, rfl, rfl, rfl, hb.loadL (fun j hj => by simp at hj; subst hj; rfl), ?_⟩
  refine (around_spec c.2.2 3 w1.drew hi.2.2 (by decide) (by unfold inI; omega)).mono ?_
  rintro e w2 ⟨rfl, rfl⟩
  refine ⟨_, rfl, rfl, rfl, ?_⟩
  intro w8 e8
  exact ⟨rfl, x1.of_setRow e8 (by omega)⟩
/-- The cells' place is near. -/
def near (c : Cl) : Cl := (around c.1 3, around c.2.1 3, around c.2.2 3)
/-- What a deed makes of a queue. -/
def deed (q : QS) (k n m : Int) (c : Cl) : QS :=
  if k = 0 then (qadd q c n).1 else if k = 1 then (qdue q n m).1 else if k = 2 then { q with l := qdrop q.l c } else (qput q [(n, c), (m, (c.1 + 1, c.2.1, c.2.2))]).1
theorem deed_ok {q : QS} (h : QOk q) (k n m : Int) (c : Cl) : QOk (deed q k n m c) := by
  unfold deed
  split
  · exact h.add _ _
  · split
    · exact h.due _ _
    · split
      · exact h.drop _
      · exact h.put _
theorem deed_lost {q : QS} (k n m : Int) (c : Cl) : q.lost ≤ (deed q k n m c).lost ∧ (deed q k n m c).lost ≤ q.lost + 2 := by
  unfold deed
  split
  · have := qadd_lost q c n; omega
  · split
    · exact ⟨Int.le_refl _, by show q.lost ≤ _; omega⟩
    · split
      · exact ⟨Int.le_refl _, by show q.lost ≤ _; omega⟩
      · simp only [qput]
        have h1 := qadd_lost q c n
        have h2 := qadd_lost (qadd q c n).1 (c.1 + 1, c.2.1, c.2.2) m
        omega
set_option hygiene false in
/-- The box of the answer is set, and all is as it must be. t: the queue's step; x: what grew ahead of it; ho: the document's row there. -/
local macro "last" t:term:max h0:term:max h1:term:max ho:term:max xw:term:max x2:term:max e18:term:max : tactic => `(tactic| (
  have hm18 := setRow_mod $e18
  have hb16' := ($t).mod.row (hbox $x2) (fun hf => by have := hlt _ hf; omega)
  have ho16 := ($t).mod.ownK $ho (fun b hb => ($h0).no_own $ho (by decide) (by decide) (by decide) b hb)
  refine ⟨_, _, ?_, ($h1).keep hm18 (fun b hb hf => ?_), hm18.ownK ho16 (fun b hb hf => ?_), ?_⟩
  rotate_left
  · exact ($h1).no_row hb16' (by decide) (by decide) (show Foot _ _ _ w1.heap.size from hf ▸ hb)
  · obtain ⟨cs, hrr⟩ := own_row ho16 (by decide) hb
    exact hrr.ne hb16' (by decide) hf
  · have t1 := (Turned.of_ext $xw).trans $t
    exact ⟨t1.mod.tr hm18 (fun i hi => .inr (by omega)), t1.sub⟩))
theorem setRow_mod {w w' : World} {b : Nat} {cs : Array Value} (e : w' = w.setRow b cs) : Mod (fun i => i = b) w w' := by
  rw [e]; exact ⟨rfl, rfl, rfl, by rw [setRow_size]; exact Nat.le_refl _, fun i _ hn => setRow_other _ _ _ _ hn⟩
theorem box_row {w w1 w2 : World} {a b : Int} {s : Sl} (e1 : w1 = w.alloc (.cells #[.int .i64 0, .int .i64 0, .slice none 0 0] 43)) (e2 : w2 = w1.setRow w.heap.size #[.int .i64 a, .int .i64 b, .slice s.a s.n s.c]) :
    Row w2 w.heap.size [.int .i64 a, .int .i64 b, .slice s.a s.n s.c] 43 ∧ Ext w w2 ∧ w2.heap.size = w.heap.size + 1 := by
  have : Row w1 w.heap.size [.int .i64 0, .int .i64 0, .slice none 0 0] 43 := by rw [e1]; exact Row.new w [_, _, _] _
  refine ⟨by rw [e2]; exact this.set [_, _, _], ((Ext.rfl' _).of_alloc e1).of_setRow e2 (Nat.le_refl _), by rw [e2, setRow_size, e1]; simp⟩
/-- Of a queue, and of the document's, the same. -/
theorem qdoes_spec {w : World} {g m : Nat} {s r : Sl} {q : QS} (h : QIs w g m s q) (hr : OwnK 0 tX 4 w r (q.l.map itv)) (hq : QOk q) (hl : 0 ≤ q.lost ∧ q.lost ≤ 900000) (k n mo : Int) (c : Cl) (hc : inI c.1 ∧ inI c.2.1 ∧ inI c.2.2) :
    Calls Try.prog n_law17_does #[.pointer (some ⟨g, 0, none⟩), .agg #[.int .i64 q.room, .int .i64 q.lost, .slice r.a r.n r.c], .agg #[.int .i64 k, .int .i64 n, .int .i64 mo, .int .i64 c.1, .int .i64 c.2.1, .int .i64 c.2.2]] w fun e w' =>
      ∃ s' r' : Sl, e = .returned (.tuple #[.agg #[.int .i64 (deed q k n mo (near c)).room, .int .i64 (deed q k n mo (near c)).lost, .slice r'.a r'.n r'.c], .bool true]) ∧ QIs w' g m s' (deed q k n mo (near c)) ∧ OwnK 0 tX 4 w' r' ((deed q k n mo (near c)).l.map itv) ∧ Turned (Foot g m s) (Foot g m s') w w' := by
  apply law17_does.vc
  intro w0 e0 w1 e1 w2 e2
  have x2 : Ext w w2 := (((Ext.rfl' w).of_alloc e0).of_alloc e1).of_alloc e2
  have z0 : w0.heap.size = w.heap.size + 1 := by rw [e0]; simp
  have z1 : w1.heap.size = w.heap.size + 2 := by rw [e1]; simp [z0]
  have z2 : w2.heap.size = w.heap.size + 3 := by rw [e2]; simp [z1]
  have hb1 : Row w2 w1.heap.size [.int .i64 0, .int .i64 0, .slice none 0 0] 43 := by rw [e2]; exact Row.new w1 [_, _, _] _
  refine (qsmall_spec c hc w2).mono ?_
  rintro e w3 ⟨rfl, x3⟩
  have z3 := x3.size
  refine ⟨_, _, _, rfl, ?_⟩
  keeps x3
  intro w7 e7 w8 e8
  have x8 : Ext w3 w8 := ((Ext.rfl' _).of_alloc e7).of_setRow e8 (Nat.le_refl _)
  have z8 : w8.heap.size = w3.heap.size + 1 := by rw [e8, setRow_size, e7]; simp
  have x08 : Ext w w8 := (x2.tr x3).tr x8
  have h8 := h.ext x08
  have hr8 := hr.ext x08
  have hlt := h.lt
  show Br _ _ _
  generalize hnc : near c = d
  have hd1 : around c.1 3 = d.1 := by rw [← hnc]; rfl
  have hd2 : around c.2.1 3 = d.2.1 := by rw [← hnc]; rfl
  have hd3 : around c.2.2 3 = d.2.2 := by rw [← hnc]; rfl
  have hdb : 0 ≤ d.1 ∧ d.1 < 3 := by rw [← hd1]; exact around_bd _ 3 (by decide)
  rw [hd1, hd2, hd3]
  -- the box of the answer
  have hbox : ∀ {w' : World}, Ext w2 w' → Row w' w1.heap.size [.int .i64 0, .int .i64 0, .slice none 0 0] 43 := fun x => hb1.ext x
  refine Br.mk (fun hk => ?_) (fun hk => Br.mk (fun hk1 => ?_) (fun hk1 => Br.mk (fun hk2 => ?_) (fun hk2 => ?_)))
  · have hk0 : k = 0 := by simpa using hk
    have ed : deed q k n mo d = (qadd q d n).1 := by unfold deed; rw [if_pos hk0]
    rw [ed]
    refine (rAdd_spec hr8 hq ⟨hl.1, by omega⟩ d n).mono ?_
    rintro e w9 ⟨⟨r9, rfl, ho9⟩, x9⟩
    have z9 := x9.size
    refine ⟨_, _, r9, _, rfl, ?_⟩
    keeps x9
    intro w14 e14 w15 e15
    obtain ⟨hb15, x15, z15⟩ := box_row e14 e15
    have x15d := x15.drew
    have h15 := (h8.ext x9).ext x15d
    refine (Add_spec h15 hq ⟨hl.1, by omega⟩ d n).mono ?_
    rintro e w16 ⟨rfl, s16, h16, t16⟩
    have zd : w15.drew.heap.size = w15.heap.size := rfl
    refine ⟨_, rfl, ?_⟩
    keepm t16 hlt
    have hb16 := t16.mod.row (hb15.ext (Ext.dr _)) (h15.no_row (hb15.ext (Ext.dr _)) (by decide) (by decide))
    refine ⟨hb16.loadL (fun j hj => by rw [Nat.zero_add]), fun w18 e18 => ?_⟩
    last t16 h15 h16 (ho9.ext x15d) ((x08.tr x9).tr x15d) ((x3.tr x8).tr (x9.tr x15d)) e18
    simp
  · have hk1' : k = 1 := by simpa using hk1
    have ed : deed q k n mo d = (qdue q n mo).1 := by unfold deed; rw [if_neg (by omega), if_pos hk1']
    rw [ed]
    refine (rDue_spec hr8 hq n mo).mono ?_
    rintro e w9 ⟨⟨r9, c9, rfl, ho9, hc9⟩, x9⟩
    have z9 := x9.size
    refine ⟨_, _, r9, c9, rfl, ?_⟩
    keeps x9
    intro w14 e14 w15 e15
    obtain ⟨hb15, x15, z15⟩ := box_row e14 e15
    have x15d := x15.drew
    have h15 := (h8.ext x9).ext x15d
    refine (Due_spec h15 hq n mo).mono ?_
    rintro e w16 ⟨so, rfl, s16, hso, h16, t16⟩
    have zd : w15.drew.heap.size = w15.heap.size := rfl
    have zt := t16.mod.size
    refine ⟨so, rfl, ?_⟩
    keepm t16 hlt
    have hb16 := t16.mod.row (hb15.ext (Ext.dr _)) (h15.no_row (hb15.ext (Ext.dr _)) (by decide) (by decide))
    refine ⟨hb16.loadL (fun j hj => by rw [Nat.zero_add]), ?_⟩
    have hc15 := hc9.ext x15d
    have hc16 := t16.mod.ownK hc15 (fun b hb => h15.no_own hc15 (by decide) (by decide) (by decide) b hb)
    have hll := hq.len
    have hlr := hq.room
    refine (rSame_spec (hso.rd (by decide)) (hc16.rd (by decide)) (by unfold qdue; simp; omega)).mono ?_
    rintro e w28 ⟨rfl, x28⟩
    refine ⟨_, rfl, ?_⟩
    keeps x28
    refine ⟨(hb16.ext x28).loadL (fun j hj => by rw [Nat.zero_add]), fun w18 e18 => ?_⟩
    last (t16.trans (Turned.of_ext x28)) h15 (h16.ext x28) (ho9.ext x15d) ((x08.tr x9).tr x15d) ((x3.tr x8).tr (x9.tr x15d)) e18
    simp
  · have hk2' : k = 2 := by simpa using hk2
    have ed : deed q k n mo d = { q with l := qdrop q.l d } := by unfold deed; rw [if_neg (by omega), if_neg (by omega), if_pos hk2']
    rw [ed]
    have hll := hq.len
    have hlr := hq.room
    refine (rDrop_spec hr8 hq.nodup (by omega) q.room q.lost d).mono ?_
    rintro e w9 ⟨⟨r9, rfl, ho9⟩, x9⟩
    have z9 := x9.size
    refine ⟨_, _, r9, _, rfl, ?_⟩
    keeps x9
    intro w14 e14 w15 e15
    obtain ⟨hb15, x15, z15⟩ := box_row e14 e15
    have x15d := x15.drew
    have h15 := (h8.ext x9).ext x15d
    refine (Drop_spec h15 hq d).mono ?_
    rintro e w16 ⟨rfl, s16, h16, t16⟩
    have zd : w15.drew.heap.size = w15.heap.size := rfl
    have zt := t16.mod.size
    refine ⟨_, rfl, ?_⟩
    keepm t16 hlt
    have hb16 := t16.mod.row (hb15.ext (Ext.dr _)) (h15.no_row (hb15.ext (Ext.dr _)) (by decide) (by decide))
    refine ⟨hb16.loadL (fun j hj => by rw [Nat.zero_add]), fun w18 e18 => ?_⟩
    last t16 h15 h16 (ho9.ext x15d) ((x08.tr x9).tr x15d) ((x3.tr x8).tr (x9.tr x15d)) e18
    simp
  · have hk0' : k ≠ 0 := by simpa using hk
    have hk1' : k ≠ 1 := by simpa using hk1
    have hk2' : k ≠ 2 := by simpa using hk2
    have ed : deed q k n mo d = (qput q [(n, d), (mo, (d.1 + 1, d.2.1, d.2.2))]).1 := by unfold deed; rw [if_neg hk0', if_neg hk1', if_neg hk2']
    rw [ed]
    have hwd : IntKind.wrap .i64 (d.1 + 1) = d.1 + 1 := wrap_in (by unfold inI; omega)
    rw [hwd]
    intro w41 e41 w42 e42
    have x42 : Ext w8 w42 := ((Ext.rfl' _).of_alloc e41).of_setRow e42 (Nat.le_refl _)
    have z42 : w42.heap.size = w8.heap.size + 1 := by rw [e42, setRow_size, e41]; simp
    refine (rAdd_spec (hr8.ext x42) hq ⟨hl.1, by omega⟩ d n).mono ?_
    rintro e w43 ⟨⟨r43, rfl, ho43⟩, x43⟩
    have z43 := x43.size
    have hlo := qadd_lost q d n
    have hok1 := hq.add d n
    have hlo2 := qadd_lost (qadd q d n).1 (d.1 + 1, d.2.1, d.2.2) mo
    have hpx : qput q [(n, d), (mo, (d.1 + 1, d.2.1, d.2.2))] = ((qadd (qadd q d n).1 (d.1 + 1, d.2.1, d.2.2) mo).1, (if (qadd q d n).2 then 1 else 0) + ((if (qadd (qadd q d n).1 (d.1 + 1, d.2.1, d.2.2) mo).2 then 1 else 0) + 0)) := rfl
    refine ⟨_, _, r43, _, rfl, ?_⟩
    keeps x43
    intro w48 e48 w49 e49
    obtain ⟨hb49, x49, z49⟩ := box_row e48 e49
    refine (rAdd_spec (ho43.ext x49) hok1 ⟨by omega, by omega⟩ (d.1 + 1, d.2.1, d.2.2) mo).mono ?_
    rintro e w50 ⟨⟨r50, rfl, ho50⟩, x50⟩
    have z50 := x50.size
    refine ⟨_, _, r50, _, rfl, ?_⟩
    keeps x50
    intro w55 e55 w56 e56
    obtain ⟨hb56, x56, z56⟩ := box_row e55 e56
    have xw : Ext w w56.drew := (x08.tr (x42.tr (x43.tr (x49.tr (x50.tr x56))))).drew
    have xw2 : Ext w2 w56.drew := ((x3.tr x8).tr (x42.tr (x43.tr (x49.tr (x50.tr x56))))).drew
    have h56 := h.ext xw
    have ho56 := (ho50.ext x56).ext (Ext.dr _)
    have hb56d := hb56.ext (Ext.dr w56)
    have zd : w56.drew.heap.size = w56.heap.size := rfl
    have xo := x56.drew
    refine Br.mk (fun hc1 => Br.mk (fun hc2 => ⟨?_, ?_⟩) (fun hc2 => ⟨?_, ?_⟩)) (fun hc1 => Br.mk (fun hc2 => ⟨?_, ?_⟩) (fun hc2 => ⟨?_, ?_⟩))
    all_goals
      intro w57 e57
      have x57 : Ext w56.drew w57 := (Ext.rfl' _).of_alloc e57
      have z57 : w57.heap.size = w56.drew.heap.size + 1 := by rw [e57]; simp
      have hr57 : Row w57 w56.drew.heap.size ([itv (n, d), itv (mo, (d.1 + 1, d.2.1, d.2.2))].flatten) 36 := by rw [e57]; exact Row.new _ [_, _, _, _, _, _, _, _] _
      have hrd57 : RdK w57 ⟨some ⟨w56.drew.heap.size, 0, none⟩, 2, 2⟩ 4 ([((n, d) : It), (mo, (d.1 + 1, d.2.1, d.2.2))].map itv) := row_rdK (rows := [itv (n, d), itv (mo, (d.1 + 1, d.2.1, d.2.2))]) hr57 (by simp) rfl
      have hblk : ∀ b, (⟨some ⟨w56.drew.heap.size, 0, none⟩, 2, 2⟩ : Sl).blk = some b → b = w56.drew.heap.size := fun b hb => by
        have : w56.drew.heap.size = b := by simpa [Sl.blk] using hb
        omega
      refine (Put_spec (a := ⟨some ⟨w56.drew.heap.size, 0, none⟩, 2, 2⟩) (h56.ext x57) hq ⟨hl.1, by show q.lost + ((2 : Nat) : Int) ≤ _; omega⟩ hrd57 (fun b hb => by have := hblk b hb; omega) (fun b hb hf => by have := hblk b hb; have := hlt _ hf; have := xw.size; omega)).mono ?_
      rintro e w58 ⟨rfl, s58, h58, t58⟩
      have z58 := t58.mod.size
      refine ⟨_, rfl, ?_⟩
      keepm t58 hlt
      have hb58 := t58.mod.row (hb56d.ext x57) ((h56.ext x57).no_row (hb56d.ext x57) (by decide) (by decide))
      refine ⟨hb58.loadL (fun j hj => by rw [Nat.zero_add]), fun w18 e18 => ?_⟩
      last t58 (h56.ext x57) h58 (ho56.ext x57) (xw.tr x57) (xw2.tr x57) e18
      rw [hpx, hc1, hc2]
      have hw2 : IntKind.wrap .i64 (IntKind.wrap .i64 (0 + 1) + 1) = 2 := by decide
      have hw1 : IntKind.wrap .i64 (0 + 1) = 1 := by decide
      first | rw [hw2] | rw [hw1] | skip
      rfl
end Go.Proofs.Ytbphdgiepimmkaa
