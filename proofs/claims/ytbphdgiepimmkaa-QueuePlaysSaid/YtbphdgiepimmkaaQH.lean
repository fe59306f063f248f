import Derived.Test.YtbphdgiepimmkaaQF
set_option linter.all false
namespace Go.Proofs.Ytbphdgiepimmkaa
open Go Go.Vc Go.RowKit Go.Proofs Go.Que

theorem Foot.turned {g m : Nat} {s s' : Sl} {w w' : World} (hm : Mod (Foot g m s) w w') (hs : ∀ b, s'.blk = some b → s.blk = some b ∨ w.heap.size ≤ b) : Turned (Foot g m s) (Foot g m s') w w' :=
  ⟨hm, fun i hi => by
    rcases hi with h | h | h
    · exact .inl (.inl h)
    · exact .inl (.inr (.inl h))
    · rcases hs i h with h | h
      · exact .inl (.inr (.inr h))
      · exact .inr h⟩
theorem push_spec {w : World} {g m : Nat} {s : Sl} {q : QS} (h : QIs w g m s q) (hsort : q.l.Pairwise fun a b => a.1 ≤ b.1) (hl : q.l.length ≤ 4998) {x : It} (hx : ∀ y ∈ q.l, y.2 ≠ x.2) :
    Calls Try.prog n_queue_Queue_push #[.pointer (some ⟨g, 0, none⟩), .agg (itv x).toArray] w fun e w' => e = .returned (.tuple #[]) ∧ ∃ s', QIs w' g m s' { q with l := qins q.l x } ∧ Turned (Foot g m s) (Foot g m s') w w' := by
  apply queue_Queue_push.vc
  intro w0 e0
  have x0 : Ext w w0 := (Ext.rfl' w).of_alloc e0
  have hs0 : w0.heap.size = w.heap.size + 1 := by rw [e0]; simp
  have h0 := h.ext (x0.drew)
  refine ⟨s, h0.row.at 2 rfl, ?_⟩
  refine (Bin_spec x (h0.own.rd (by decide)) hsort (by omega)).mono ?_
  rintro e w2 ⟨⟨b, rfl⟩, x2⟩
  refine ⟨_, b, rfl, x2.heap (show w.heap.size < w0.heap.size by omega), ?_⟩
  have h2 := (h0.ext x2).ext (Ext.dr _)
  refine ⟨s, h2.row.at 2 rfl, ?_⟩
  intro w6 e6
  have x6 : Ext w2.drew w6 := (Ext.rfl' _).of_alloc e6
  have h6 := h2.ext x6
  have hrow : Row w6 w2.drew.heap.size (itv x) tItem := by rw [e6]; exact Row.new _ _ _
  have hz2 := x2.size
  have hsz : w.heap.size < w2.drew.heap.size := Nat.lt_of_lt_of_le (show w.heap.size < w0.heap.size by omega) hz2
  have hk := (List.takeWhile_sublist (fun y : It => decide (y.1 ≤ x.1)) (l := q.l)).length_le
  have hsb : s.blk ≠ some w2.drew.heap.size := fun e => by
    have := h2.lt _ (.inr (.inr e)); omega
  refine (Insert_spec h6.own hrow hk (by omega) hsb).mono ?_
  rintro e w7 ⟨s8, rfl, ho8, hm8, hs8⟩
  have hbox : s.blk ≠ some w.heap.size := fun e => by
    have := h.lt _ (.inr (.inr e)); omega
  have x06 : Ext w w6 := ((x0.drew).tr x2).tr ((Ext.dr _).tr x6)
  refine ⟨s8, rfl, hm8.same _ (by have := x6.size; omega) hbox, ?_⟩
  have hr7 : Row w7 g (qcells q s m) tQueue := hm8.row h6.row h6.s_ne_g
  obtain ⟨p1, p2⟩ := hr7.put1 (j := 2) (v := .slice s8.a s8.n s8.c) (by simp) rfl
  refine ⟨⟨rfl, p1⟩, ?_, ?_⟩
  · rw [pblk_padd]
    intro e
    have := h.row.lt
    have : g = w.heap.size := by simpa [pblk] using e
    omega
  intro w9 e9
  obtain ⟨q1, q2⟩ := p2 w9 e9
  have x9 := Ext.dr w9
  have hr9 := q1.ext x9
  refine ⟨some m, hr9.at 3 rfl, ?_⟩
  obtain ⟨kvs, hmap, ht⟩ := h6.map
  have hmap9 : MapIs GC w9.drew (some m) kvs := (Mod.of_ext (F := fun _ => False) x9).map (q2.map (hm8.map hmap h6.s_ne_m) (Ne.symm h.g_ne_m)) (by simp)
  refine ⟨GC, kvs, cellKey, rfl, hmap9, ⟨x.2, rfl⟩, ?_⟩
  intro w13 hrec hmap13
  have hm13 := Mod.of_rec hrec
  refine ⟨rfl, s8, ⟨?_, ?_, _, hmap13, ht.ins hx⟩, Foot.turned ?_ ?_⟩
  · exact hm13.row hr9 h.g_ne_m
  · have he := qins_eq q.l x
    rw [he] at ho8
    have hrow8 := fun b hb => own_row ho8 (by decide) (b := b) hb
    refine hm13.ownK ((q2.ownK ho8 fun b hb hf => ?_).ext x9) fun b hb hf => ?_
    · obtain ⟨cs, hr⟩ := hrow8 b hb
      exact hr.ne hr7 (by decide) hf
    · obtain ⟨cs, hr⟩ := hrow8 b hb
      exact hr.ne_map (hm8.map hmap h6.s_ne_m) hf
  · refine ((((Mod.of_ext x06).trans (hm8.mono fun b _ hb => .inr (.inr hb))).trans (q2.mono fun b _ hb => .inl hb)).trans (Mod.of_ext x9)).trans (hm13.mono fun b _ hb => .inr (.inl hb))
  · intro b hb
    rcases hs8 b hb with h1 | h1
    · exact .inl h1
    · exact .inr (Nat.le_trans x06.size h1)
theorem Drop_spec {w : World} {g m : Nat} {s : Sl} {q : QS} (h : QIs w g m s q) (hq : QOk q) (c : Cl) :
    Calls Try.prog n_queue_Queue_Drop #[.pointer (some ⟨g, 0, none⟩), cv c] w fun e w' => e = .returned (.bool (qtick q.l c).isSome) ∧ ∃ s', QIs w' g m s' { q with l := qdrop q.l c } ∧ Turned (Foot g m s) (Foot g m s') w w' := by
  apply queue_Queue_Drop.vc
  intro w0 e0
  have x0 : Ext w w0 := (Ext.rfl' w).of_alloc e0
  have hbox0 : Row w0 w.heap.size (clv c) tCell := by rw [e0]; exact Row.new _ _ _
  have h0 := h.ext x0.drew
  obtain ⟨kvs, hm, ht⟩ := h0.map
  refine ⟨some m, h0.row.at 3 rfl, GC, kvs, cellKey, hm, ⟨c, rfl⟩, _, _, ht.look hq.nodup c, Br.mk (fun hb => ?_) (fun hb => ?_)⟩
  · have hn : qtick q.l c = none := by simpa using hb
    refine ⟨by rw [hn]; rfl, s, ?_, Turned.of_ext x0.drew⟩
    have : qdrop q.l c = q.l := by
      unfold qdrop; rw [List.filter_eq_self]; intro y hy; simpa using qtick_none hn y hy
    rw [this]; exact h0
  · have hsome : (qtick q.l c).isSome = true := by simpa using hb
    have h1 := h0.ext (Ext.dr _)
    refine ⟨some m, h1.row.at 3 rfl, GC, kvs, cellKey, rfl, (Mod.of_ext (F := fun _ => False) (Ext.dr _)).map hm (by simp), ⟨c, rfl⟩, ?_⟩
    intro w9 hrec hmap9
    have hm9 := Mod.of_rec hrec
    have hr9 : Row w9 g (qcells q s m) tQueue := hm9.row h1.row h.g_ne_m
    refine ⟨s, hr9.at 2 rfl, ?_⟩
    have hlen := hq.len
    have hroom := hq.room
    have hbox9 : Row w9 w.heap.size (clv c) tCell := hm9.row (hbox0.ext (Ext.dr _ |>.tr (Ext.dr _))) (fun e => by
      have : w.heap.size = m := e
      have := h.lt m (.inr (.inl rfl)); omega)
    have ho9 : OwnK 0 tItem 4 w9 s (q.l.map itv) := hm9.ownK h1.own fun b hb hf => h1.s_ne_m (by rw [hb]; exact congrArg some hf)
    refine (DeleteFunc_spec ho9 hbox9 (by omega)).mono ?_
    rintro e w11 ⟨s12, rfl, ho12, hm12, hs12⟩
    have hsm : s.blk ≠ some m := h.s_ne_m
    have hr11 : Row w11 g (qcells q s m) tQueue := hm12.row hr9 h.s_ne_g
    obtain ⟨p1, p2⟩ := hr11.put1 (j := 2) (v := .slice s12.a s12.n s12.c) (by simp) rfl
    refine ⟨s12, rfl, ⟨rfl, p1⟩, fun w13 e13 => ?_⟩
    obtain ⟨q1, q2⟩ := p2 w13 e13
    refine ⟨by rw [hsome], s12, ⟨q1, ?_, _, q2.map (hm12.map hmap9 hsm) (Ne.symm h.g_ne_m), ht.del c⟩, Foot.turned ?_ ?_⟩
    · refine q2.ownK ho12 fun b hb hf => ?_
      obtain ⟨cs, hr⟩ := own_row ho12 (by decide) hb
      exact hr.ne hr11 (by decide) hf
    · exact (((Mod.of_ext (x0.drew.drew)).trans (hm9.mono fun b _ hb => .inr (.inl hb))).trans (hm12.mono fun b _ hb => .inr (.inr hb))).trans (q2.mono fun b _ hb => .inl hb)
    · intro b hb; exact .inl (hs12 ▸ hb)
end Go.Proofs.Ytbphdgiepimmkaa
