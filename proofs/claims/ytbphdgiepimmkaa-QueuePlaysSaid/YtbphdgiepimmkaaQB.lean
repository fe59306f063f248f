import Derived.Test.YtbphdgiepimmkaaQA
set_option linter.all false
namespace Go.Proofs.Ytbphdgiepimmkaa
open Go Go.Vc Go.RowKit Go.Proofs Go.Que

/-- The blocks of a queue. -/
def Foot (g m : Nat) (s : Sl) : Nat → Prop := fun i => i = g ∨ i = m ∨ s.blk = some i
abbrev qcells (q : QS) (s : Sl) (m : Nat) : List Value := [.int .i64 q.room, .int .i64 q.lost, .slice s.a s.n s.c, .map (some m)]
/-- A map that tells a row's ticks. -/
def Ticks (kvs : List (Value × Value)) (l : List It) : Prop := (∀ c t, (cv c, tv t) ∈ kvs ↔ (t, c) ∈ l) ∧ ∀ e ∈ kvs, ∃ c t, e = (cv c, tv t)
structure QIs (w : World) (g m : Nat) (s : Sl) (q : QS) : Prop where
  row : Row w g (qcells q s m) tQueue
  own : OwnK 0 tItem 4 w s (q.l.map itv)
  map : ∃ kvs, MapIs GC w (some m) kvs ∧ Ticks kvs q.l
/-- Rows of another type are none of a queue's. -/
theorem QIs.no_row {w : World} {g m : Nat} {s : Sl} {q : QS} (h : QIs w g m s q) {b : Nat} {cs : List Value} {E : TypeId} (hb : Row w b cs E) (h1 : E ≠ tQueue) (h2 : E ≠ tItem) : ¬ Foot g m s b := by
  rintro (rfl | rfl | e)
  · exact hb.ne h.row h1 rfl
  · obtain ⟨kvs, hm, -⟩ := h.map
    exact hb.ne_map hm rfl
  · obtain ⟨cs', hr⟩ := own_row h.own (by decide) e
    exact hb.ne hr h2 rfl
theorem QIs.no_own {w : World} {g m : Nat} {s : Sl} {q : QS} (h : QIs w g m s q) {B E k : Nat} {s' : Sl} {rows : List (List Value)} (ho : OwnK B E k w s' rows) (hk : 0 < k) (h1 : E ≠ tQueue) (h2 : E ≠ tItem) : ∀ b, s'.blk = some b → ¬ Foot g m s b := fun b hb => by
  obtain ⟨cs, hr⟩ := own_row ho hk hb
  exact h.no_row hr h1 h2
theorem QIs.lt {w : World} {g m : Nat} {s : Sl} {q : QS} (h : QIs w g m s q) : ∀ i, Foot g m s i → i < w.heap.size := by
  rintro i (rfl | rfl | e)
  · exact h.row.lt
  · obtain ⟨kvs, hm, -⟩ := h.map
    exact hm.lt
  · exact (h.own.own.lt e).2
theorem QIs.keep {w w' : World} {g m : Nat} {s : Sl} {q : QS} (h : QIs w g m s q) {F : Nat → Prop} (hm : Mod F w w') (hn : ∀ i, Foot g m s i → ¬ F i) : QIs w' g m s q := by
  obtain ⟨kvs, h1, h2⟩ := h.map
  exact ⟨hm.row h.row (hn g (.inl rfl)), hm.ownK h.own fun b hb => hn b (.inr (.inr hb)), kvs, hm.map h1 (hn m (.inr (.inl rfl))), h2⟩
theorem QIs.ext {w w' : World} {g m : Nat} {s : Sl} {q : QS} (h : QIs w g m s q) (x : Ext w w') : QIs w' g m s q :=
  h.keep (F := fun _ => False) ⟨x.os, x.tape, x.output, x.size, fun i hi _ => x.heap hi⟩ fun _ _ hf => hf
theorem QIs.g_ne_m {w : World} {g m : Nat} {s : Sl} {q : QS} (h : QIs w g m s q) : g ≠ m := by
  obtain ⟨kvs, hm, -⟩ := h.map
  exact h.row.ne_map hm
theorem QIs.s_ne_m {w : World} {g m : Nat} {s : Sl} {q : QS} (h : QIs w g m s q) : s.blk ≠ some m := fun e => by
  obtain ⟨kvs, hm, -⟩ := h.map
  obtain ⟨cs, hr⟩ := own_row h.own (by decide) e
  exact hr.ne_map hm rfl
theorem QIs.s_ne_g {w : World} {g m : Nat} {s : Sl} {q : QS} (h : QIs w g m s q) : s.blk ≠ some g := fun e => by
  obtain ⟨cs, hr⟩ := own_row h.own (by decide) e
  exact hr.ne h.row (by decide) rfl
theorem Ticks.look {kvs : List (Value × Value)} {l : List It} (h : Ticks kvs l) (hn : (l.map (·.2)).Nodup) (c : Cl) : Look kvs (cv c) (tv 0) (tv ((qtick l c).getD 0)) (qtick l c).isSome := by
  cases hq : qtick l c with
  | some t => exact .inl ⟨rfl, (h.1 c t).2 (qtick_some hq)⟩
  | none =>
    refine .inr ⟨rfl, rfl, fun e he hk => ?_⟩
    obtain ⟨c', t, rfl⟩ := h.2 e he
    exact qtick_none hq (t, c') ((h.1 _ _).1 he) (cv_inj hk)
open Classical in
theorem Ticks.del {kvs : List (Value × Value)} {l : List It} (h : Ticks kvs l) (c : Cl) : Ticks (delL kvs (cv c)) (qdrop l c) := by
  refine ⟨fun c' t => ?_, fun e he => h.2 e (List.mem_filter.1 he).1⟩
  unfold delL qdrop
  rw [List.mem_filter, List.mem_filter, h.1]
  refine and_congr_right fun _ => ?_
  rw [bne_iff_ne]
  refine decide_eq_true_iff.trans ?_
  exact not_congr ⟨fun e => cv_inj e, fun e => by rw [show c' = c from e]⟩
theorem Ticks.ins {kvs : List (Value × Value)} {l : List It} (h : Ticks kvs l) {x : It} (hx : ∀ y ∈ l, y.2 ≠ x.2) : Ticks (insL kvs (cv x.2) (tv x.1)) (qins l x) := by
  unfold insL
  rw [if_neg]
  · refine ⟨fun c t => ?_, fun e he => ?_⟩
    · rw [List.mem_append, h.1, qins_mem, List.mem_singleton]
      constructor
      · rintro (h1 | h1)
        · exact .inr h1
        · obtain ⟨e1, e2⟩ := Prod.mk.inj h1
          have := cv_inj e1
          have h2 : t = x.1 := by unfold tv at e2; injection e2
          left; rw [this, h2]
      · rintro (h1 | h1)
        · right; rw [← h1]
        · exact .inl h1
    · rcases List.mem_append.1 he with he | he
      · exact h.2 e he
      · rw [List.mem_singleton] at he; exact ⟨_, _, he⟩
  · rintro ⟨e, he, hk⟩
    obtain ⟨c', t, rfl⟩ := h.2 e he
    exact hx (t, c') ((h.1 _ _).1 he) (cv_inj hk)
theorem Ticks.perm {kvs : List (Value × Value)} {l l' : List It} (h : Ticks kvs l) (hl : ∀ x, x ∈ l ↔ x ∈ l') : Ticks kvs l' := ⟨fun c t => (h.1 c t).trans (hl _), h.2⟩

theorem New_spec (room : Int) (w : World) : Calls Try.prog n_queue_New #[.int .i64 room] w fun e w' => ∃ g m, e = .returned (.pointer (some ⟨g, 0, none⟩)) ∧ QIs w' g m ⟨none, 0, 0⟩ ⟨min (max room 1) 4096, 0, []⟩ ∧ Ext w w' ∧ w.heap.size ≤ g ∧ w.heap.size ≤ m := by
  apply queue_New.vc
  intro w0 e0 w1 e1
  have hm : MapIs GC w0 (some w.heap.size) [] := by rw [e0]; exact MapIs.new
  have x1 : Ext w0 w1 := (Ext.rfl' _).of_alloc e1
  refine ⟨w0.heap.size, w.heap.size, rfl, ⟨?_, OwnK.nil, [], ?_, by simp [Ticks]⟩, ((Ext.rfl' _).of_alloc e0).tr x1, ?_, Nat.le_refl _⟩
  · have : (min (max room 1) 4096) = (if 4096 < (if 1 > room then 1 else room) then 4096 else (if 1 > room then 1 else room)) := by
      split <;> split <;> omega
    rw [e1, this]
    exact Row.new w0 [_, _, _, _] _
  · exact hm.same (x1.heap hm.lt)
  · rw [e0]; simp
theorem At_spec {w : World} {g m : Nat} {s : Sl} {q : QS} (h : QIs w g m s q) (hq : QOk q) (c : Cl) : Calls Try.prog n_queue_Queue_At #[.pointer (some ⟨g, 0, none⟩), cv c] w fun e w' => e = .returned (.tuple #[.int .i64 ((qtick q.l c).getD 0), .bool (qtick q.l c).isSome]) ∧ Ext w w' := by
  apply queue_Queue_At.vc
  intro w0 e0
  have x0 : Ext w w0.drew := (Ext.rfl' w |>.of_alloc e0).drew
  have h0 := h.ext x0
  obtain ⟨kvs, hm, ht⟩ := h0.map
  exact ⟨some m, h0.row.at 3 rfl, GC, kvs, cellKey, hm, ⟨c, rfl⟩, _, _, ht.look hq.nodup c, rfl, x0⟩
theorem Len_spec {w : World} {g m : Nat} {s : Sl} {q : QS} (h : QIs w g m s q) : Calls Try.prog n_queue_Queue_Len #[.pointer (some ⟨g, 0, none⟩)] w fun e w' => e = .returned (.int .i64 q.l.length) ∧ Ext w w' := by
  apply queue_Queue_Len.vc
  have hn : s.n = q.l.length := by rw [(h.own.rd (by decide)).n, List.length_map]
  refine ⟨s, h.row.at 2 rfl, ?_⟩
  rw [hn]
  exact ⟨rfl, Ext.rfl' _⟩
theorem Lost_spec {w : World} {g m : Nat} {s : Sl} {q : QS} (h : QIs w g m s q) : Calls Try.prog n_queue_Queue_Lost #[.pointer (some ⟨g, 0, none⟩)] w fun e w' => e = .returned (.int .i64 q.lost) ∧ Ext w w' := by
  apply queue_Queue_Lost.vc
  exact ⟨q.lost, h.row.at 1 rfl, rfl, Ext.rfl' _⟩
end Go.Proofs.Ytbphdgiepimmkaa
namespace Go.Proofs.Ytbphdgiepimmkaa
open Go Go.Vc Go.RowKit Go.Proofs Go.Que

theorem Foot.turned {g m : Nat} {s s' : Sl} {w w' : World} (hm : Mod (Foot g m s) w w') (hs : ∀ b, s'.blk = some b → s.blk = some b ∨ w.heap.size ≤ b) : Turned (Foot g m s) (Foot g m s') w w' :=
  ⟨hm, fun i hi => by
    rcases hi with h | h | h
    · exact .inl (.inl h)
    · exact .inl (.inr (.inl h))
    · rcases hs i h with h | h
      · exact .inl (.inr (.inr h))
      · exact .inr h⟩
theorem push_spec {w : World} {g m : Nat} {s : Sl} {q : QS} (h : QIs w g m s q) (hsort : q.l.Pairwise fun a b => a.1 ≤ b.1) (hl : q.l.length ≤ 4998) {x : It} (hx : ∀ y ∈ q.l, y.2 ≠ x.2) :
    Calls Try.prog n_queue_Queue_push #[.pointer (some ⟨g, 0, none⟩), .agg (itv x).toArray] w fun e w' => e = .returned (.tuple #[]) ∧ ∃ s', QIs w' g m s' { q with l := qins q.l x } ∧ Turned (Foot g m s) (Foot g m s') w w' := by
  apply queue_Queue_push.vc
  intro w0 e0
  have x0 : Ext w w0 := (Ext.rfl' w).of_alloc e0
  have hs0 : w0.heap.size = w.heap.size + 1 := by rw [e0]; simp
  have h0 := h.ext (x0.drew)
  refine ⟨s, h0.row.at 2 rfl, ?_⟩
  refine (Bin_spec x (h0.own.rd (by decide)) hsort (by omega)).mono ?_
  rintro e w2 ⟨⟨b, rfl⟩, x2⟩
  refine ⟨_, b, rfl, x2.heap (show w.heap.size < w0.heap.size by omega), ?_⟩
  have h2 := (h0.ext x2).ext (Ext.dr _)
  refine ⟨s, h2.row.at 2 rfl, ?_⟩
  intro w6 e6
  have x6 : Ext w2.drew w6 := (Ext.rfl' _).of_alloc e6
  have h6 := h2.ext x6
  have hrow : Row w6 w2.drew.heap.size (itv x) tItem := by rw [e6]; exact Row.new _ _ _
  have hz2 := x2.size
  have hsz : w.heap.size < w2.drew.heap.size := Nat.lt_of_lt_of_le (show w.heap.size < w0.heap.size by omega) hz2
  have hk := (List.takeWhile_sublist (fun y : It => decide (y.1 ≤ x.1)) (l := q.l)).length_le
  have hsb : s.blk ≠ some w2.drew.heap.size := fun e => by
    have := h2.lt _ (.inr (.inr e)); omega
  refine (Insert_spec h6.own hrow hk (by omega) hsb).mono ?_
  rintro e w7 ⟨s8, rfl, ho8, hm8, hs8⟩
  have hbox : s.blk ≠ some w.heap.size := fun e => by
    have := h.lt _ (.inr (.inr e)); omega
  have x06 : Ext w w6 := ((x0.drew).tr x2).tr ((Ext.dr _).tr x6)
  refine ⟨s8, rfl, hm8.same _ (by have := x6.size; omega) hbox, ?_⟩
  have hr7 : Row w7 g (qcells q s m) tQueue := hm8.row h6.row h6.s_ne_g
  obtain ⟨p1, p2⟩ := hr7.put1 (j := 2) (v := .slice s8.a s8.n s8.c) (by simp) rfl
  refine ⟨⟨rfl, p1⟩, ?_, ?_⟩
  · rw [pblk_padd]
    intro e
    have := h.row.lt
    have : g = w.heap.size := by simpa [pblk] using e
    omega
  intro w9 e9
  obtain ⟨q1, q2⟩ := p2 w9 e9
  have x9 := Ext.dr w9
  have hr9 := q1.ext x9
  refine ⟨some m, hr9.at 3 rfl, ?_⟩
  obtain ⟨kvs, hmap, ht⟩ := h6.map
  have hmap9 : MapIs GC w9.drew (some m) kvs := (Mod.of_ext (F := fun _ => False) x9).map (q2.map (hm8.map hmap h6.s_ne_m) (Ne.symm h.g_ne_m)) (by simp)
  refine ⟨GC, kvs, cellKey, rfl, hmap9, ⟨x.2, rfl⟩, ?_⟩
  intro w13 hrec hmap13
  have hm13 := Mod.of_rec hrec
  refine ⟨rfl, s8, ⟨?_, ?_, _, hmap13, ht.ins hx⟩, Foot.turned ?_ ?_⟩
  · exact hm13.row hr9 h.g_ne_m
  · have he := qins_eq q.l x
    rw [he] at ho8
    have hrow8 := fun b hb => own_row ho8 (by decide) (b := b) hb
    refine hm13.ownK ((q2.ownK ho8 fun b hb hf => ?_).ext x9) fun b hb hf => ?_
    · obtain ⟨cs, hr⟩ := hrow8 b hb
      exact hr.ne hr7 (by decide) hf
    · obtain ⟨cs, hr⟩ := hrow8 b hb
      exact hr.ne_map (hm8.map hmap h6.s_ne_m) hf
  · refine ((((Mod.of_ext x06).trans (hm8.mono fun b _ hb => .inr (.inr hb))).trans (q2.mono fun b _ hb => .inl hb)).trans (Mod.of_ext x9)).trans (hm13.mono fun b _ hb => .inr (.inl hb))
  · intro b hb
    rcases hs8 b hb with h1 | h1
    · exact .inl h1
    · exact .inr (Nat.le_trans x06.size h1)
theorem Drop_spec {w : World} {g m : Nat} {s : Sl} {q : QS} (h : QIs w g m s q) (hq : QOk q) (c : Cl) :
    Calls Try.prog n_queue_Queue_Drop #[.pointer (some ⟨g, 0, none⟩), cv c] w fun e w' => e = .returned (.bool (qtick q.l c).isSome) ∧ ∃ s', QIs w' g m s' { q with l := qdrop q.l c } ∧ Turned (Foot g m s) (Foot g m s') w w' := by
  apply queue_Queue_Drop.vc
  intro w0 e0
  have x0 : Ext w w0 := (Ext.rfl' w).of_alloc e0
  have hbox0 : Row w0 w.heap.size (clv c) tCell := by rw [e0]; exact Row.new _ _ _
  have h0 := h.ext x0.drew
  obtain ⟨kvs, hm, ht⟩ := h0.map
  refine ⟨some m, h0.row.at 3 rfl, GC, kvs, cellKey, hm, ⟨c, rfl⟩, _, _, ht.look hq.nodup c, Br.mk (fun hb => ?_) (fun hb => ?_)⟩
  · have hn : qtick q.l c = none := by simpa using hb
    refine ⟨by rw [hn]; rfl, s, ?_, Turned.of_ext x0.drew⟩
    have : qdrop q.l c = q.l := by
      unfold qdrop; rw [List.filter_eq_self]; intro y hy; simpa using qtick_none hn y hy
    rw [this]; exact h0
  · have hsome : (qtick q.l c).isSome = true := by simpa using hb
    have h1 := h0.ext (Ext.dr _)
    refine ⟨some m, h1.row.at 3 rfl, GC, kvs, cellKey, rfl, (Mod.of_ext (F := fun _ => False) (Ext.dr _)).map hm (by simp), ⟨c, rfl⟩, ?_⟩
    intro w9 hrec hmap9
    have hm9 := Mod.of_rec hrec
    have hr9 : Row w9 g (qcells q s m) tQueue := hm9.row h1.row h.g_ne_m
    refine ⟨s, hr9.at 2 rfl, ?_⟩
    have hlen := hq.len
    have hroom := hq.room
    have hbox9 : Row w9 w.heap.size (clv c) tCell := hm9.row (hbox0.ext (Ext.dr _ |>.tr (Ext.dr _))) (fun e => by
      have : w.heap.size = m := e
      have := h.lt m (.inr (.inl rfl)); omega)
    have ho9 : OwnK 0 tItem 4 w9 s (q.l.map itv) := hm9.ownK h1.own fun b hb hf => h1.s_ne_m (by rw [hb]; exact congrArg some hf)
    refine (DeleteFunc_spec ho9 hbox9 (by omega)).mono ?_
    rintro e w11 ⟨s12, rfl, ho12, hm12, hs12⟩
    have hsm : s.blk ≠ some m := h.s_ne_m
    have hr11 : Row w11 g (qcells q s m) tQueue := hm12.row hr9 h.s_ne_g
    obtain ⟨p1, p2⟩ := hr11.put1 (j := 2) (v := .slice s12.a s12.n s12.c) (by simp) rfl
    refine ⟨s12, rfl, ⟨rfl, p1⟩, fun w13 e13 => ?_⟩
    obtain ⟨q1, q2⟩ := p2 w13 e13
    refine ⟨by rw [hsome], s12, ⟨q1, ?_, _, q2.map (hm12.map hmap9 hsm) (Ne.symm h.g_ne_m), ht.del c⟩, Foot.turned ?_ ?_⟩
    · refine q2.ownK ho12 fun b hb hf => ?_
      obtain ⟨cs, hr⟩ := own_row ho12 (by decide) hb
      exact hr.ne hr11 (by decide) hf
    · exact (((Mod.of_ext (x0.drew.drew)).trans (hm9.mono fun b _ hb => .inr (.inl hb))).trans (hm12.mono fun b _ hb => .inr (.inr hb))).trans (q2.mono fun b _ hb => .inl hb)
    · intro b hb; exact .inl (hs12 ▸ hb)
end Go.Proofs.Ytbphdgiepimmkaa
namespace Go.Proofs.Ytbphdgiepimmkaa
open Go Go.Vc Go.RowKit Go.Proofs Go.Que

theorem Add_spec {w : World} {g m : Nat} {s : Sl} {q : QS} (h : QIs w g m s q) (hq : QOk q) (hl : 0 ≤ q.lost ∧ q.lost ≤ 1000000) (c : Cl) (t : Int) :
    Calls Try.prog n_queue_Queue_Add #[.pointer (some ⟨g, 0, none⟩), cv c, .int .i64 t] w fun e w' => e = .returned (.bool (qadd q c t).2) ∧ ∃ s', QIs w' g m s' (qadd q c t).1 ∧ Turned (Foot g m s) (Foot g m s') w w' := by
  apply queue_Queue_Add.vc
  intro w0 e0
  have x0 : Ext w w0 := (Ext.rfl' w).of_alloc e0
  have hs0 : w0.heap.size = w.heap.size + 1 := by rw [e0]; simp
  have h0 := h.ext x0
  have hn : s.n = q.l.length := by rw [(h.own.rd (by decide)).n, List.length_map]
  have hlen := hq.len
  have hroom := hq.room
  have hbg : g < w.heap.size := h.row.lt
  have hbf : ∀ {s' : Sl} {w1 w' : World}, w.heap.size < w1.heap.size → Turned (Foot g m s) (Foot g m s') w1 w' → w'.heap[w.heap.size]? = w1.heap[w.heap.size]? := fun hlt ht =>
    ht.mod.same _ hlt fun hf => by have := h.lt _ hf; omega
  refine (At_spec h0 hq c).mono ?_
  rintro e w1 ⟨rfl, x1⟩
  have h1 := h0.ext x1
  have x01 := x0.tr x1
  have hz1 : w.heap.size < w1.heap.size := by have := x1.size; omega
  refine ⟨_, _, rfl, x1.heap (show w.heap.size < w0.heap.size by omega), Br.mk (fun hb => ?_) (fun hb => ?_)⟩
  · obtain ⟨was, hw⟩ := Option.isSome_iff_exists.1 hb
    have hg : (qtick q.l c).getD 0 = was := by rw [hw]; rfl
    rw [hg]
    refine Br.mk (fun hc => ?_) (fun hc => Br.mk (fun _ => ?_) (fun hn => by rw [hb] at hn; cases hn))
    · simp only [decide_eq_true_eq] at hc
      have e : qadd q c t = (q, false) := by unfold qadd; rw [hw]; simp [hc]
      rw [e]
      exact ⟨rfl, s, h1, Turned.of_ext x01⟩
    · simp only [decide_eq_false_iff_not] at hc
      have e : qadd q c t = ({ q with l := qins (qdrop q.l c) (t, c) }, true) := by unfold qadd; rw [hw]; simp [hc]
      rw [e]
      refine (Drop_spec h1 hq c).mono ?_
      rintro e w4 ⟨rfl, s4, h4, t4⟩
      refine ⟨_, rfl, hbf hz1 t4, ?_⟩
      have hq4 := hq.drop c
      have hl4 := hq4.len
      have hz4 := t4.mod.size
      refine (push_spec (x := (t, c)) h4 hq4.sorted (by simp only at hl4 ⊢; omega) (fun y hy => by
        have := (List.mem_filter.1 hy).2
        simpa using this)).mono ?_
      rintro e w6 ⟨rfl, s6, h6, t6⟩
      refine ⟨rfl, t6.mod.same _ (by omega) (fun hf => ?_), rfl, s6, h6, ((Turned.of_ext x01).trans t4).trans t6⟩
      rcases t4.sub _ hf with hf | hf
      · have := h.lt _ hf; omega
      · omega
  · refine Br.mk (fun hb' => by rw [hb] at hb'; cases hb') (fun _ => ?_)
    have hw : qtick q.l c = none := by simpa using hb
    have h1d := h1.ext (Ext.dr w1)
    refine ⟨s, h1d.row.at 2 rfl, q.room, h1d.row.at 0 rfl, ?_⟩
    rw [hn]
    refine Br.mk (fun hc => ?_) (fun hc => ?_)
    · have hc' : ((q.l.length : Nat) : Int) = q.room := by simpa using hc
      have e : qadd q c t = ({ q with lost := q.lost + 1 }, false) := by unfold qadd; rw [hw]; simp [hc']
      rw [e]
      obtain ⟨p1, p2⟩ := h1d.row.put1 (j := 1) (v := .int .i64 (IntKind.wrap .i64 (q.lost + 1))) (by simp) rfl
      refine ⟨q.lost, h1d.row.at 1 rfl, ⟨rfl, p1⟩, ?_, fun w10 e10 => ?_⟩
      · rw [pblk_padd]
        intro e
        have : g = w.heap.size := by simpa [pblk] using e
        omega
      · obtain ⟨q1, q2⟩ := p2 w10 e10
        rw [wrap_in (by unfold inI; omega)] at q1
        obtain ⟨kvs, hm, ht⟩ := h1d.map
        refine ⟨rfl, s, ⟨q1, q2.ownK h1d.own fun b hb hf => h.s_ne_g (by rw [hb]; exact congrArg some hf), kvs, q2.map hm (Ne.symm h.g_ne_m), ht⟩, (Turned.of_ext x01.drew).trans (Foot.turned (q2.mono fun b _ hb => .inl hb) fun b hb => .inl hb)⟩
    · have hc' : ((q.l.length : Nat) : Int) ≠ q.room := by simpa using hc
      have e : qadd q c t = ({ q with l := qins q.l (t, c) }, true) := by
        unfold qadd; rw [hw]
        have : ¬ (q.l.length : Int) ≥ q.room := by omega
        simp only
        rw [if_neg this]
      rw [e]
      refine (push_spec (x := (t, c)) h1d hq.sorted (by omega) (qtick_none hw)).mono ?_
      rintro e w6 ⟨rfl, s6, h6, t6⟩
      exact ⟨rfl, hbf hz1 t6, rfl, s6, h6, (Turned.of_ext x01.drew).trans t6⟩
theorem Put_spec {w : World} {g m : Nat} {s a : Sl} {q : QS} {xs : List It} (h : QIs w g m s q) (hq : QOk q) (hl : 0 ≤ q.lost ∧ q.lost + xs.length ≤ 1000000) (ha : RdK w a 4 (xs.map itv)) (hlt : ∀ b, a.blk = some b → b < w.heap.size) (hd : ∀ b, a.blk = some b → ¬ Foot g m s b) :
    Calls Try.prog n_queue_Queue_Put #[.pointer (some ⟨g, 0, none⟩), .slice a.a a.n a.c] w fun e w' => e = .returned (.int .i64 (qput q xs).2) ∧ ∃ s', QIs w' g m s' (qput q xs).1 ∧ Turned (Foot g m s) (Foot g m s') w w' := by
  have hn : a.n = xs.length := by rw [ha.n, List.length_map]
  apply queue_Queue_Put.vc
  refine ⟨fun n x y wr => ∃ (j k : Nat) (sr : Sl) (qr : QS), x = j ∧ y = k ∧ j + n = xs.length ∧ k ≤ j ∧ QIs wr g m sr qr ∧ QOk qr ∧ Turned (Foot g m s) (Foot g m sr) w wr ∧ 0 ≤ qr.lost ∧ qr.lost ≤ q.lost + j ∧ (qput qr (xs.drop j)).1 = (qput q xs).1 ∧ k + (qput qr (xs.drop j)).2 = (qput q xs).2,
    ⟨xs.length, 0, 0, s, q, rfl, rfl, by omega, Nat.le_refl _, h, hq, Turned.refl _ _, hl.1, by omega, rfl, by simp⟩, ?_⟩
  rintro n us x y wr ⟨j, k, sr, qr, rfl, rfl, h1, h2, hqr, hok, ht, h3, h4, h5, h6⟩
  have har : RdK wr a 4 (xs.map itv) := ht.mod.rdK (by decide) ha fun _ b hb => hd b hb
  refine Br.mk (fun hc => ?_) (fun hc => ?_)
  · simp only [decide_eq_true_eq] at hc
    have hget : xs[j]? = some (xs[j]'(by omega)) := List.getElem?_eq_getElem (by omega)
    have hdrop : xs.drop j = xs[j]'(by omega) :: xs.drop (j + 1) := List.drop_eq_getElem_cons (by omega)
    generalize xs[j]'(by omega) = z at hget hdrop
    refine ⟨⟨har.isSome (by decide) (i := j) (by simp; omega), by omega, by omega⟩, z.1, z.2.1, z.2.2.1, z.2.2.2, RdK.item har hget, ?_⟩
    intro w11 e11 w12 e12
    have x12 : Ext wr w12 := (Ext.rfl' wr |>.of_alloc e11).of_setRow e12 (Nat.le_refl _)
    have hs12 : wr.heap.size < w12.heap.size := by rw [e12, setRow_size, e11]; simp
    refine (Add_spec (hqr.ext x12) hok ⟨h3, by omega⟩ z.2 z.1).mono ?_
    rintro e w13 ⟨rfl, s13, h13, t13⟩
    have hlo := qadd_lost qr z.2 z.1
    have hwj : IntKind.wrap .i64 ((j : Int) + 1) = ((j + 1 : Nat) : Int) := by rw [wrap_in (by unfold inI; omega)]; omega
    have hwk : IntKind.wrap .i64 ((k : Int) + 1) = ((k + 1 : Nat) : Int) := by rw [wrap_in (by unfold inI; omega)]; omega
    rw [hdrop] at h5 h6
    simp only [qput] at h5 h6
    have ht' := (ht.trans (Turned.of_ext x12)).trans t13
    refine ⟨_, rfl, t13.mod.same _ hs12 (fun hf => ?_), Br.mk (fun hb => ?_) (fun hb => ?_)⟩
    · have := hqr.lt _ hf; omega
    · rw [hb] at h6
      simp only [if_true] at h6
      rw [hwj, hwk]
      exact ⟨n - 1, by omega, j + 1, k + 1, s13, _, rfl, rfl, by omega, by omega, h13, hok.add _ _, ht', by omega, by omega, h5, by omega⟩
    · rw [hb] at h6
      simp only [Bool.false_eq_true, if_false] at h6
      rw [hwj]
      exact ⟨n - 1, by omega, j + 1, k, s13, _, rfl, rfl, by omega, by omega, h13, hok.add _ _, ht', by omega, by omega, h5, by omega⟩
  · simp only [decide_eq_false_iff_not] at hc
    have hj : j = xs.length := by omega
    rw [hj, List.drop_length] at h5 h6
    simp only [qput] at h5 h6
    refine ⟨by rw [← h6]; rfl, sr, ?_, ht⟩
    rw [← h5]; exact hqr
end Go.Proofs.Ytbphdgiepimmkaa
namespace Go.Proofs.Ytbphdgiepimmkaa
open Go Go.Vc Go.RowKit Go.Proofs Go.Que

theorem Clone_spec {w : World} {s : Sl} {l : List It} (ho : OwnK 0 tItem 4 w s (l.map itv)) (hl : l.length ≤ 5000) :
    Calls Try.prog n_slices_Clone_Item #[.slice s.a s.n s.c] w fun e w' => ∃ s' : Sl, e = .returned (.slice s'.a s'.n s'.c) ∧ OwnK w.heap.size tItem 4 w' s' (l.map itv) ∧ Ext w w' := by
  apply slices_Clone_Item.vc
  have hn : s.n = l.length := by rw [(ho.rd (by decide)).n, List.length_map]
  refine Br.mk (fun h => ?_) (fun h => ?_)
  · rcases ho.form (by decide) with ⟨hs, hnil⟩ | ⟨g0, cs, ha, -⟩
    · exact ⟨⟨none, 0, 0⟩, rfl, by rw [hnil]; exact OwnK.nil, Ext.rfl' _⟩
    · rw [ha] at h; cases h
  · intro w0 e0
    have x0 : Ext w w0 := (Ext.rfl' w).of_alloc e0
    have hs0 : w0.heap.size = w.heap.size + 1 := by rw [e0]; simp
    have hr0 : Row w0 w.heap.size [] tItem := by rw [e0]; exact Row.new _ _ _
    have hown : OwnK w.heap.size tItem 4 w0 ⟨some ⟨w.heap.size, 0, none⟩, 0, 0⟩ [] := OwnK.of_row (Nat.le_refl _) hr0 (by simp) (Nat.le_refl _) rfl (by simp)
    obtain ⟨hp, hr⟩ := hown.appN (bytes := 32) (more := l.map itv) x0.size (rows_wd _) (rows_one _) (by simp; omega) (by simp; omega)
    rw [List.length_map, ← hn] at hp hr
    refine ⟨(l.map itv).flatten, ((ho.ext x0).rd (by decide)).flat (by decide), hp, fun s2 w3 hres => ?_⟩
    obtain ⟨h1, h2, h3, h4, h5⟩ := hr s2 w3 hres
    refine ⟨AppRes_zero hres (by rw [flatten_len (rows_wd _), List.length_map, hn]) (by omega), s2, rfl, h1, x0.trans h3⟩
theorem All_spec {w : World} {g m : Nat} {s : Sl} {q : QS} (h : QIs w g m s q) (hq : QOk q) : Calls Try.prog n_queue_Queue_All #[.pointer (some ⟨g, 0, none⟩)] w fun e w' => ∃ s' : Sl, e = .returned (.slice s'.a s'.n s'.c) ∧ OwnK w.heap.size tItem 4 w' s' (q.l.map itv) ∧ Ext w w' := by
  apply queue_Queue_All.vc
  have := hq.len
  have := hq.room
  refine ⟨s, h.row.at 2 rfl, (Clone_spec h.own (by omega)).mono ?_⟩
  rintro e w1 ⟨s', rfl, h1, x1⟩
  exact ⟨s', rfl, s', rfl, h1, x1⟩
theorem Next_spec {w : World} {g m : Nat} {s : Sl} {q : QS} (h : QIs w g m s q) : Calls Try.prog n_queue_Queue_Next #[.pointer (some ⟨g, 0, none⟩)] w fun e w' => e = .returned (.tuple #[.agg (itv (q.l.headD (0, 0, 0, 0))).toArray, .bool (!q.l.isEmpty)]) ∧ Ext w w' := by
  apply queue_Queue_Next.vc
  have hn : s.n = q.l.length := by rw [(h.own.rd (by decide)).n, List.length_map]
  intro w0 e0
  have x0 : Ext w w0 := (Ext.rfl' w).of_alloc e0
  have h0 := h.ext x0
  refine ⟨s, h0.row.at 2 rfl, ?_⟩
  rw [hn]
  refine Br.mk (fun hc => ?_) (fun hc => ?_)
  · intro w2 e2
    have : q.l = [] := by
      have : q.l.length = 0 := by simpa using hc
      exact List.length_eq_zero_iff.1 this
    rw [this]
    exact ⟨rfl, x0.of_setRow e2 (Nat.le_refl _)⟩
  · cases hq : q.l with
    | nil => rw [hq] at hc; simp at hc
    | cons y r =>
      have hrd := h0.own.rd (by decide)
      rw [hq] at hrd
      refine ⟨s, h0.row.at 2 rfl, ⟨hrd.isSome (by decide) (i := 0) (by simp), by omega, by rw [hn, hq]; simp⟩, y.1, y.2.1, y.2.2.1, y.2.2.2, RdK.item hrd (i := 0) rfl, ?_⟩
      intro w8 e8
      exact ⟨rfl, x0.of_setRow e8 (Nat.le_refl _)⟩
theorem Due_spec {w : World} {g m : Nat} {s : Sl} {q : QS} (h : QIs w g m s q) (hq : QOk q) (now many : Int) :
    Calls Try.prog n_queue_Queue_Due #[.pointer (some ⟨g, 0, none⟩), .int .i64 now, .int .i64 many] w fun e w' => ∃ so : Sl, e = .returned (.slice so.a so.n so.c) ∧ ∃ s', OwnK w.heap.size tCell 3 w' so ((qdue q now many).2.map clv) ∧ QIs w' g m s' (qdue q now many).1 ∧ Turned (Foot g m s) (Foot g m s') w w' := by
  have hn : s.n = q.l.length := by rw [(h.own.rd (by decide)).n, List.length_map]
  have hlen := hq.len
  have hroom := hq.room
  have hcap : s.n ≤ s.c := by
    rcases h.own.form (by decide) with ⟨hs, -⟩ | ⟨g0, cs, ha, hg0, hr, hc, hnc, -⟩
    · rw [hs]; exact Nat.le_refl _
    · exact hnc
  have hql := qcount_le q.l now many
  apply queue_Queue_Due.vc
  refine ⟨fun n x wr => w = wr ∧ ∃ k : Nat, x = k ∧ k + n = qcount q.l now many, ⟨qcount q.l now many, rfl, 0, rfl, by omega⟩, ?_⟩
  rintro n0 us x wr ⟨rfl, k, rfl, hk⟩
  have hkl : k ≤ q.l.length := by omega
  refine ⟨s, h.row.at 2 rfl, Br.mk (fun hc => ?_) (fun hc => ?_)⟩
  · simp only [decide_eq_true_eq] at hc
    have hget : q.l[k]? = some (q.l[k]'(by omega)) := List.getElem?_eq_getElem (by omega)
    have hat := qcount_at hq now many hget
    generalize q.l[k]'(by omega) = y at hget hat
    refine Br.mk (fun hc2 => ?_) (fun hc2 => ?_)
    · simp only [decide_eq_true_eq] at hc2
      have hrd := h.own.rd (by decide)
      refine ⟨s, h.row.at 2 rfl, ⟨hrd.isSome (by decide) (i := k) (by simp; omega), by omega, by omega⟩, ?_⟩
      have hsm : (padd s.a ((k : Int).toNat * 4)).isSome = true := by
        rw [padd_isSome]; exact hrd.isSome (by decide) (i := k) (by simp; omega)
      refine AndL_iff.2 ⟨nnC_iff.2 hsm, y.1, ?_, Br.mk (fun hc3 => ?_) (fun hc3 => ?_)⟩
      · exact hrd.at (i := k) (r := itv y) (by rw [List.getElem?_map, hget]; rfl) rfl
      · simp only [decide_eq_true_eq] at hc3
        have := hat.2 ⟨hc2, hc3⟩
        have hw : IntKind.wrap .i64 ((k : Int) + 1) = ((k + 1 : Nat) : Int) := by rw [wrap_in (by unfold inI; omega)]; omega
        exact ⟨n0 - 1, by omega, rfl, k + 1, hw, by omega⟩
      · simp only [decide_eq_false_iff_not] at hc3
        have hkq : k = qcount q.l now many := by
          have : ¬ k < qcount q.l now many := fun hlt => hc3 (hat.1 hlt).2
          omega
        (
          refine ⟨s, h.row.at 2 rfl, by omega, by omega, by omega, by omega, fun n x so wr => ∃ j : Nat, x = j ∧ j + n = k ∧ Go.Vc.Mod (fun i => i = m) w wr ∧ OwnK w.heap.size tCell 3 wr so ((q.l.take j).map fun y => clv y.2) ∧ ∃ kvs, MapIs GC wr (some m) kvs ∧ Ticks kvs (q.l.drop j), ⟨k, 0, rfl, by omega, Go.Vc.Mod.refl _ _, OwnK.nil, by simpa using h.map⟩, ?_⟩
          rintro n us x so wr ⟨j, rfl, hj, hmod, hout, kvs, hmap, htk⟩
          have hrow : Row wr g (qcells q s m) tQueue := hmod.row h.row h.g_ne_m
          have hown : OwnK 0 tItem 4 wr s (q.l.map itv) := hmod.ownK h.own fun b hb hf => h.s_ne_m (by rw [hb]; exact congrArg some hf)
          refine Br.mk (fun hc => ?_) (fun hc => ?_)
          · simp only [decide_eq_true_eq] at hc
            have hjl : j < q.l.length := by omega
            have hget : q.l[j]? = some (q.l[j]'hjl) := List.getElem?_eq_getElem hjl
            generalize q.l[j]'hjl = y at hget
            have hrd := hown.rd (by decide)
            refine ⟨⟨?_, by omega, by omega⟩, y.1, y.2.1, y.2.2.1, y.2.2.2, ?_, ?_⟩
            · have := hrd.isSome (by decide) (i := j) (by simp; omega)
              unfold slBase; split <;> simpa using this
            · rw [padd_slBase]; exact RdK.item hrd hget
            intro w21 e21 w22 e22 w23 e23
            have x21 : Ext wr w21 := (Ext.rfl' wr).of_alloc e21
            have x22 : Ext wr w22 := x21.of_setRow e22 (Nat.le_refl _)
            have x23 : Ext wr w23 := x22.of_alloc e23
            have hz22 : w22.heap.size = wr.heap.size + 1 := by rw [e22, setRow_size, e21]; simp
            have hz23 : w23.heap.size = w22.heap.size + 1 := by rw [e23]; simp
            have hon : so.n = j := by rw [(hout.rd (by decide)).n, List.length_map, List.length_take]; omega
            have hzw := hmod.size
            obtain ⟨hp, hr⟩ := (hout.ext x23).append (bytes := 24) (news := clv y.2) (by omega) rfl (by intro u hu; simp at hu; rcases hu with rfl | rfl | rfl <;> rfl) (by omega) (by omega)
            refine ⟨hp, fun s24 w25 hres => ?_⟩
            obtain ⟨h1, h2, h3, h4, h5⟩ := hr s24 w25 hres
            have hsb : ∀ b, so.blk = some b → b < wr.heap.size := fun b hb => (hout.own.lt hb).2
            have hm25 : Go.Vc.Mod (fun i => so.blk = some i) w23 w25 := ⟨h3.os, h3.tape, h3.output, h3.size, fun i hi hn => h4 i hn hi⟩
            have hsm : so.blk ≠ some m := fun e => by
              have h1 := (hout.own.lt e).1
              have h2 := h.lt m (.inr (.inl rfl)); omega
            refine ⟨h4 _ (fun e => by have := hsb _ e; omega) (by omega), h4 _ (fun e => by have := hsb _ e; omega) (by omega), ?_⟩
            have hm2 : Go.Vc.Mod (fun i => so.blk = some i) wr w25.drew := ((Go.Vc.Mod.of_ext x23).trans hm25).trans (Go.Vc.Mod.of_ext (Ext.dr _))
            have hsg : so.blk ≠ some g := fun e => by
              have h1 := (hout.own.lt e).1
              have h2 := h.lt g (.inl rfl); omega
            refine ⟨some m, (hm2.row hrow hsg).at 3 rfl, GC, kvs, cellKey, rfl, hm2.map hmap hsm, ⟨y.2, rfl⟩, ?_⟩
            intro w29 hrec hmap29
            have hm29 := Go.Vc.Mod.of_rec hrec
            have hwj : IntKind.wrap .i64 ((j : Int) + 1) = ((j + 1 : Nat) : Int) := by rw [wrap_in (by unfold inI; omega)]; omega
            rw [hwj]
            refine ⟨n - 1, by omega, j + 1, rfl, by omega, (hmod.tr hm2 (fun i hi => .inr (hout.own.lt hi).1)).trans hm29, ?_, _, hmap29, ?_⟩
            · have e : (q.l.take (j + 1)).map (fun y => clv y.2) = (q.l.take j).map (fun y => clv y.2) ++ [clv y.2] := by rw [List.take_add_one, hget, List.map_append]; rfl
              rw [e]
              refine hm29.ownK (h1.ext (Ext.dr _)) fun b hb hf => ?_
              have hb' : s24.blk = some m := by rw [hb]; exact congrArg some hf
              have := h.lt m (.inr (.inl rfl))
              rcases h5 with h5 | h5
              · exact hsm (h5 ▸ hb')
              · rw [h5] at hb'; have : w23.heap.size = m := by simpa using hb'
                omega
            · have hd := htk.del y.2
              refine hd.perm fun z => ?_
              have hcons : q.l.drop j = y :: q.l.drop (j + 1) := by
                obtain ⟨hlt, he⟩ := List.getElem?_eq_some_iff.1 hget
                rw [List.drop_eq_getElem_cons hlt, he]
              have hnd : ((y :: q.l.drop (j + 1)).map (·.2)).Nodup := by
                rw [← hcons]; exact ((List.drop_sublist j q.l).map _).nodup hq.nodup
              rw [hcons]
              unfold qdrop
              rw [List.map_cons, List.nodup_cons] at hnd
              constructor
              · intro hz
                obtain ⟨hz1, hz2⟩ := List.mem_filter.1 hz
                rcases List.mem_cons.1 hz1 with rfl | hz1
                · simp at hz2
                · exact hz1
              · intro hz
                refine List.mem_filter.2 ⟨List.mem_cons_of_mem _ hz, ?_⟩
                have : z.2 ≠ y.2 := fun e => hnd.1 (e ▸ List.mem_map_of_mem hz)
                simpa using this
          · simp only [decide_eq_false_iff_not] at hc
            have hjk : j = k := by omega
            subst hjk
            refine ⟨s, hrow.at 2 rfl, (Delete_spec hown hkl (by omega)).mono ?_⟩
            rintro e w31 ⟨s32, rfl, ho32, hm32, hs32⟩
            have hr31 : Row w31 g (qcells q s m) tQueue := hm32.row hrow h.s_ne_g
            obtain ⟨p1, p2⟩ := hr31.put1 (j := 2) (v := .slice s32.a s32.n s32.c) (by simp) rfl
            refine ⟨s32, rfl, ⟨rfl, p1⟩, fun w33 e33 => ?_⟩
            obtain ⟨q1, q2⟩ := p2 w33 e33
            have hso : ∀ b, so.blk = some b → w.heap.size ≤ b := fun b hb => (hout.own.lt hb).1
            refine ⟨so, rfl, s32, ?_, ?_, ?_⟩
            · unfold qdue
              rw [← hkq, List.map_map]
              refine q2.ownK (hm32.ownK hout fun b hb hf => ?_) fun b hb hf => ?_
              · have := hso b hb
                have := h.lt b (.inr (.inr hf)); omega
              · have := hso b hb
                have := h.lt b (.inl hf); omega
            · unfold qdue
              rw [← hkq]
              refine ⟨q1, q2.ownK ho32 fun b hb hf => ?_, kvs, q2.map (hm32.map hmap h.s_ne_m) (Ne.symm h.g_ne_m), htk⟩
              obtain ⟨cs, hr⟩ := own_row ho32 (by decide) hb
              exact hr.ne hr31 (by decide) hf
            · refine Foot.turned (((hmod.mono fun b _ hb => .inr (.inl hb)).trans (hm32.mono fun b _ hb => .inr (.inr hb))).trans (q2.mono fun b _ hb => .inl hb)) fun b hb => .inl (hs32 ▸ hb))
    · simp only [decide_eq_false_iff_not] at hc2
      have hkq : k = qcount q.l now many := by
        have : ¬ k < qcount q.l now many := fun hlt => hc2 (hat.1 hlt).1
        omega
      (
        refine ⟨s, h.row.at 2 rfl, by omega, by omega, by omega, by omega, fun n x so wr => ∃ j : Nat, x = j ∧ j + n = k ∧ Go.Vc.Mod (fun i => i = m) w wr ∧ OwnK w.heap.size tCell 3 wr so ((q.l.take j).map fun y => clv y.2) ∧ ∃ kvs, MapIs GC wr (some m) kvs ∧ Ticks kvs (q.l.drop j), ⟨k, 0, rfl, by omega, Go.Vc.Mod.refl _ _, OwnK.nil, by simpa using h.map⟩, ?_⟩
        rintro n us x so wr ⟨j, rfl, hj, hmod, hout, kvs, hmap, htk⟩
        have hrow : Row wr g (qcells q s m) tQueue := hmod.row h.row h.g_ne_m
        have hown : OwnK 0 tItem 4 wr s (q.l.map itv) := hmod.ownK h.own fun b hb hf => h.s_ne_m (by rw [hb]; exact congrArg some hf)
        refine Br.mk (fun hc => ?_) (fun hc => ?_)
        · simp only [decide_eq_true_eq] at hc
          have hjl : j < q.l.length := by omega
          have hget : q.l[j]? = some (q.l[j]'hjl) := List.getElem?_eq_getElem hjl
          generalize q.l[j]'hjl = y at hget
          have hrd := hown.rd (by decide)
          refine ⟨⟨?_, by omega, by omega⟩, y.1, y.2.1, y.2.2.1, y.2.2.2, ?_, ?_⟩
          · have := hrd.isSome (by decide) (i := j) (by simp; omega)
            unfold slBase; split <;> simpa using this
          · rw [padd_slBase]; exact RdK.item hrd hget
          intro w21 e21 w22 e22 w23 e23
          have x21 : Ext wr w21 := (Ext.rfl' wr).of_alloc e21
          have x22 : Ext wr w22 := x21.of_setRow e22 (Nat.le_refl _)
          have x23 : Ext wr w23 := x22.of_alloc e23
          have hz22 : w22.heap.size = wr.heap.size + 1 := by rw [e22, setRow_size, e21]; simp
          have hz23 : w23.heap.size = w22.heap.size + 1 := by rw [e23]; simp
          have hon : so.n = j := by rw [(hout.rd (by decide)).n, List.length_map, List.length_take]; omega
          have hzw := hmod.size
          obtain ⟨hp, hr⟩ := (hout.ext x23).append (bytes := 24) (news := clv y.2) (by omega) rfl (by intro u hu; simp at hu; rcases hu with rfl | rfl | rfl <;> rfl) (by omega) (by omega)
          refine ⟨hp, fun s24 w25 hres => ?_⟩
          obtain ⟨h1, h2, h3, h4, h5⟩ := hr s24 w25 hres
          have hsb : ∀ b, so.blk = some b → b < wr.heap.size := fun b hb => (hout.own.lt hb).2
          have hm25 : Go.Vc.Mod (fun i => so.blk = some i) w23 w25 := ⟨h3.os, h3.tape, h3.output, h3.size, fun i hi hn => h4 i hn hi⟩
          have hsm : so.blk ≠ some m := fun e => by
            have h1 := (hout.own.lt e).1
            have h2 := h.lt m (.inr (.inl rfl)); omega
          refine ⟨h4 _ (fun e => by have := hsb _ e; omega) (by omega), h4 _ (fun e => by have := hsb _ e; omega) (by omega), ?_⟩
          have hm2 : Go.Vc.Mod (fun i => so.blk = some i) wr w25.drew := ((Go.Vc.Mod.of_ext x23).trans hm25).trans (Go.Vc.Mod.of_ext (Ext.dr _))
          have hsg : so.blk ≠ some g := fun e => by
            have h1 := (hout.own.lt e).1
            have h2 := h.lt g (.inl rfl); omega
          refine ⟨some m, (hm2.row hrow hsg).at 3 rfl, GC, kvs, cellKey, rfl, hm2.map hmap hsm, ⟨y.2, rfl⟩, ?_⟩
          intro w29 hrec hmap29
          have hm29 := Go.Vc.Mod.of_rec hrec
          have hwj : IntKind.wrap .i64 ((j : Int) + 1) = ((j + 1 : Nat) : Int) := by rw [wrap_in (by unfold inI; omega)]; omega
          rw [hwj]
          refine ⟨n - 1, by omega, j + 1, rfl, by omega, (hmod.tr hm2 (fun i hi => .inr (hout.own.lt hi).1)).trans hm29, ?_, _, hmap29, ?_⟩
          · have e : (q.l.take (j + 1)).map (fun y => clv y.2) = (q.l.take j).map (fun y => clv y.2) ++ [clv y.2] := by rw [List.take_add_one, hget, List.map_append]; rfl
            rw [e]
            refine hm29.ownK (h1.ext (Ext.dr _)) fun b hb hf => ?_
            have hb' : s24.blk = some m := by rw [hb]; exact congrArg some hf
            have := h.lt m (.inr (.inl rfl))
            rcases h5 with h5 | h5
            · exact hsm (h5 ▸ hb')
            · rw [h5] at hb'; have : w23.heap.size = m := by simpa using hb'
              omega
          · have hd := htk.del y.2
            refine hd.perm fun z => ?_
            have hcons : q.l.drop j = y :: q.l.drop (j + 1) := by
              obtain ⟨hlt, he⟩ := List.getElem?_eq_some_iff.1 hget
              rw [List.drop_eq_getElem_cons hlt, he]
            have hnd : ((y :: q.l.drop (j + 1)).map (·.2)).Nodup := by
              rw [← hcons]; exact ((List.drop_sublist j q.l).map _).nodup hq.nodup
            rw [hcons]
            unfold qdrop
            rw [List.map_cons, List.nodup_cons] at hnd
            constructor
            · intro hz
              obtain ⟨hz1, hz2⟩ := List.mem_filter.1 hz
              rcases List.mem_cons.1 hz1 with rfl | hz1
              · simp at hz2
              · exact hz1
            · intro hz
              refine List.mem_filter.2 ⟨List.mem_cons_of_mem _ hz, ?_⟩
              have : z.2 ≠ y.2 := fun e => hnd.1 (e ▸ List.mem_map_of_mem hz)
              simpa using this
        · simp only [decide_eq_false_iff_not] at hc
          have hjk : j = k := by omega
          subst hjk
          refine ⟨s, hrow.at 2 rfl, (Delete_spec hown hkl (by omega)).mono ?_⟩
          rintro e w31 ⟨s32, rfl, ho32, hm32, hs32⟩
          have hr31 : Row w31 g (qcells q s m) tQueue := hm32.row hrow h.s_ne_g
          obtain ⟨p1, p2⟩ := hr31.put1 (j := 2) (v := .slice s32.a s32.n s32.c) (by simp) rfl
          refine ⟨s32, rfl, ⟨rfl, p1⟩, fun w33 e33 => ?_⟩
          obtain ⟨q1, q2⟩ := p2 w33 e33
          have hso : ∀ b, so.blk = some b → w.heap.size ≤ b := fun b hb => (hout.own.lt hb).1
          refine ⟨so, rfl, s32, ?_, ?_, ?_⟩
          · unfold qdue
            rw [← hkq, List.map_map]
            refine q2.ownK (hm32.ownK hout fun b hb hf => ?_) fun b hb hf => ?_
            · have := hso b hb
              have := h.lt b (.inr (.inr hf)); omega
            · have := hso b hb
              have := h.lt b (.inl hf); omega
          · unfold qdue
            rw [← hkq]
            refine ⟨q1, q2.ownK ho32 fun b hb hf => ?_, kvs, q2.map (hm32.map hmap h.s_ne_m) (Ne.symm h.g_ne_m), htk⟩
            obtain ⟨cs, hr⟩ := own_row ho32 (by decide) hb
            exact hr.ne hr31 (by decide) hf
          · refine Foot.turned (((hmod.mono fun b _ hb => .inr (.inl hb)).trans (hm32.mono fun b _ hb => .inr (.inr hb))).trans (q2.mono fun b _ hb => .inl hb)) fun b hb => .inl (hs32 ▸ hb))
  · simp only [decide_eq_false_iff_not] at hc
    have hkq : k = qcount q.l now many := by omega
    (
      refine ⟨s, h.row.at 2 rfl, by omega, by omega, by omega, by omega, fun n x so wr => ∃ j : Nat, x = j ∧ j + n = k ∧ Go.Vc.Mod (fun i => i = m) w wr ∧ OwnK w.heap.size tCell 3 wr so ((q.l.take j).map fun y => clv y.2) ∧ ∃ kvs, MapIs GC wr (some m) kvs ∧ Ticks kvs (q.l.drop j), ⟨k, 0, rfl, by omega, Go.Vc.Mod.refl _ _, OwnK.nil, by simpa using h.map⟩, ?_⟩
      rintro n us x so wr ⟨j, rfl, hj, hmod, hout, kvs, hmap, htk⟩
      have hrow : Row wr g (qcells q s m) tQueue := hmod.row h.row h.g_ne_m
      have hown : OwnK 0 tItem 4 wr s (q.l.map itv) := hmod.ownK h.own fun b hb hf => h.s_ne_m (by rw [hb]; exact congrArg some hf)
      refine Br.mk (fun hc => ?_) (fun hc => ?_)
      · simp only [decide_eq_true_eq] at hc
        have hjl : j < q.l.length := by omega
        have hget : q.l[j]? = some (q.l[j]'hjl) := List.getElem?_eq_getElem hjl
        generalize q.l[j]'hjl = y at hget
        have hrd := hown.rd (by decide)
        refine ⟨⟨?_, by omega, by omega⟩, y.1, y.2.1, y.2.2.1, y.2.2.2, ?_, ?_⟩
        · have := hrd.isSome (by decide) (i := j) (by simp; omega)
          unfold slBase; split <;> simpa using this
        · rw [padd_slBase]; exact RdK.item hrd hget
        intro w21 e21 w22 e22 w23 e23
        have x21 : Ext wr w21 := (Ext.rfl' wr).of_alloc e21
        have x22 : Ext wr w22 := x21.of_setRow e22 (Nat.le_refl _)
        have x23 : Ext wr w23 := x22.of_alloc e23
        have hz22 : w22.heap.size = wr.heap.size + 1 := by rw [e22, setRow_size, e21]; simp
        have hz23 : w23.heap.size = w22.heap.size + 1 := by rw [e23]; simp
        have hon : so.n = j := by rw [(hout.rd (by decide)).n, List.length_map, List.length_take]; omega
        have hzw := hmod.size
        obtain ⟨hp, hr⟩ := (hout.ext x23).append (bytes := 24) (news := clv y.2) (by omega) rfl (by intro u hu; simp at hu; rcases hu with rfl | rfl | rfl <;> rfl) (by omega) (by omega)
        refine ⟨hp, fun s24 w25 hres => ?_⟩
        obtain ⟨h1, h2, h3, h4, h5⟩ := hr s24 w25 hres
        have hsb : ∀ b, so.blk = some b → b < wr.heap.size := fun b hb => (hout.own.lt hb).2
        have hm25 : Go.Vc.Mod (fun i => so.blk = some i) w23 w25 := ⟨h3.os, h3.tape, h3.output, h3.size, fun i hi hn => h4 i hn hi⟩
        have hsm : so.blk ≠ some m := fun e => by
          have h1 := (hout.own.lt e).1
          have h2 := h.lt m (.inr (.inl rfl)); omega
        refine ⟨h4 _ (fun e => by have := hsb _ e; omega) (by omega), h4 _ (fun e => by have := hsb _ e; omega) (by omega), ?_⟩
        have hm2 : Go.Vc.Mod (fun i => so.blk = some i) wr w25.drew := ((Go.Vc.Mod.of_ext x23).trans hm25).trans (Go.Vc.Mod.of_ext (Ext.dr _))
        have hsg : so.blk ≠ some g := fun e => by
          have h1 := (hout.own.lt e).1
          have h2 := h.lt g (.inl rfl); omega
        refine ⟨some m, (hm2.row hrow hsg).at 3 rfl, GC, kvs, cellKey, rfl, hm2.map hmap hsm, ⟨y.2, rfl⟩, ?_⟩
        intro w29 hrec hmap29
        have hm29 := Go.Vc.Mod.of_rec hrec
        have hwj : IntKind.wrap .i64 ((j : Int) + 1) = ((j + 1 : Nat) : Int) := by rw [wrap_in (by unfold inI; omega)]; omega
        rw [hwj]
        refine ⟨n - 1, by omega, j + 1, rfl, by omega, (hmod.tr hm2 (fun i hi => .inr (hout.own.lt hi).1)).trans hm29, ?_, _, hmap29, ?_⟩
        · have e : (q.l.take (j + 1)).map (fun y => clv y.2) = (q.l.take j).map (fun y => clv y.2) ++ [clv y.2] := by rw [List.take_add_one, hget, List.map_append]; rfl
          rw [e]
          refine hm29.ownK (h1.ext (Ext.dr _)) fun b hb hf => ?_
          have hb' : s24.blk = some m := by rw [hb]; exact congrArg some hf
          have := h.lt m (.inr (.inl rfl))
          rcases h5 with h5 | h5
          · exact hsm (h5 ▸ hb')
          · rw [h5] at hb'; have : w23.heap.size = m := by simpa using hb'
            omega
        · have hd := htk.del y.2
          refine hd.perm fun z => ?_
          have hcons : q.l.drop j = y :: q.l.drop (j + 1) := by
            obtain ⟨hlt, he⟩ := List.getElem?_eq_some_iff.1 hget
            rw [List.drop_eq_getElem_cons hlt, he]
          have hnd : ((y :: q.l.drop (j + 1)).map (·.2)).Nodup := by
            rw [← hcons]; exact ((List.drop_sublist j q.l).map _).nodup hq.nodup
          rw [hcons]
          unfold qdrop
          rw [List.map_cons, List.nodup_cons] at hnd
          constructor
          · intro hz
            obtain ⟨hz1, hz2⟩ := List.mem_filter.1 hz
            rcases List.mem_cons.1 hz1 with rfl | hz1
            · simp at hz2
            · exact hz1
          · intro hz
            refine List.mem_filter.2 ⟨List.mem_cons_of_mem _ hz, ?_⟩
            have : z.2 ≠ y.2 := fun e => hnd.1 (e ▸ List.mem_map_of_mem hz)
            simpa using this
      · simp only [decide_eq_false_iff_not] at hc
        have hjk : j = k := by omega
        subst hjk
        refine ⟨s, hrow.at 2 rfl, (Delete_spec hown hkl (by omega)).mono ?_⟩
        rintro e w31 ⟨s32, rfl, ho32, hm32, hs32⟩
        have hr31 : Row w31 g (qcells q s m) tQueue := hm32.row hrow h.s_ne_g
        obtain ⟨p1, p2⟩ := hr31.put1 (j := 2) (v := .slice s32.a s32.n s32.c) (by simp) rfl
        refine ⟨s32, rfl, ⟨rfl, p1⟩, fun w33 e33 => ?_⟩
        obtain ⟨q1, q2⟩ := p2 w33 e33
        have hso : ∀ b, so.blk = some b → w.heap.size ≤ b := fun b hb => (hout.own.lt hb).1
        refine ⟨so, rfl, s32, ?_, ?_, ?_⟩
        · unfold qdue
          rw [← hkq, List.map_map]
          refine q2.ownK (hm32.ownK hout fun b hb hf => ?_) fun b hb hf => ?_
          · have := hso b hb
            have := h.lt b (.inr (.inr hf)); omega
          · have := hso b hb
            have := h.lt b (.inl hf); omega
        · unfold qdue
          rw [← hkq]
          refine ⟨q1, q2.ownK ho32 fun b hb hf => ?_, kvs, q2.map (hm32.map hmap h.s_ne_m) (Ne.symm h.g_ne_m), htk⟩
          obtain ⟨cs, hr⟩ := own_row ho32 (by decide) hb
          exact hr.ne hr31 (by decide) hf
        · refine Foot.turned (((hmod.mono fun b _ hb => .inr (.inl hb)).trans (hm32.mono fun b _ hb => .inr (.inr hb))).trans (q2.mono fun b _ hb => .inl hb)) fun b hb => .inl (hs32 ▸ hb))
end Go.Proofs.Ytbphdgiepimmkaa
namespace Go.Proofs.Ytbphdgiepimmkaa
open Go Go.Vc Go.RowKit Go.Proofs Go.Que

abbrev tX : TypeId := 67
theorem Own_cap {B E k : Nat} {w : World} {s : Sl} {rows : List (List Value)} (h : OwnK B E k w s rows) (hk : 0 < k) : s.n ≤ s.c := by
  rcases h.form hk with ⟨hs, -⟩ | ⟨g0, cs, ha, hg0, hr, hc, hnc, -⟩
  · rw [hs]; exact Nat.le_refl _
  · exact hnc
theorem rNew_spec (room : Int) (w : World) : Calls Try.prog n_ref17_New #[.int .i64 room] w fun e w' => e = .returned (.agg #[.int .i64 (min (max room 1) 4096), .int .i64 0, .slice none 0 0]) ∧ Ext w w' := by
  apply ref17_New.vc
  intro w0 e0 w1 e1
  have : (min (max room 1) 4096) = (if 4096 < (if 1 > room then 1 else room) then 4096 else (if 1 > room then 1 else room)) := by
    split <;> split <;> omega
  rw [← this]
  exact ⟨rfl, ((Ext.rfl' w).of_alloc e0).of_setRow e1 (Nat.le_refl _)⟩
/-- Where a cell stands. -/
def qfind (l : List It) (c : Cl) : Int := match l.findIdx? fun x => x.2 == c with | some i => i | none => -1
theorem qfind_at {l : List It} {c : Cl} {k : Nat} {x : It} (hk : ∀ y ∈ l.take k, y.2 ≠ c) (hx : l[k]? = some x) (hc : x.2 = c) : qfind l c = k := by
  unfold qfind
  have : l.findIdx? (fun x => x.2 == c) = some k := by
    rw [List.findIdx?_eq_some_iff_getElem]
    obtain ⟨hlt, he⟩ := List.getElem?_eq_some_iff.1 hx
    refine ⟨hlt, by simp [he, hc], fun j hj => ?_⟩
    have := hk (l[j]'(by omega)) (List.mem_take_iff_getElem.2 ⟨j, by omega, rfl⟩)
    simpa using this
  rw [this]
theorem qfind_none {l : List It} {c : Cl} (hk : ∀ y ∈ l, y.2 ≠ c) : qfind l c = -1 := by
  unfold qfind
  have : l.findIdx? (fun x => x.2 == c) = none := by
    rw [List.findIdx?_eq_none_iff]
    intro x hx
    simpa using hk x hx
  rw [this]
theorem qfind_cases (l : List It) (c : Cl) : (qfind l c = -1 ∧ (∀ y ∈ l, y.2 ≠ c) ∧ qtick l c = none) ∨ ∃ k : Nat, ∃ x, qfind l c = k ∧ l[k]? = some x ∧ x.2 = c ∧ (∀ y ∈ l.take k, y.2 ≠ c) ∧ qtick l c = some x.1 := by
  induction l with
  | nil => exact .inl ⟨rfl, by simp, rfl⟩
  | cons a l ih =>
    by_cases ha : a.2 = c
    · refine .inr ⟨0, a, qfind_at (by simp) rfl ha, rfl, ha, by simp, ?_⟩
      unfold qtick; rw [List.find?_cons_of_pos (by simp [ha])]; rfl
    · rcases ih with ⟨-, h2, h3⟩ | ⟨k, x, h1, h2, h3, h4, h5⟩
      · have hall : ∀ y ∈ a :: l, y.2 ≠ c := fun y hy => by
          rcases List.mem_cons.1 hy with rfl | hy
          · exact ha
          · exact h2 y hy
        refine .inl ⟨qfind_none hall, hall, ?_⟩
        unfold qtick at h3 ⊢; rw [List.find?_cons_of_neg (by simp [ha])]; exact h3
      · have hall : ∀ y ∈ (a :: l).take (k + 1), y.2 ≠ c := fun y hy => by
          rw [List.take_succ_cons] at hy
          rcases List.mem_cons.1 hy with rfl | hy
          · exact ha
          · exact h4 y hy
        refine .inr ⟨k + 1, x, qfind_at hall (by simpa using h2) h3, by simpa using h2, h3, hall, ?_⟩
        unfold qtick at h5 ⊢; rw [List.find?_cons_of_neg (by simp [ha])]; exact h5
theorem rFind_spec {w : World} {s : Sl} {l : List It} (h : RdK w s 4 (l.map itv)) (hl : l.length ≤ 5000) (room lost : Int) (c : Cl) :
    Calls Try.prog n_ref17_Find #[.agg #[.int .i64 room, .int .i64 lost, .slice s.a s.n s.c], cv c] w fun e w' => e = .returned (.int .i64 (qfind l c)) ∧ Ext w w' := by
  apply ref17_Find.vc
  have hn : s.n = l.length := by rw [h.n, List.length_map]
  intro w0 e0 w1 e1
  have x1 : Ext w w1 := ((Ext.rfl' w).of_alloc e0).of_alloc e1
  refine ⟨fun n x wr => Ext w wr ∧ ∃ k : Nat, x = k ∧ k + n = l.length ∧ ∀ y ∈ l.take k, y.2 ≠ c, ⟨l.length, rfl, rfl, x1, 0, rfl, by omega, by simp⟩, ?_⟩
  rintro n us x wr ⟨xr, k, rfl, hk, hno⟩
  refine Br.mk (fun hc => ?_) (fun hc => ?_)
  · simp only [decide_eq_true_eq] at hc
    have hget : l[k]? = some (l[k]'(by omega)) := List.getElem?_eq_getElem (by omega)
    generalize l[k]'(by omega) = y at hget
    have hrd := h.ext xr.drew
    have hs := hrd.isSome (by decide) (i := k) (by simp; omega)
    refine ⟨⟨hs, by omega, by omega⟩, AndL_iff.2 ⟨nnC_iff.2 (by rw [padd_isSome]; exact hs), y.2.1, y.2.2.1, y.2.2.2, ?_, Br.mk (fun hb => ?_) (fun hb => ?_)⟩⟩
    · rw [padd_padd]
      refine LoadL_of fun j v hj => ?_
      have h1 := hrd.rd k (itv y) (by rw [List.getElem?_map, hget]; rfl)
      rw [Nat.zero_add, padd_padd, Nat.add_assoc]
      exact h1 (1 + j) v (by rw [Nat.add_comm]; exact hj)
    · have hy : y.2 = c := by
        simp only [Bool.and_eq_true, beq_iff_eq] at hb
        obtain ⟨h1, h2, h3⟩ := hb
        exact Prod.ext h1 (Prod.ext h2 h3)
      exact ⟨by rw [qfind_at hno hget hy], xr.drew⟩
    · have hw : IntKind.wrap .i64 ((k : Int) + 1) = ((k + 1 : Nat) : Int) := by rw [wrap_in (by unfold inI; omega)]; omega
      rw [hw]
      refine ⟨n - 1, by omega, rfl, rfl, xr.drew, k + 1, rfl, by omega, fun z hz => ?_⟩
      rw [List.take_add_one, hget] at hz
      rcases List.mem_append.1 hz with hz | hz
      · exact hno z hz
      · simp only [Option.toList_some, List.mem_singleton] at hz
        subst hz
        intro e
        subst e
        simp at hb
  · simp only [decide_eq_false_iff_not] at hc
    rw [List.take_of_length_le (by omega)] at hno
    exact ⟨by rw [qfind_none hno], xr⟩
theorem rSame_spec {w : World} {a b : Sl} {x y : List Cl} (ha : RdK w a 3 (x.map clv)) (hb : RdK w b 3 (y.map clv)) (hl : x.length ≤ 5000) :
    Calls Try.prog n_ref17_SameCells #[.slice a.a a.n a.c, .slice b.a b.n b.c] w fun e w' => e = .returned (.bool (x == y)) ∧ Ext w w' := by
  apply ref17_SameCells.vc
  have hn : a.n = x.length := by rw [ha.n, List.length_map]
  have hm : b.n = y.length := by rw [hb.n, List.length_map]
  refine Br.mk (fun hc => ?_) (fun hc => ?_)
  · have hne : x.length ≠ y.length := by
      simp only [bne_iff_ne, ne_eq] at hc; omega
    have : (x == y) = false := by
      rw [beq_eq_false_iff_ne]; intro e; exact hne (by rw [e])
    exact ⟨by rw [this], Ext.rfl' _⟩
  · have heq : x.length = y.length := by
      simp only [bne_eq_false_iff_eq] at hc; omega
    refine ⟨fun n i wr => Ext w wr ∧ ∃ k : Nat, i = k ∧ k + n = x.length ∧ x.take k = y.take k, ⟨x.length, Ext.rfl' _, 0, rfl, by omega, rfl⟩, ?_⟩
    rintro n us i wr ⟨xr, k, rfl, hk, hsame⟩
    refine Br.mk (fun hc => ?_) (fun hc => ?_)
    · simp only [decide_eq_true_eq] at hc
      have hgx : x[k]? = some (x[k]'(by omega)) := List.getElem?_eq_getElem (by omega)
      have hgy : y[k]? = some (y[k]'(by omega)) := List.getElem?_eq_getElem (by omega)
      generalize x[k]'(by omega) = p at hgx
      generalize y[k]'(by omega) = q at hgy
      have hra := ha.ext xr.drew
      have hrb := hb.ext xr.drew
      refine ⟨⟨hra.isSome (by decide) (i := k) (by simp; omega), by omega, by omega⟩, p.1, p.2.1, p.2.2, hra.loadL (i := k) (by rw [List.getElem?_map, hgx]; rfl), ⟨hrb.isSome (by decide) (i := k) (by simp; omega), by omega, by omega⟩, q.1, q.2.1, q.2.2, hrb.loadL (i := k) (by rw [List.getElem?_map, hgy]; rfl), Br.mk (fun hq => ?_) (fun hq => ?_)⟩
      · have hpq : p ≠ q := by
          intro e; subst e; simp at hq
        have : (x == y) = false := by
          rw [beq_eq_false_iff_ne]; intro e
          rw [e, hgy] at hgx; exact hpq (by cases hgx; rfl)
        exact ⟨by rw [this], xr.drew⟩
      · have hpq : p = q := by
          simp only [Bool.not_eq_false', Bool.and_eq_true, beq_iff_eq] at hq
          obtain ⟨h1, h2, h3⟩ := hq
          exact Prod.ext h1 (Prod.ext h2 h3)
        have hw : IntKind.wrap .i64 ((k : Int) + 1) = ((k + 1 : Nat) : Int) := by rw [wrap_in (by unfold inI; omega)]; omega
        rw [hw]
        exact ⟨n - 1, by omega, xr.drew, k + 1, rfl, by omega, by rw [List.take_add_one, List.take_add_one, hgx, hgy, hsame, hpq]⟩
    · simp only [decide_eq_false_iff_not] at hc
      rw [List.take_of_length_le (by omega), List.take_of_length_le (by omega)] at hsame
      exact ⟨by rw [hsame]; simp, xr⟩
end Go.Proofs.Ytbphdgiepimmkaa
