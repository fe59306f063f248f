import Derived.Test.YtbphdgiepimmkaaQE
set_option linter.all false
namespace Go.Proofs.Ytbphdgiepimmkaa
open Go Go.Vc Go.RowKit Go.Proofs Go.Que

/-- The blocks of a queue. -/
def Foot (g m : Nat) (s : Sl) : Nat → Prop := fun i => i = g ∨ i = m ∨ s.blk = some i
abbrev qcells (q : QS) (s : Sl) (m : Nat) : List Value := [.int .i64 q.room, .int .i64 q.lost, .slice s.a s.n s.c, .map (some m)]
/-- A map that tells a row's ticks. -/
def Ticks (kvs : List (Value × Value)) (l : List It) : Prop := (∀ c t, (cv c, tv t) ∈ kvs ↔ (t, c) ∈ l) ∧ ∀ e ∈ kvs, ∃ c t, e = (cv c, tv t)
structure QIs (w : World) (g m : Nat) (s : Sl) (q : QS) : Prop where
  row : Row w g (qcells q s m) tQueue
  own : OwnK 0 tItem 4 w s (q.l.map itv)
  map : ∃ kvs, MapIs GC w (some m) kvs ∧ Ticks kvs q.l
/-- Rows of another type are none of a queue's. -/
theorem QIs.no_row {w : World} {g m : Nat} {s : Sl} {q : QS} (h : QIs w g m s q) {b : Nat} {cs : List Value} {E : TypeId} (hb : Row w b cs E) (h1 : E ≠ tQueue) (h2 : E ≠ tItem) : ¬ Foot g m s b := by
  rintro (rfl | rfl | e)
  · exact hb.ne h.row h1 rfl
  · obtain ⟨kvs, hm, -⟩ := h.map
    exact hb.ne_map hm rfl
  · obtain ⟨cs', hr⟩ := own_row h.own (by decide) e
    exact hb.ne hr h2 rfl
theorem QIs.no_own {w : World} {g m : Nat} {s : Sl} {q : QS} (h : QIs w g m s q) {B E k : Nat} {s' : Sl} {rows : List (List Value)} (ho : OwnK B E k w s' rows) (hk : 0 < k) (h1 : E ≠ tQueue) (h2 : E ≠ tItem) : ∀ b, s'.blk = some b → ¬ Foot g m s b := fun b hb => by
  obtain ⟨cs, hr⟩ := own_row ho hk hb
  exact h.no_row hr h1 h2
theorem QIs.lt {w : World} {g m : Nat} {s : Sl} {q : QS} (h : QIs w g m s q) : ∀ i, Foot g m s i → i < w.heap.size := by
  rintro i (rfl | rfl | e)
  · exact h.row.lt
  · obtain ⟨kvs, hm, -⟩ := h.map
    exact hm.lt
  · exact (h.own.own.lt e).2
theorem QIs.keep {w w' : World} {g m : Nat} {s : Sl} {q : QS} (h : QIs w g m s q) {F : Nat → Prop} (hm : Mod F w w') (hn : ∀ i, Foot g m s i → ¬ F i) : QIs w' g m s q := by
  obtain ⟨kvs, h1, h2⟩ := h.map
  exact ⟨hm.row h.row (hn g (.inl rfl)), hm.ownK h.own fun b hb => hn b (.inr (.inr hb)), kvs, hm.map h1 (hn m (.inr (.inl rfl))), h2⟩
theorem QIs.ext {w w' : World} {g m : Nat} {s : Sl} {q : QS} (h : QIs w g m s q) (x : Ext w w') : QIs w' g m s q :=
  h.keep (F := fun _ => False) ⟨x.os, x.tape, x.output, x.size, fun i hi _ => x.heap hi⟩ fun _ _ hf => hf
theorem QIs.g_ne_m {w : World} {g m : Nat} {s : Sl} {q : QS} (h : QIs w g m s q) : g ≠ m := by
  obtain ⟨kvs, hm, -⟩ := h.map
  exact h.row.ne_map hm
theorem QIs.s_ne_m {w : World} {g m : Nat} {s : Sl} {q : QS} (h : QIs w g m s q) : s.blk ≠ some m := fun e => by
  obtain ⟨kvs, hm, -⟩ := h.map
  obtain ⟨cs, hr⟩ := own_row h.own (by decide) e
  exact hr.ne_map hm rfl
theorem QIs.s_ne_g {w : World} {g m : Nat} {s : Sl} {q : QS} (h : QIs w g m s q) : s.blk ≠ some g := fun e => by
  obtain ⟨cs, hr⟩ := own_row h.own (by decide) e
  exact hr.ne h.row (by decide) rfl
theorem Ticks.look {kvs : List (Value × Value)} {l : List It} (h : Ticks kvs l) (hn : (l.map (·.2)).Nodup) (c : Cl) : Look kvs (cv c) (tv 0) (tv ((qtick l c).getD 0)) (qtick l c).isSome := by
  cases hq : qtick l c with
  | some t => exact .inl ⟨rfl, (h.1 c t).2 (qtick_some hq)⟩
  | none =>
    refine .inr ⟨rfl, rfl, fun e he hk => ?_⟩
    obtain ⟨c', t, rfl⟩ := h.2 e he
    exact qtick_none hq (t, c') ((h.1 _ _).1 he) (cv_inj hk)
open Classical in
theorem Ticks.del {kvs : List (Value × Value)} {l : List It} (h : Ticks kvs l) (c : Cl) : Ticks (delL kvs (cv c)) (qdrop l c) := by
  refine ⟨fun c' t => ?_, fun e he => h.2 e (List.mem_filter.1 he).1⟩
  unfold delL qdrop
  rw [List.mem_filter, List.mem_filter, h.1]
  refine and_congr_right fun _ => ?_
  rw [bne_iff_ne]
  refine decide_eq_true_iff.trans ?_
  exact not_congr ⟨fun e => cv_inj e, fun e => by rw [show c' = c from e]⟩
theorem Ticks.ins {kvs : List (Value × Value)} {l : List It} (h : Ticks kvs l) {x : It} (hx : ∀ y ∈ l, y.2 ≠ x.2) : Ticks (insL kvs (cv x.2) (tv x.1)) (qins l x) := by
  unfold insL
  rw [if_neg]
  · refine ⟨fun c t => ?_, fun e he => ?_⟩
    · rw [List.mem_append, h.1, qins_mem, List.mem_singleton]
      constructor
      · rintro (h1 | h1)
        · exact .inr h1
        · obtain ⟨e1, e2⟩ := Prod.mk.inj h1
          have := cv_inj e1
          have h2 : t = x.1 := by unfold tv at e2; injection e2
          left; rw [this, h2]
      · rintro (h1 | h1)
        · right; rw [← h1]
        · exact .inl h1
    · rcases List.mem_append.1 he with he | he
      · exact h.2 e he
      · rw [List.mem_singleton] at he; exact ⟨_, _, he⟩
  · rintro ⟨e, he, hk⟩
    obtain ⟨c', t, rfl⟩ := h.2 e he
    exact hx (t, c') ((h.1 _ _).1 he) (cv_inj hk)
theorem Ticks.perm {kvs : List (Value × Value)} {l l' : List It} (h : Ticks kvs l) (hl : ∀ x, x ∈ l ↔ x ∈ l') : Ticks kvs l' := ⟨fun c t => (h.1 c t).trans (hl _), h.2⟩

theorem New_spec (room : Int) (w : World) : Calls Try.prog n_queue_New #[.int .i64 room] w fun e w' => ∃ g m, e = .returned (.pointer (some ⟨g, 0, none⟩)) ∧ QIs w' g m ⟨none, 0, 0⟩ ⟨min (max room 1) 4096, 0, []⟩ ∧ Ext w w' ∧ w.heap.size ≤ g ∧ w.heap.size ≤ m := by
  apply queue_New.vc
  intro w0 e0 w1 e1
  have hm : MapIs GC w0 (some w.heap.size) [] := by rw [e0]; exact MapIs.new
  have x1 : Ext w0 w1 := (Ext.rfl' _).of_alloc e1
  refine ⟨w0.heap.size, w.heap.size, rfl, ⟨?_, OwnK.nil, [], ?_, by simp [Ticks]⟩, ((Ext.rfl' _).of_alloc e0).tr x1, ?_, Nat.le_refl _⟩
  · have : (min (max room 1) 4096) = (if 4096 < (if 1 > room then 1 else room) then 4096 else (if 1 > room then 1 else room)) := by
      split <;> split <;> omega
    rw [e1, this]
    exact Row.new w0 [_, _, _, _] _
  · exact hm.same (x1.heap hm.lt)
  · rw [e0]; simp
theorem At_spec {w : World} {g m : Nat} {s : Sl} {q : QS} (h : QIs w g m s q) (hq : QOk q) (c : Cl) : Calls Try.prog n_queue_Queue_At #[.pointer (some ⟨g, 0, none⟩), cv c] w fun e w' => e = .returned (.tuple #[.int .i64 ((qtick q.l c).getD 0), .bool (qtick q.l c).isSome]) ∧ Ext w w' := by
  apply queue_Queue_At.vc
  intro w0 e0
  have x0 : Ext w w0.drew := (Ext.rfl' w |>.of_alloc e0).drew
  have h0 := h.ext x0
  obtain ⟨kvs, hm, ht⟩ := h0.map
  exact ⟨some m, h0.row.at 3 rfl, GC, kvs, cellKey, hm, ⟨c, rfl⟩, _, _, ht.look hq.nodup c, rfl, x0⟩
theorem Len_spec {w : World} {g m : Nat} {s : Sl} {q : QS} (h : QIs w g m s q) : Calls Try.prog n_queue_Queue_Len #[.pointer (some ⟨g, 0, none⟩)] w fun e w' => e = .returned (.int .i64 q.l.length) ∧ Ext w w' := by
  apply queue_Queue_Len.vc
  have hn : s.n = q.l.length := by rw [(h.own.rd (by decide)).n, List.length_map]
  refine ⟨s, h.row.at 2 rfl, ?_⟩
  rw [hn]
  exact ⟨rfl, Ext.rfl' _⟩
theorem Lost_spec {w : World} {g m : Nat} {s : Sl} {q : QS} (h : QIs w g m s q) : Calls Try.prog n_queue_Queue_Lost #[.pointer (some ⟨g, 0, none⟩)] w fun e w' => e = .returned (.int .i64 q.lost) ∧ Ext w w' := by
  apply queue_Queue_Lost.vc
  exact ⟨q.lost, h.row.at 1 rfl, rfl, Ext.rfl' _⟩
end Go.Proofs.Ytbphdgiepimmkaa
