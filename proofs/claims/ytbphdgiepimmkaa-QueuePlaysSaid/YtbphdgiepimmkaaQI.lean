import Derived.Test.YtbphdgiepimmkaaQH
set_option linter.all false
namespace Go.Proofs.Ytbphdgiepimmkaa
open Go Go.Vc Go.RowKit Go.Proofs Go.Que

theorem Add_spec {w : World} {g m : Nat} {s : Sl} {q : QS} (h : QIs w g m s q) (hq : QOk q) (hl : 0 ≤ q.lost ∧ q.lost ≤ 1000000) (c : Cl) (t : Int) :
    Calls Try.prog n_queue_Queue_Add #[.pointer (some ⟨g, 0, none⟩), cv c, .int .i64 t] w fun e w' => e = .returned (.bool (qadd q c t).2) ∧ ∃ s', QIs w' g m s' (qadd q c t).1 ∧ Turned (Foot g m s) (Foot g m s') w w' := by
  apply queue_Queue_Add.vc
  intro w0 e0
  have x0 : Ext w w0 := (Ext.rfl' w).of_alloc e0
  have hs0 : w0.heap.size = w.heap.size + 1 := by rw [e0]; simp
  have h0 := h.ext x0
  have hn : s.n = q.l.length := by rw [(h.own.rd (by decide)).n, List.length_map]
  have hlen := hq.len
  have hroom := hq.room
  have hbg : g < w.heap.size := h.row.lt
  have hbf : ∀ {s' : Sl} {w1 w' : World}, w.heap.size < w1.heap.size → Turned (Foot g m s) (Foot g m s') w1 w' → w'.heap[w.heap.size]? = w1.heap[w.heap.size]? := fun hlt ht =>
    ht.mod.same _ hlt fun hf => by have := h.lt _ hf; omega
  refine (At_spec h0 hq c).mono ?_
  rintro e w1 ⟨rfl, x1⟩
  have h1 := h0.ext x1
  have x01 := x0.tr x1
  have hz1 : w.heap.size < w1.heap.size := by have := x1.size; omega
  refine ⟨_, _, rfl, x1.heap (show w.heap.size < w0.heap.size by omega), Br.mk (fun hb => ?_) (fun hb => ?_)⟩
  · obtain ⟨was, hw⟩ := Option.isSome_iff_exists.1 hb
    have hg : (qtick q.l c).getD 0 = was := by rw [hw]; rfl
    rw [hg]
    refine Br.mk (fun hc => ?_) (fun hc => Br.mk (fun _ => ?_) (fun hn => by rw [hb] at hn; cases hn))
    · simp only [decide_eq_true_eq] at hc
      have e : qadd q c t = (q, false) := by unfold qadd; rw [hw]; simp [hc]
      rw [e]
      exact ⟨rfl, s, h1, Turned.of_ext x01⟩
    · simp only [decide_eq_false_iff_not] at hc
      have e : qadd q c t = ({ q with l := qins (qdrop q.l c) (t, c) }, true) := by unfold qadd; rw [hw]; simp [hc]
      rw [e]
      refine (Drop_spec h1 hq c).mono ?_
      rintro e w4 ⟨rfl, s4, h4, t4⟩
      refine ⟨_, rfl, hbf hz1 t4, ?_⟩
      have hq4 := hq.drop c
      have hl4 := hq4.len
      have hz4 := t4.mod.size
      refine (push_spec (x := (t, c)) h4 hq4.sorted (by simp only at hl4 ⊢; omega) (fun y hy => by
        have := (List.mem_filter.1 hy).2
        simpa using this)).mono ?_
      rintro e w6 ⟨rfl, s6, h6, t6⟩
      refine ⟨rfl, t6.mod.same _ (by omega) (fun hf => ?_), rfl, s6, h6, ((Turned.of_ext x01).trans t4).trans t6⟩
      rcases t4.sub _ hf with hf | hf
      · have := h.lt _ hf; omega
      · omega
  · refine Br.mk (fun hb' => by rw [hb] at hb'; cases hb') (fun _ => ?_)
    have hw : qtick q.l c = none := by simpa using hb
    have h1d := h1.ext (Ext.dr w1)
    refine ⟨s, h1d.row.at 2 rfl, q.room, h1d.row.at 0 rfl, ?_⟩
    rw [hn]
    refine Br.mk (fun hc => ?_) (fun hc => ?_)
    · have hc' : ((q.l.length : Nat) : Int) = q.room := by simpa using hc
      have e : qadd q c t = ({ q with lost := q.lost + 1 }, false) := by unfold qadd; rw [hw]; simp [hc']
      rw [e]
      obtain ⟨p1, p2⟩ := h1d.row.put1 (j := 1) (v := .int .i64 (IntKind.wrap .i64 (q.lost + 1))) (by simp) rfl
      refine ⟨q.lost, h1d.row.at 1 rfl, ⟨rfl, p1⟩, ?_, fun w10 e10 => ?_⟩
      · rw [pblk_padd]
        intro e
        have : g = w.heap.size := by simpa [pblk] using e
        omega
      · obtain ⟨q1, q2⟩ := p2 w10 e10
        rw [wrap_in (by unfold inI; omega)] at q1
        obtain ⟨kvs, hm, ht⟩ := h1d.map
        refine ⟨rfl, s, ⟨q1, q2.ownK h1d.own fun b hb hf => h.s_ne_g (by rw [hb]; exact congrArg some hf), kvs, q2.map hm (Ne.symm h.g_ne_m), ht⟩, (Turned.of_ext x01.drew).trans (Foot.turned (q2.mono fun b _ hb => .inl hb) fun b hb => .inl hb)⟩
    · have hc' : ((q.l.length : Nat) : Int) ≠ q.room := by simpa using hc
      have e : qadd q c t = ({ q with l := qins q.l (t, c) }, true) := by
        unfold qadd; rw [hw]
        have : ¬ (q.l.length : Int) ≥ q.room := by omega
        simp only
        rw [if_neg this]
      rw [e]
      refine (push_spec (x := (t, c)) h1d hq.sorted (by omega) (qtick_none hw)).mono ?_
      rintro e w6 ⟨rfl, s6, h6, t6⟩
      exact ⟨rfl, hbf hz1 t6, rfl, s6, h6, (Turned.of_ext x01.drew).trans t6⟩
theorem Put_spec {w : World} {g m : Nat} {s a : Sl} {q : QS} {xs : List It} (h : QIs w g m s q) (hq : QOk q) (hl : 0 ≤ q.lost ∧ q.lost + xs.length ≤ 1000000) (ha : RdK w a 4 (xs.map itv)) (hlt : ∀ b, a.blk = some b → b < w.heap.size) (hd : ∀ b, a.blk = some b → ¬ Foot g m s b) :
    Calls Try.prog n_queue_Queue_Put #[.pointer (some ⟨g, 0, none⟩), .slice a.a a.n a.c] w fun e w' => e = .returned (.int .i64 (qput q xs).2) ∧ ∃ s', QIs w' g m s' (qput q xs).1 ∧ Turned (Foot g m s) (Foot g m s') w w' := by
  have hn : a.n = xs.length := by rw [ha.n, List.length_map]
  apply queue_Queue_Put.vc
  refine ⟨fun n x y wr => ∃ (j k : Nat) (sr : Sl) (qr : QS), x = j ∧ y = k ∧ j + n = xs.length ∧ k ≤ j ∧ QIs wr g m sr qr ∧ QOk qr ∧ Turned (Foot g m s) (Foot g m sr) w wr ∧ 0 ≤ qr.lost ∧ qr.lost ≤ q.lost + j ∧ (qput qr (xs.drop j)).1 = (qput q xs).1 ∧ k + (qput qr (xs.drop j)).2 = (qput q xs).2,
    ⟨xs.length, 0, 0, s, q, rfl, rfl, by omega, Nat.le_refl _, h, hq, Turned.refl _ _, hl.1, by omega, rfl, by simp⟩, ?_⟩
  rintro n us x y wr ⟨j, k, sr, qr, rfl, rfl, h1, h2, hqr, hok, ht, h3, h4, h5, h6⟩
  have har : RdK wr a 4 (xs.map itv) := ht.mod.rdK (by decide) ha fun _ b hb => hd b hb
  refine Br.mk (fun hc => ?_) (fun hc => ?_)
  · simp only [decide_eq_true_eq] at hc
    have hget : xs[j]? = some (xs[j]'(by omega)) := List.getElem?_eq_getElem (by omega)
    have hdrop : xs.drop j = xs[j]'(by omega) :: xs.drop (j + 1) := List.drop_eq_getElem_cons (by omega)
    generalize xs[j]'(by omega) = z at hget hdrop
    refine ⟨⟨har.isSome (by decide) (i := j) (by simp; omega), by omega, by omega⟩, z.1, z.2.1, z.2.2.1, z.2.2.2, RdK.item har hget, ?_⟩
    intro w11 e11 w12 e12
    have x12 : Ext wr w12 := (Ext.rfl' wr |>.of_alloc e11).of_setRow e12 (Nat.le_refl _)
    have hs12 : wr.heap.size < w12.heap.size := by rw [e12, setRow_size, e11]; simp
    refine (Add_spec (hqr.ext x12) hok ⟨h3, by omega⟩ z.2 z.1).mono ?_
    rintro e w13 ⟨rfl, s13, h13, t13⟩
    have hlo := qadd_lost qr z.2 z.1
    have hwj : IntKind.wrap .i64 ((j : Int) + 1) = ((j + 1 : Nat) : Int) := by rw [wrap_in (by unfold inI; omega)]; omega
    have hwk : IntKind.wrap .i64 ((k : Int) + 1) = ((k + 1 : Nat) : Int) := by rw [wrap_in (by unfold inI; omega)]; omega
    rw [hdrop] at h5 h6
    simp only [qput] at h5 h6
    have ht' := (ht.trans (Turned.of_ext x12)).trans t13
    refine ⟨_, rfl, t13.mod.same _ hs12 (fun hf => ?_), Br.mk (fun hb => ?_) (fun hb => ?_)⟩
    · have := hqr.lt _ hf; omega
    · rw [hb] at h6
      simp only [if_true] at h6
      rw [hwj, hwk]
      exact ⟨n - 1, by omega, j + 1, k + 1, s13, _, rfl, rfl, by omega, by omega, h13, hok.add _ _, ht', by omega, by omega, h5, by omega⟩
    · rw [hb] at h6
      simp only [Bool.false_eq_true, if_false] at h6
      rw [hwj]
      exact ⟨n - 1, by omega, j + 1, k, s13, _, rfl, rfl, by omega, by omega, h13, hok.add _ _, ht', by omega, by omega, h5, by omega⟩
  · simp only [decide_eq_false_iff_not] at hc
    have hj : j = xs.length := by omega
    rw [hj, List.drop_length] at h5 h6
    simp only [qput] at h5 h6
    refine ⟨by rw [← h6]; rfl, sr, ?_, ht⟩
    rw [← h5]; exact hqr
end Go.Proofs.Ytbphdgiepimmkaa
