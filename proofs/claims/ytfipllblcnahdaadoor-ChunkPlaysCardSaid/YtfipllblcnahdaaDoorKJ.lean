import Derived.Test.YtfipllblcnahdaaDoorKI
set_option linter.all false
namespace Go.Proofs.YtfipllblcnahdaaDoor
open Go Go.Vc Go.RowKit Go.Proofs Go.Chk Go.Runs

theorem KIs.pos {w : World} {g : Nat} {s : Sl} {p : Po} {C : List Int} (h : KIs w g s p C) : LoadL w (padd (some ⟨g, 0, none⟩) 0) 0 [.int .i64 p.1, .int .i64 p.2] := by
  rw [padd_row]
  exact h.row.loadL (fun j hj => by
    simp at hj
    rcases j with _ | _ | j
    · rfl
    · rfl
    · omega)
theorem cells_pos {C : List Int} (h : C.length = 8192) : (∀ r ∈ ofC C, 0 ≤ r.1) ∧ sumR (ofC C) ≤ 1099511627776 ∧ Bd (ofC C).length := by
  refine ⟨fun r hr => by have := (mem_ofC hr).1; omega, by rw [sumR_ofC, h]; decide, ?_⟩
  have := ofC_len C
  show (ofC C).length ≤ 1099511627776
  omega
theorem At_spec {w : World} {g : Nat} {s : Sl} {p : Po} {C : List Int} (h : KIs w g s p C) (c : Ce) (hc : okC c) : Calls Tryd.prog n_chunk_Chunk_At #[.pointer (some ⟨g, 0, none⟩), cev c] w fun e w' => e = .returned (.tuple #[.int .i64 (kAt p C c), .bool (inK p c)]) ∧ Ext w w' := by
  apply chunk_Chunk_At.vc
  intro w0 e0
  have x0 : Ext w w0.drew := (Ext.rfl' w |>.of_alloc e0).drew
  have z0 : w0.heap.size = w.heap.size + 1 := by rw [e0]; simp
  have h0 := h.ext x0
  refine ⟨p.1, p.2, h0.pos, (index_spec p c hc w0.drew).mono ?_⟩
  rintro e w3 ⟨⟨i, rfl, hi⟩, x3⟩
  have h3 := h0.ext x3
  have z3 := x3.size
  refine ⟨i, _, rfl, x3.heap (show w.heap.size < w0.heap.size by omega), Br.mk (fun hb => ?_) (fun hb => ?_)⟩
  · have hf : inK p c = false := by simpa using hb
    refine ⟨?_, x0.tr x3⟩
    unfold kAt
    rw [hf]; rfl
  · have hk : inK p c = true := by simpa using hb
    have hie := hi hk
    subst hie
    have hidx := idx_in ((inK_iff p c).1 hk).1
    obtain ⟨q1, q2, q3⟩ := cells_pos h.len
    refine ⟨s, h3.row.at 2 rfl, (runs_At_spec s (ofC C) (idx c) w3 (OwR.rdr h3.own) q3 q1 q2 (by unfold inI; omega)).mono ?_⟩
    rintro e w7 ⟨rfl, x7⟩
    refine ⟨_, rfl, x7.heap (Nat.lt_of_lt_of_le (show w.heap.size < w0.heap.size by omega) z3), ?_, (x0.tr x3).tr x7⟩
    rw [cells_ofC]
    unfold kAt
    rw [hk]; rfl
theorem kSet_ok {p : Po} {C : List Int} (hl : C.length = 8192) (hm : ∀ b ∈ C, bMay b = true) (c : Ce) (b : Int) : (kSet p C c b).1.length = 8192 ∧ ∀ x ∈ (kSet p C c b).1, bMay x = true := by
  unfold kSet
  split
  · exact ⟨hl, hm⟩
  · split
    · exact ⟨hl, hm⟩
    · rename_i h
      refine ⟨by rw [List.length_set]; exact hl, fun x hx => ?_⟩
      rcases List.mem_or_eq_of_mem_set hx with h1 | h1
      · exact hm x h1
      · subst h1; simpa using h
theorem Set_spec {w : World} {g : Nat} {s : Sl} {p : Po} {C : List Int} (h : KIs w g s p C) (c : Ce) (hc : okC c) (b : Int) :
    Calls Tryd.prog n_chunk_Chunk_Set #[.pointer (some ⟨g, 0, none⟩), cev c, .int .i64 b] w fun e w' => e = .returned (.int .i64 (kSet p C c b).2) ∧ ∃ s', KIs w' g s' p (kSet p C c b).1 ∧ Mod (fun i => i = g) w w' ∧ (∀ i, s'.blk = some i → s.blk = some i ∨ w.heap.size ≤ i) := by
  apply chunk_Chunk_Set.vc
  intro w0 e0
  have x0 : Ext w w0.drew := (Ext.rfl' w |>.of_alloc e0).drew
  have z0 : w0.heap.size = w.heap.size + 1 := by rw [e0]; simp
  have hgl := h.row.lt
  have h0 := h.ext x0
  refine ⟨p.1, p.2, h0.pos, (index_spec p c hc w0.drew).mono ?_⟩
  rintro e w3 ⟨⟨i, rfl, hi⟩, x3⟩
  have h3 := h0.ext x3
  have z3 := x3.size
  have z3' : w.heap.size < w3.heap.size := Nat.lt_of_lt_of_le (show w.heap.size < w0.heap.size by omega) z3
  refine ⟨i, _, rfl, x3.heap (show w.heap.size < w0.heap.size by omega), Br.mk (fun hb => ?_) (fun hb => ?_)⟩
  · have hf : inK p c = false := by simpa using hb
    have e : kSet p C c b = (C, 5) := by unfold kSet; rw [if_pos hf]
    rw [e]
    exact ⟨rfl, s, h3, Mod.of_ext (x0.tr x3), fun i hi => .inl hi⟩
  · have hk : inK p c = true := by simpa using hb
    have hie := hi hk
    subst hie
    have hidx := idx_in ((inK_iff p c).1 hk).1
    refine (block_May_spec b w3).mono ?_
    rintro e w6 ⟨rfl, x6⟩
    have h6 := h3.ext x6
    have z6 := x6.size
    refine ⟨_, rfl, x6.heap z3', Br.mk (fun hb2 => ?_) (fun hb2 => ?_)⟩
    · have hf : bMay b = false := by simpa using hb2
      have e : kSet p C c b = (C, 1) := by unfold kSet; rw [if_neg (by simp [hk]), if_pos hf]
      rw [e]
      exact ⟨rfl, s, h6, Mod.of_ext ((x0.tr x3).tr x6), fun i hi => .inl hi⟩
    · have hm : bMay b = true := by simpa using hb2
      have e : kSet p C c b = (C.set (idx c).toNat b, 0) := by unfold kSet; rw [if_neg (by simp [hk]), if_neg (by simp [hm])]
      refine ⟨s, h6.row.at 2 rfl, (runs_Set_spec s C (idx c) b w6 (OwR.rdr h6.own) h.bd (by unfold inI; omega)).mono ?_⟩
      rintro e9 w9 ⟨s10, rfl, ho, x9⟩
      have hs : setC C (idx c) b = C.set (idx c).toNat b := by unfold setC; rw [if_pos ⟨hm, hidx.1, by rw [h.len]; omega⟩]
      rw [hs] at ho
      obtain ⟨p1, p2⟩ := (h6.row.ext x9).put1 (j := 2) (v := .slice s10.a s10.n s10.c) (by simp) rfl
      refine ⟨s10, rfl, x9.heap (by omega), ⟨rfl, p1⟩, ?_, fun w11 e11 => ?_⟩
      · rw [pblk_padd]
        intro e
        have : g = w.heap.size := by simpa [pblk] using e
        omega
      · obtain ⟨q1, q2⟩ := p2 w11 e11
        have hok := kSet_ok (p := p) h.len h.may c b
        rw [e] at hok ⊢
        refine ⟨rfl, s10, ⟨q1, q2.ownK (OwnK.low ho (Nat.zero_le _)) fun i hi hf => ?_, hok.1, hok.2⟩, (Mod.of_ext (((x0.tr x3).tr x6).tr x9)).trans q2, fun i hi => .inr ?_⟩
        · obtain ⟨cs, hr⟩ := own_row ho (by decide) hi
          exact hr.ne (h6.row.ext x9) (by decide) hf
        · have := (ho.own.lt hi).1
          have := (x0.tr x3).size
          omega
theorem Runs_spec {w : World} {g : Nat} {s : Sl} {p : Po} {C : List Int} (h : KIs w g s p C) : Calls Tryd.prog n_chunk_Chunk_Runs #[.pointer (some ⟨g, 0, none⟩)] w fun e w' => ∃ s' : Sl, e = .returned (.slice s'.a s'.n s'.c) ∧ OwR w.heap.size w' s' (ofC C) ∧ Ext w w' := by
  apply chunk_Chunk_Runs.vc
  refine ⟨s, h.row.at 2 rfl, (clone_spec s (ofC C) w (OwR.rdr h.own) (cells_pos h.len).2.2).mono ?_⟩
  rintro e w1 ⟨s', rfl, ho, x1⟩
  exact ⟨s', rfl, s', rfl, ho, x1⟩
theorem Place_spec (p : Po) (w : World) : Calls Tryd.prog n_chunk_place_Place #[pv p] w fun e w' => e = .returned (pv p) ∧ Ext w w' := by
  apply chunk_place_Place.vc
  intro w0 e0 w1 e1 w2 e2
  have z0 : w0.heap.size = w.heap.size + 1 := by rw [e0]; simp
  exact ⟨rfl, (((Ext.rfl' w).of_alloc e0).of_alloc e1).of_setRow e2 (by omega)⟩
theorem Equal_spec {w : World} {a b : Sl} {x y : List Rn} (ha : RdR w a x) (hb : RdR w b y) (hl : Bd x.length) : Calls Tryd.prog n_slices_Equal_Run #[.slice a.a a.n a.c, .slice b.a b.n b.c] w fun e w' => e = .returned (.bool (decide (x = y))) ∧ Ext w w' := by
  apply slices_Equal_Run.vc
  have hn := RdR.len ha
  have hm := RdR.len hb
  unfold Bd at hl
  refine Br.mk (fun hc => ?_) (fun hc => ?_)
  · have hne : x ≠ y := by
      rintro rfl
      simp only [bne_iff_ne, ne_eq] at hc; omega
    exact ⟨by rw [decide_eq_false hne], Ext.rfl' _⟩
  · have heq : x.length = y.length := by
      simp only [bne_eq_false_iff_eq] at hc; omega
    refine ⟨fun n i wr => Ext w wr ∧ ∃ k : Nat, i = k ∧ k + n = x.length ∧ x.take k = y.take k, ⟨x.length, Ext.rfl' _, 0, rfl, by omega, rfl⟩, ?_⟩
    rintro n us i wr ⟨xr, k, rfl, hk, hsame⟩
    refine Br.mk (fun hc => ?_) (fun hc => ?_)
    · simp only [decide_eq_true_eq] at hc
      have hgx : x[k]? = some (x[k]'(by omega)) := List.getElem?_eq_getElem (by omega)
      have hgy : y[k]? = some (y[k]'(by omega)) := List.getElem?_eq_getElem (by omega)
      generalize x[k]'(by omega) = p at hgx
      generalize y[k]'(by omega) = q at hgy
      have hra : RdR wr.drew a x := RdK.ext ha xr.drew
      have hrb : RdR wr.drew b y := RdK.ext hb xr.drew
      refine ⟨RdR.inB hra (by omega), p.1, p.2, RdR.ll hra (i := k) hgx, RdR.inB hrb (by omega), q.1, q.2, RdR.ll hrb (i := k) hgy, Br.mk (fun hq => ?_) (fun hq => ?_)⟩
      · have hpq : p ≠ q := by
          intro e; subst e; simp at hq
        have hne : x ≠ y := by
          intro e; rw [e, hgy] at hgx; exact hpq (by cases hgx; rfl)
        exact ⟨by rw [decide_eq_false hne], xr.drew⟩
      · have hpq : p = q := by
          simp only [Bool.not_eq_false', Bool.and_eq_true, beq_iff_eq] at hq
          exact Prod.ext hq.1 hq.2
        have hw : IntKind.wrap .i64 ((k : Int) + 1) = ((k + 1 : Nat) : Int) := by rw [wrap_in (by unfold inI; omega)]; omega
        rw [hw]
        exact ⟨n - 1, by omega, xr.drew, k + 1, rfl, by omega, by rw [List.take_add_one, List.take_add_one, hgx, hgy, hsame, hpq]⟩
    · simp only [decide_eq_false_iff_not] at hc
      rw [List.take_of_length_le (by omega), List.take_of_length_le (by omega)] at hsame
      exact ⟨by rw [decide_eq_true hsame], xr⟩
end Go.Proofs.YtfipllblcnahdaaDoor
