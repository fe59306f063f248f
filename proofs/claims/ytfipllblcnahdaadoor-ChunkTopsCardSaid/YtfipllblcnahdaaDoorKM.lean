import Derived.Test.YtfipllblcnahdaaDoorKL
set_option linter.all false
namespace Go.Proofs.YtfipllblcnahdaaDoor
open Go Go.Vc Go.RowKit Go.Proofs Go.Chk Go.Runs

theorem Same_spec {w : World} {g g' : Nat} {s s' : Sl} {p p' : Po} {C C' : List Int} (h : KIs w g s p C) (h' : KIs w g' s' p' C') : Calls Tryd.prog n_chunk_Chunk_Same #[.pointer (some ⟨g, 0, none⟩), .pointer (some ⟨g', 0, none⟩)] w fun e w' => e = .returned (.bool (decide (p = p' ∧ C = C'))) ∧ Ext w w' := by
  apply chunk_Chunk_Same.vc
  have h1 := h.ext (Ext.dr w)
  have h2 := h'.ext (Ext.dr w)
  have pp : ∀ {w : World} {g : Nat} {s : Sl} {p : Po} {C : List Int}, KIs w g s p C → LoadL w (padd (padd (some ⟨g, 0, none⟩) 0) 0) 0 [.int .i64 p.1, .int .i64 p.2] := fun h => by rw [padd_padd]; exact h.pos
  refine ⟨p.1, p.2, pp h1, p'.1, p'.2, pp h2, Br.mk (fun hb => ?_) (fun hb => ?_)⟩
  · simp only [Bool.and_eq_true, beq_iff_eq] at hb
    have hpe : p = p' := Prod.ext hb.1 hb.2
    refine ⟨s, h1.row.at 2 rfl, s', h2.row.at 2 rfl, (Equal_spec (OwR.rdr h1.own) (OwR.rdr h2.own) (cells_pos h.len).2.2).mono ?_⟩
    rintro e w6 ⟨rfl, x6⟩
    refine ⟨_, rfl, pp (h2.ext x6), pp (h1.ext x6), ?_, (Ext.dr w).tr x6⟩
    have : (ofC C = ofC C') ↔ (p = p' ∧ C = C') := ⟨fun e => ⟨hpe, by rw [← cells_ofC C, e, cells_ofC]⟩, fun e => by rw [e.2]⟩
    rw [decide_eq_decide.2 this]
  · have hne : ¬ (p = p' ∧ C = C') := by
      rintro ⟨rfl, -⟩
      simp at hb
    exact ⟨by rw [decide_eq_false hne], Ext.dr w⟩
theorem Clone_spec {w : World} {g : Nat} {s : Sl} {p : Po} {C : List Int} (h : KIs w g s p C) : Calls Tryd.prog n_chunk_Chunk_Clone #[.pointer (some ⟨g, 0, none⟩)] w fun e w' => ∃ g' s', e = .returned (.pointer (some ⟨g', 0, none⟩)) ∧ KIs w' g' s' p C ∧ Ext w w' ∧ w.heap.size ≤ g' := by
  apply chunk_Chunk_Clone.vc
  have h1 := h.ext (Ext.dr w)
  refine ⟨p.1, p.2, h1.pos, s, h1.row.at 2 rfl, (clone_spec s (ofC C) w.drew (OwR.rdr h1.own) (cells_pos h.len).2.2).mono ?_⟩
  rintro e w3 ⟨s4, rfl, ho, x3⟩
  refine ⟨s4, rfl, (h1.ext x3).pos, fun w5 e5 => ?_⟩
  have x5 : Ext w3 w5 := (Ext.rfl' _).of_alloc e5
  have z3 : w.heap.size ≤ w3.heap.size := x3.size
  exact ⟨_, s4, rfl, ⟨by rw [e5]; exact Row.new w3 [_, _, _] _, (OwnK.low ho (Nat.zero_le _)).ext x5, h.len, h.may⟩, ((Ext.dr w).tr x3).tr x5, z3⟩
/-- The document's chunk: a place, and runs. -/
abbrev kv (p : Po) (s : Sl) : Value := .agg #[.int .i64 p.1, .int .i64 p.2, .slice s.a s.n s.c]
abbrev tK : TypeId := 38
theorem rIndex_spec (p : Po) (s : Sl) (c : Ce) (hc : okC c) (w : World) : Calls Tryd.prog n_ref11_Index #[kv p s, cev c] w fun e w' => e = .returned (.int .i64 (if inK p c then idx c else -1)) ∧ Ext w w' := by
  apply ref11_Index.vc
  intro w0 e0 w1 e1
  have z0 : w0.heap.size = w.heap.size + 1 := by rw [e0]; simp
  have z1 : w1.heap.size = w.heap.size + 2 := by rw [e1]; simp [z0]
  have x1 : Ext w w1 := ((Ext.rfl' w).of_alloc e0).of_alloc e1
  have hb : Row w1 w.heap.size [.int .i64 p.1, .int .i64 p.2, .slice s.a s.n s.c] tK := (by rw [e0]; exact Row.new w [_, _, _] _ : Row w0 w.heap.size [.int .i64 p.1, .int .i64 p.2, .slice s.a s.n s.c] tK).ext ((Ext.rfl' _).of_alloc e1)
  refine (rIndex3_spec c w1).mono ?_
  rintro e w2 ⟨⟨i, b, rfl, hi⟩, x2⟩
  have z2 := x2.size
  refine ⟨i, b, rfl, x2.heap (by omega), x2.heap (by omega), Br.mk (fun hbb => ?_) (fun hbb => ?_)⟩
  · rcases hi with ⟨h, -⟩ | ⟨-, hy, -⟩
    · rw [h] at hbb; cases hbb
    · have : inK p c = false := by
        cases hk : inK p c with
        | false => rfl
        | true => exact absurd ((inK_iff p c).1 hk).1 hy
      rw [this]
      exact ⟨rfl, (x1.tr x2).drew⟩
  · rcases hi with ⟨-, hy, rfl⟩ | ⟨h, -⟩
    · refine (rChunk3_spec c hc w2.drew).mono ?_
      rintro e w5 ⟨rfl, x5⟩
      have xx : Ext w w5 := (x1.tr x2).tr ((Ext.dr _).tr x5)
      have hb5 := (hb.ext x2).ext (Ext.dr _) |>.ext x5
      refine ⟨_, _, rfl, x5.heap (show w.heap.size < w2.heap.size by omega), x5.heap (show w0.heap.size < w2.heap.size by omega), hb5.loadL (fun j hj => by
        simp at hj
        rcases j with _ | _ | j
        · rfl
        · rfl
        · omega), Br.mk (fun hq => ?_) (fun hq => ?_)⟩
      · have : inK p c = false := by
          cases hk : inK p c with
          | false => rfl
          | true =>
            have he := ((inK_iff p c).1 hk).2
            rw [← he] at hq
            simp at hq
        rw [this]; exact ⟨rfl, xx⟩
      · have : inK p c = true := by
          refine (inK_iff p c).2 ⟨hy, ?_⟩
          simp only [Bool.not_eq_false', Bool.and_eq_true, beq_iff_eq] at hq
          exact Prod.ext hq.1 hq.2
        rw [this]; exact ⟨rfl, xx⟩
    · rw [h] at hbb; cases hbb
end Go.Proofs.YtfipllblcnahdaaDoor
