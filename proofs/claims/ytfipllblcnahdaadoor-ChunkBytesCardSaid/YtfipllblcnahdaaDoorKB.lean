import Derived.Test.YtfipllblcnahdaaDoorKT
import Derived.Test.YtfipllblcnahdaaDoorP
import Derived.Test.YtfipllblcnahdaaDoorQ
set_option linter.all false
namespace Go.Proofs.YtfipllblcnahdaaDoor
open Go Go.Vc Go.RowKit Go.Proofs Go.Chk Go.Runs Go.Code

/-- What New answers of runs. -/
def NewRes (w : World) (p : Po) (l : List Rn) (e : Ending) (w' : World) : Prop :=
  (mayR bMay l 8192 = true ∧ ∃ g sg, e = .returned (.tuple #[.pointer (some ⟨g, 0, none⟩), .int .i64 0]) ∧ KIs w' g sg p (cellsR l) ∧ w.heap.size ≤ g) ∨
  (mayR bMay l 8192 = false ∧ e = .returned (.tuple #[.pointer none, .int .i64 1]))
theorem New_spec (p : Po) (s : Sl) (l : List Rn) (w : World) (hs : RdR w s l) (hn : Bd l.length) : Calls Tryd.prog n_chunk_New #[pv p, .slice s.a s.n s.c] w fun e w' => NewRes w p l e w' ∧ Ext w w' := by
  apply chunk_New.vc
  intro w0 e0
  have z0 : w0.heap.size = w.heap.size + 1 := by rw [e0]; simp
  have x0 : Ext w w0 := (Ext.rfl' w).of_alloc e0
  have hb0 : Row w0 w.heap.size [.int .i64 p.1, .int .i64 p.2] tPo := by rw [e0]; exact Row.new w [_, _] _
  clear e0
  refine (runs_May_spec s l 8192 w0 (RdK.ext hs x0) hn (by unfold inI; omega)).mono ?_
  rintro e w1 ⟨rfl, x1⟩
  have z1 := x1.size
  have zd : w1.drew.heap.size = w1.heap.size := rfl
  refine ⟨_, rfl, x1.heap (by omega), Br.mk (fun hb => ?_) (fun hb => ?_)⟩
  · have hf : mayR bMay l 8192 = false := by simpa using hb
    exact ⟨.inr ⟨hf, rfl⟩, x0.tr x1⟩
  · have ht : mayR bMay l 8192 = true := by simpa using hb
    obtain ⟨i1, i2, i3⟩ := mayR_inv ht
    have xd := (x0.tr x1).drew
    have fin : ∀ {w3 w5 : World} {s4 : Sl}, Ext w1.drew w3 → OwR w1.drew.heap.size w3 s4 l → w5 = w3.alloc (.cells #[.int .i64 p.1, .int .i64 p.2, .slice s4.a s4.n s4.c] 55) → NewRes w p l (.returned (.tuple #[.pointer (some ⟨w3.heap.size, 0, none⟩), .int .i64 0])) w5 ∧ Ext w w5 := fun {w3 w5 s4} x3 ho e5 => by
      have x5 : Ext w3 w5 := (Ext.rfl' _).of_alloc e5
      have z3 := x3.size
      refine ⟨.inl ⟨ht, _, s4, rfl, ⟨by rw [e5]; exact Row.new w3 [_, _, _] _, ?_, by omega, i2⟩, by omega⟩, xd.tr (x3.tr x5)⟩
      rw [i1]
      exact (OwnK.low ho (Nat.zero_le _)).ext x5
    refine ⟨(clone_spec s l w1.drew (RdK.ext hs xd) hn).mono ?_, (clone_spec s l w1.drew (RdK.ext hs xd) hn).mono ?_⟩
    · rintro e w3 ⟨s4, rfl, ho, x3⟩
      exact ⟨s4, rfl, x3.heap (by omega), fun w5 e5 => fin x3 ho e5⟩
    · rintro e w3 ⟨s4, rfl, ho, x3⟩
      exact ⟨s4, rfl, x3.heap (by omega), ((hb0.ext x1.drew).ext x3).loadL (fun j hj => by rw [Nat.zero_add]), fun w5 e5 => fin x3 ho e5⟩
/-- What Read answers of bytes. -/
def ReadRes (w : World) (p : Po) (b : List Int) (e : Ending) (w' : World) : Prop :=
  ((readB bMay b 8192).2 = 0 ∧ ∃ g sg, e = .returned (.tuple #[.pointer (some ⟨g, 0, none⟩), .int .i64 0]) ∧ KIs w' g sg p (cellsR (readB bMay b 8192).1) ∧ w.heap.size ≤ g ∧ ofC (cellsR (readB bMay b 8192).1) = (readB bMay b 8192).1) ∨
  ((readB bMay b 8192).2 ≠ 0 ∧ e = .returned (.tuple #[.pointer none, .int .i64 (readB bMay b 8192).2]))
theorem Read_spec (p : Po) (s : Sl) (b : List Int) (w : World) (hs : RdY w s b) (hb : InY b) (hc : s.n ≤ s.c) (hl : b.length ≤ 1099511627776) : Calls Tryd.prog n_chunk_Read #[pv p, .slice s.a s.n s.c] w fun e w' => ReadRes w p b e w' ∧ Ext w w' := by
  apply chunk_Read.vc
  intro w0 e0
  have z0 : w0.heap.size = w.heap.size + 1 := by rw [e0]; simp
  have x0 : Ext w w0 := (Ext.rfl' w).of_alloc e0
  clear e0
  refine (code_Read_spec s b 8192 w0 (RdK.ext hs x0) hb hc hl (by decide) (by unfold inI; omega)).mono ?_
  rintro e w1 ⟨⟨s2, rfl, ho⟩, x1⟩
  have z1 := x1.size
  have hlen := readB_len (may := bMay) b 8192
  have hag := readB_again (b := b) (n := 8192) hb (by decide)
  refine ⟨s2, _, rfl, x1.heap (by omega), Br.mk (fun hne => ?_) (fun hne => ?_)⟩
  · exact ⟨.inr ⟨by simpa using hne, rfl⟩, x0.tr x1⟩
  · have h0 : (readB bMay b 8192).2 = 0 := by simpa using hne
    obtain ⟨f1, f2, f3⟩ := hag h0
    have hm : mayR bMay (readB bMay b 8192).1 8192 = true := by
      have := f2.mayR (by omega)
      rw [f3] at this; exact this
    refine (New_spec p s2 _ w1 (OwR.rdr ho) (by show _ ≤ _; omega)).mono ?_
    rintro e w4 ⟨hr, x4⟩
    rcases hr with ⟨-, g, sg, rfl, hk, hg⟩ | ⟨hf, -⟩
    · exact ⟨_, _, rfl, x4.heap (by omega), .inl ⟨h0, g, sg, rfl, hk, by omega, (mayR_inv hm).1⟩, x0.tr (x1.tr x4)⟩
    · rw [hm] at hf; cases hf
theorem rRead_spec (p : Po) (s : Sl) (b : List Int) (w : World) (hs : RdY w s b) (hb : InY b) (hc : s.n ≤ s.c) (hl : b.length ≤ 1099511627776) :
    Calls Tryd.prog n_ref11_Read #[pv p, .slice s.a s.n s.c] w fun e w' => (∃ (x y : Int) (sr : Sl), e = .returned (.tuple #[.agg #[.int .i64 x, .int .i64 y, .slice sr.a sr.n sr.c], .int .i64 (readB bMay b 8192).2]) ∧ ((readB bMay b 8192).2 = 0 → OwR 0 w' sr (readB bMay b 8192).1)) ∧ Ext w w' := by
  apply ref11_Read.vc
  intro w0 e0 w1 e1
  have z0 : w0.heap.size = w.heap.size + 1 := by rw [e0]; simp
  have z1 : w1.heap.size = w.heap.size + 2 := by rw [e1]; simp [z0]
  have x1 : Ext w w1 := ((Ext.rfl' w).of_alloc e0).of_alloc e1
  clear e0 e1
  refine (ref06_Read_spec s b 8192 w1 (RdK.ext hs x1) hb hl hc (by decide) (by unfold inI; omega)).mono ?_
  rintro e w2 ⟨⟨s3, rfl, ho⟩, x2⟩
  have z2 := x2.size
  refine ⟨s3, _, rfl, x2.heap (by omega), x2.heap (by omega), Br.mk (fun hne => fun w5 e5 => ?_) (fun hne => fun w6 e6 => ?_)⟩
  · have h0 : (readB bMay b 8192).2 ≠ 0 := by simpa using hne
    exact ⟨⟨0, 0, ⟨none, 0, 0⟩, rfl, fun h => absurd h h0⟩, (x1.tr x2).of_setRow e5 (by omega)⟩
  · have h0 : (readB bMay b 8192).2 = 0 := by simpa using hne
    refine ⟨⟨p.1, p.2, s3, by rw [h0], fun _ => ?_⟩, (x1.tr x2).of_setRow e6 (by omega)⟩
    refine OwnK.low (OwnK.keep ho fun j hj => ?_) (Nat.zero_le _)
    have := (ho.own.lt hj).1
    rw [e6]; exact setRow_other _ _ _ _ (by omega)
/-- The runs of a chunk may be written. -/
theorem chunk_okW {C : List Int} (hl : C.length = 8192) (hm : ∀ b ∈ C, bMay b = true) : okW bMay (ofC C) = true ∧ ofC C ≠ [] ∧ Follow bMay (-1) (ofC C) ∧ sumR (ofC C) = 8192 := by
  have hs : sumR (ofC C) = 8192 := by rw [sumR_ofC, hl]; rfl
  have hne : ofC C ≠ [] := by
    intro e
    rw [e] at hs
    cases hs
  have hc : ∀ r ∈ ofC C, bMay r.2 = true := fun r hr => by
    refine hm _ ?_
    have := mem_cells hr (mem_ofC hr).1
    rwa [cells_ofC] at this
  refine ⟨okW_nm (Nm_ofC C) hc (by omega) hne, hne, ?_, hs⟩
  refine Follow.of (fun r hr => ?_) (Nm_ofC C).next (fun r hr => ?_)
  · have h1 := mem_ofC hr
    have h2 := hc r hr
    have h3 := h2
    unfold bMay at h3
    simp only [Bool.and_eq_true, decide_eq_true_eq] at h3
    exact ⟨h1.1, by omega, by omega, by omega, h2⟩
  · have h2 := hc r (List.mem_of_mem_head? hr)
    unfold bMay at h2
    simp only [Bool.and_eq_true, decide_eq_true_eq] at h2
    omega
theorem chunk_inI {C : List Int} (hl : C.length = 8192) (hm : ∀ b ∈ C, bMay b = true) : ∀ r ∈ ofC C, inI r.1 ∧ inI r.2 := follow_in (chunk_okW hl hm).2.2.1
theorem Bytes_spec {w : World} {g : Nat} {s : Sl} {p : Po} {C : List Int} (h : KIs w g s p C) : Calls Tryd.prog n_chunk_Chunk_Bytes #[.pointer (some ⟨g, 0, none⟩)] w fun e w' => ∃ s' : Sl, e = .returned (.slice s'.a s'.n s'.c) ∧ OwY w.heap.size w' s' (wrB (ofC C)) ∧ Ext w w' := by
  apply chunk_Chunk_Bytes.vc
  have hlen := ofC_len C
  have hl := h.len
  refine ⟨s, h.row.at 2 rfl, (code_Write_spec s (ofC C) w (OwR.rdr h.own) (by omega) (chunk_inI h.len h.may)).mono ?_⟩
  rintro e w1 ⟨⟨s2, rfl, ho⟩, x1⟩
  rw [if_pos (chunk_okW h.len h.may).1] at ho
  exact ⟨s2, _, rfl, s2, rfl, ho, x1⟩
end Go.Proofs.YtfipllblcnahdaaDoor
