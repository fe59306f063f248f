import Derived.Test.YtfipllblcnahdaaDoorQHHF
import Derived.Test.YtfipllblcnahdaaDoorQPK
set_option linter.all false
namespace Go.Proofs.YtfipllblcnahdaaDoor
open Go Go.Vc Go.RowKit Go.Proofs Go.Chk

abbrev pv (p : Po) : Value := .agg #[.int .i64 p.1, .int .i64 p.2]
abbrev cev (c : Ce) : Value := .agg #[.int .i64 c.1, .int .i64 c.2.1, .int .i64 c.2.2]
abbrev tCe : TypeId := 23
abbrev tPo : TypeId := 27
theorem cDiv_spec (a b : Int) (ha : inI a) (hb : 0 < b) (w : World) : Calls Tryd.prog n_cell_Div #[.int .i64 a, .int .i64 b] w fun e w' => e = .returned (.int .i64 (a / b)) ∧ w' = w := by
  apply cell_Div.vc
  obtain ⟨h1, h2, h3, h4⟩ := tdm (a := a) hb
  have hq := ediv_in ha hb
  have ht := tdiv_in ha hb
  refine Br.mk (fun h => ?_) (fun _ => AndL_iff.2 ⟨nzC_iff.2 (by omega), AndL_iff.2 ⟨nzC_iff.2 (by omega), Br.mk (fun h => ?_) (fun h => ?_)⟩⟩)
  · simp only [decide_eq_true_eq] at h; omega
  · simp only [decide_eq_true_eq] at h
    rw [wrap_in ht, ← (h1 h).1, wrap_in hq]; exact ⟨rfl, rfl⟩
  · simp only [decide_eq_false_iff_not] at h
    rw [wrap_in ht, ← (h2 (by omega)).1]; exact ⟨rfl, rfl⟩
theorem cMod_spec (a b : Int) (hb : 0 < b) (hb' : b ≤ 1000000) (w : World) : Calls Tryd.prog n_cell_Mod #[.int .i64 a, .int .i64 b] w fun e w' => e = .returned (.int .i64 (a % b)) ∧ w' = w := by
  apply cell_Mod.vc
  obtain ⟨h1, h2, h3, h4⟩ := tdm (a := a) hb
  refine Br.mk (fun h => ?_) (fun _ => AndL_iff.2 ⟨nzC_iff.2 (by omega), Br.mk (fun h => ?_) (fun h => ?_)⟩)
  · simp only [decide_eq_true_eq] at h; omega
  · simp only [decide_eq_true_eq] at h
    rw [wrap_in (by unfold inI; omega), ← (h1 h).2]; exact ⟨rfl, rfl⟩
  · simp only [decide_eq_false_iff_not] at h
    rw [← (h2 (by omega)).2]; exact ⟨rfl, rfl⟩
theorem rMod_spec (a b : Int) (hb : 0 < b) (hb' : b ≤ 1000000) (w : World) : Calls Tryd.prog n_ref03_Mod #[.int .i64 a, .int .i64 b] w fun e w' => e = .returned (.int .i64 (a % b)) ∧ w' = w := by
  apply ref03_Mod.vc
  obtain ⟨h1, h2, h3, h4⟩ := tdm (a := a) hb
  refine Br.mk (fun h => ?_) (fun _ => AndL_iff.2 ⟨nzC_iff.2 (by omega), Br.mk (fun h => ?_) (fun h => ?_)⟩)
  · simp only [decide_eq_true_eq] at h; omega
  · simp only [decide_eq_true_eq] at h
    rw [wrap_in (by unfold inI; omega), ← (h1 h).2]; exact ⟨rfl, rfl⟩
  · simp only [decide_eq_false_iff_not] at h
    rw [← (h2 (by omega)).2]; exact ⟨rfl, rfl⟩
theorem rDiv1_spec (a b : Int) (ha : inI a) (hb : 0 < b) (w : World) : Calls Tryd.prog n_ref01_Div #[.int .i64 a, .int .i64 b] w fun e w' => e = .returned (.int .i64 (a / b)) ∧ w' = w := by
  apply ref01_Div.vc
  obtain ⟨h1, h2, h3, h4⟩ := tdm (a := a) hb
  have hq := ediv_in ha hb
  have ht := tdiv_in ha hb
  have hm : b * a.tdiv b + a.tmod b = a := Int.mul_tdiv_add_tmod a b
  have hsg : (0 ≤ a → 0 ≤ a.tmod b) ∧ (a ≤ 0 → a.tmod b ≤ 0) := by
    refine ⟨fun h => Int.tmod_nonneg b h, fun h => ?_⟩
    have := Int.tmod_nonneg (a := -a) b (by omega)
    rw [Int.neg_tmod] at this; omega
  have hmul : a.tdiv b * b = a - a.tmod b := by rw [Int.mul_comm]; omega
  have hin : inI (a.tdiv b * b) := by
    rw [hmul]
    unfold inI at *
    rcases Int.lt_or_le a 0 with h | h
    · have := hsg.2 (by omega)
      have := (tdm (a := a) hb)
      have hle : a - a.tmod b ≤ 0 := by
        rcases Int.lt_or_le 0 (a - a.tmod b) with h5 | h5
        · exfalso
          rw [← hmul] at h5
          have h6 : a.tdiv b ≤ 0 := by
            have := Int.tdiv_nonneg (a := -a) (b := b) (by omega) (by omega)
            rw [Int.neg_tdiv] at this; omega
          have := Int.mul_nonpos_of_nonpos_of_nonneg h6 (by omega : 0 ≤ b)
          omega
        · exact h5
      omega
    · have := hsg.1 h
      have h6 : 0 ≤ a.tdiv b := Int.tdiv_nonneg h (by omega)
      have := Int.mul_nonneg h6 (by omega : 0 ≤ b)
      omega
  rw [ref01_Div.pre, wrap_in ht, wrap_in hin]
  refine AndL_iff.2 ⟨nzC_iff.2 (by omega), Br.mk (fun h => ?_) (fun h => ?_)⟩
  · simp only [decide_eq_true_eq, gt_iff_lt] at h
    rw [← (h1 (by omega)).1, wrap_in hq]; exact ⟨rfl, rfl⟩
  · simp only [decide_eq_false_iff_not, gt_iff_lt] at h
    rw [← (h2 (by omega)).1]; exact ⟨rfl, rfl⟩
theorem rDiv_spec (a b : Int) (ha : inI a) (hb : 0 < b) (w : World) : Calls Tryd.prog n_ref03_Div #[.int .i64 a, .int .i64 b] w fun e w' => e = .returned (.int .i64 (a / b)) ∧ w' = w := by
  apply ref03_Div.vc
  refine Br.mk (fun h => ?_) (fun _ => (rDiv1_spec a b ha hb w).mono ?_)
  · simp only [decide_eq_true_eq] at h; omega
  · rintro e w0 ⟨rfl, rfl⟩
    exact ⟨_, rfl, rfl, rfl⟩
/-- Cells that are near enough. -/
def okC (c : Ce) : Prop := inI c.1 ∧ inI c.2.1 ∧ inI c.2.2
theorem cIndex_spec (c : Ce) (w : World) : Calls Tryd.prog n_cell_Index #[cev c] w fun e w' => (∃ i b, e = .returned (.tuple #[.int .i64 i, .bool b]) ∧ ((b = true ∧ inY c ∧ i = idx c) ∨ (b = false ∧ ¬ inY c ∧ i = 0))) ∧ Ext w w' := by
  apply cell_Index.vc
  intro w0 e0
  have x0 : Ext w w0 := (Ext.rfl' w).of_alloc e0
  have hb : Row w0 w.heap.size [.int .i64 c.1, .int .i64 c.2.1, .int .i64 c.2.2] tCe := by rw [e0]; exact Row.new w [_, _, _] _
  have hbd := hb.ext (Ext.dr w0)
  refine Br.mk (fun h => ?_) (fun h => Br.mk (fun h2 => ?_) (fun h2 => ?_)) <;> simp only [decide_eq_true_eq, decide_eq_false_iff_not] at *
  · exact ⟨⟨_, _, rfl, .inr ⟨rfl, by unfold inY; omega, rfl⟩⟩, x0⟩
  · exact ⟨⟨_, _, rfl, .inr ⟨rfl, by unfold inY; omega, rfl⟩⟩, x0⟩
  · refine (cMod_spec c.2.2 16 (by decide) (by decide) w0.drew).mono ?_
    rintro e w1 ⟨rfl, rfl⟩
    refine ⟨_, rfl, rfl, hbd.loadL (fun j hj => by simp at hj; subst hj; rfl), hbd.loadL (fun j hj => by simp at hj; subst hj; rfl), (cMod_spec c.1 16 (by decide) (by decide) _).mono ?_⟩
    rintro e w1 ⟨rfl, rfl⟩
    have e1 : IntKind.wrap .i64 (c.2.1 * 16) = c.2.1 * 16 := wrap_in (by unfold inI; omega)
    have e2 : IntKind.wrap .i64 (c.2.1 * 16 + c.2.2 % 16) = c.2.1 * 16 + c.2.2 % 16 := wrap_in (by unfold inI; omega)
    have e3 : IntKind.wrap .i64 ((c.2.1 * 16 + c.2.2 % 16) * 16) = (c.2.1 * 16 + c.2.2 % 16) * 16 := wrap_in (by unfold inI; omega)
    have e4 : IntKind.wrap .i64 ((c.2.1 * 16 + c.2.2 % 16) * 16 + c.1 % 16) = idx c := wrap_in (by unfold inI; omega)
    refine ⟨_, rfl, rfl, hbd.loadL (fun j hj => by simp at hj; subst hj; rfl), ?_, x0.drew⟩
    rw [e1, e2, e3, e4]
    exact ⟨_, _, rfl, .inl ⟨rfl, by unfold inY; omega, rfl⟩⟩
theorem rIndex3_spec (c : Ce) (w : World) : Calls Tryd.prog n_ref03_Index #[cev c] w fun e w' => (∃ i b, e = .returned (.tuple #[.int .i64 i, .bool b]) ∧ ((b = true ∧ inY c ∧ i = idx c) ∨ (b = false ∧ ¬ inY c ∧ i = 0))) ∧ Ext w w' := by
  apply ref03_Index.vc
  intro w0 e0
  have x0 : Ext w w0 := (Ext.rfl' w).of_alloc e0
  have hb : Row w0 w.heap.size [.int .i64 c.1, .int .i64 c.2.1, .int .i64 c.2.2] tCe := by rw [e0]; exact Row.new w [_, _, _] _
  have hbd := hb.ext (Ext.dr w0)
  refine Br.mk (fun h => ?_) (fun h => Br.mk (fun h2 => ?_) (fun h2 => ?_)) <;> simp only [decide_eq_true_eq, decide_eq_false_iff_not] at *
  · exact ⟨⟨_, _, rfl, .inr ⟨rfl, by unfold inY; omega, rfl⟩⟩, x0⟩
  · exact ⟨⟨_, _, rfl, .inr ⟨rfl, by unfold inY; omega, rfl⟩⟩, x0⟩
  · refine (rMod_spec c.2.2 16 (by decide) (by decide) w0.drew).mono ?_
    rintro e w1 ⟨rfl, rfl⟩
    refine ⟨_, rfl, rfl, hbd.loadL (fun j hj => by simp at hj; subst hj; rfl), hbd.loadL (fun j hj => by simp at hj; subst hj; rfl), (rMod_spec c.1 16 (by decide) (by decide) _).mono ?_⟩
    rintro e w1 ⟨rfl, rfl⟩
    have e1 : IntKind.wrap .i64 (c.2.1 * 256) = c.2.1 * 256 := wrap_in (by unfold inI; omega)
    have e2 : IntKind.wrap .i64 (c.2.2 % 16 * 16) = c.2.2 % 16 * 16 := wrap_in (by unfold inI; omega)
    have e3 : IntKind.wrap .i64 (c.2.1 * 256 + c.2.2 % 16 * 16) = c.2.1 * 256 + c.2.2 % 16 * 16 := wrap_in (by unfold inI; omega)
    have e4 : IntKind.wrap .i64 (c.2.1 * 256 + c.2.2 % 16 * 16 + c.1 % 16) = idx c := by rw [wrap_in (by unfold inI; omega)]; unfold idx; omega
    refine ⟨_, rfl, rfl, hbd.loadL (fun j hj => by simp at hj; subst hj; rfl), ?_, x0.drew⟩
    rw [e1, e2, e3, e4]
    exact ⟨_, _, rfl, .inl ⟨rfl, by unfold inY; omega, rfl⟩⟩
theorem cChunk_spec (c : Ce) (hc : okC c) (w : World) : Calls Tryd.prog n_cell_Chunk #[cev c] w fun e w' => e = .returned (pv (pos c)) ∧ Ext w w' := by
  apply cell_Chunk.vc
  intro w0 e0 w1 e1
  have x1 : Ext w w1.drew := (((Ext.rfl' w).of_alloc e0).of_alloc e1).drew
  have z0 : w0.heap.size = w.heap.size + 1 := by rw [e0]; simp
  have hb : Row w1.drew w.heap.size [.int .i64 c.1, .int .i64 c.2.1, .int .i64 c.2.2] tCe := ((by rw [e0]; exact Row.new w [_, _, _] _ : Row w0 w.heap.size [.int .i64 c.1, .int .i64 c.2.1, .int .i64 c.2.2] tCe).ext ((Ext.rfl' _).of_alloc e1)).ext (Ext.dr _)
  refine (cDiv_spec c.1 16 hc.1 (by decide) w1.drew).mono ?_
  rintro e w2 ⟨rfl, rfl⟩
  refine ⟨_, rfl, rfl, rfl, hb.loadL (fun j hj => by simp at hj; subst hj; rfl), (cDiv_spec c.2.2 16 hc.2.2 (by decide) _).mono ?_⟩
  rintro e w2 ⟨rfl, rfl⟩
  refine ⟨_, rfl, rfl, rfl, fun w6 e6 => ⟨rfl, x1.of_setRow e6 (by omega)⟩⟩
theorem rChunk3_spec (c : Ce) (hc : okC c) (w : World) : Calls Tryd.prog n_ref03_Chunk #[cev c] w fun e w' => e = .returned (pv (pos c)) ∧ Ext w w' := by
  apply ref03_Chunk.vc
  intro w0 e0 w1 e1
  have x1 : Ext w w1.drew := (((Ext.rfl' w).of_alloc e0).of_alloc e1).drew
  have z0 : w0.heap.size = w.heap.size + 1 := by rw [e0]; simp
  have hb : Row w1.drew w.heap.size [.int .i64 c.1, .int .i64 c.2.1, .int .i64 c.2.2] tCe := ((by rw [e0]; exact Row.new w [_, _, _] _ : Row w0 w.heap.size [.int .i64 c.1, .int .i64 c.2.1, .int .i64 c.2.2] tCe).ext ((Ext.rfl' _).of_alloc e1)).ext (Ext.dr _)
  refine (rDiv_spec c.1 16 hc.1 (by decide) w1.drew).mono ?_
  rintro e w2 ⟨rfl, rfl⟩
  refine ⟨_, rfl, rfl, rfl, hb.loadL (fun j hj => by simp at hj; subst hj; rfl), (rDiv_spec c.2.2 16 hc.2.2 (by decide) _).mono ?_⟩
  rintro e w2 ⟨rfl, rfl⟩
  refine ⟨_, rfl, rfl, rfl, fun w6 e6 => ⟨rfl, x1.of_setRow e6 (by omega)⟩⟩
/-- Places that are near enough. -/
def okP (p : Po) : Prop := (-1099511627776 ≤ p.1 ∧ p.1 ≤ 1099511627776) ∧ (-1099511627776 ≤ p.2 ∧ p.2 ≤ 1099511627776)
theorem cFrom_spec (p : Po) (hp : okP p) (i : Int) (hi : 0 ≤ i ∧ i < 8192) (w : World) : Calls Tryd.prog n_cell_From #[pv p, .int .i64 i] w fun e w' => e = .returned (.tuple #[cev (cellAt p i), .bool true]) ∧ Ext w w' := by
  apply cell_From.vc
  obtain ⟨⟨p1, p2⟩, p3, p4⟩ := hp
  intro w0 e0 w1 e1
  have z0 : w0.heap.size = w.heap.size + 1 := by rw [e0]; simp
  have x1 : Ext w w1 := ((Ext.rfl' w).of_alloc e0).of_alloc e1
  have t1 : Int.tmod i 16 = i % 16 := Int.tmod_eq_emod_of_nonneg hi.1
  have t2 : Int.tdiv i 256 = i / 256 := Int.tdiv_eq_ediv_of_nonneg hi.1
  have t3 : Int.tdiv i 16 = i / 16 := Int.tdiv_eq_ediv_of_nonneg hi.1
  have t4 : Int.tmod (i / 16) 16 = i / 16 % 16 := Int.tmod_eq_emod_of_nonneg (by omega)
  have w1' : IntKind.wrap .i64 (i / 16) = i / 16 := wrap_in (by unfold inI; omega)
  have w2' : IntKind.wrap .i64 (i / 256) = i / 256 := wrap_in (by unfold inI; omega)
  have w3' : IntKind.wrap .i64 (p.1 * 16) = p.1 * 16 := wrap_in (by unfold inI; omega)
  have w4' : IntKind.wrap .i64 (p.2 * 16) = p.2 * 16 := wrap_in (by unfold inI; omega)
  have w5' : IntKind.wrap .i64 (p.1 * 16 + i % 16) = p.1 * 16 + i % 16 := wrap_in (by unfold inI; omega)
  have w6' : IntKind.wrap .i64 (p.2 * 16 + i / 16 % 16) = p.2 * 16 + i / 16 % 16 := wrap_in (by unfold inI; omega)
  rw [t1, t2, t3, w1', w2', w3', w4', t4, w5', w6']
  refine Br.mk (fun h => ?_) (fun _ => Br.mk (fun h => ?_) (fun _ w4 e4 => ⟨rfl, x1.of_setRow e4 (by omega)⟩)) <;> simp only [decide_eq_true_eq] at h <;> omega
theorem rFrom_spec (p : Po) (hp : okP p) (i : Int) (hi : 0 ≤ i ∧ i < 8192) (w : World) : Calls Tryd.prog n_ref03_From #[pv p, .int .i64 i] w fun e w' => e = .returned (.tuple #[cev (cellAt p i), .bool true]) ∧ Ext w w' := by
  apply ref03_From.vc
  obtain ⟨⟨p1, p2⟩, p3, p4⟩ := hp
  intro w0 e0 w1 e1
  have z0 : w0.heap.size = w.heap.size + 1 := by rw [e0]; simp
  have x1 : Ext w w1 := ((Ext.rfl' w).of_alloc e0).of_alloc e1
  have t1 : Int.tmod i 16 = i % 16 := Int.tmod_eq_emod_of_nonneg hi.1
  have t2 : Int.tdiv i 256 = i / 256 := Int.tdiv_eq_ediv_of_nonneg hi.1
  have t3 : Int.tmod i 256 = i % 256 := Int.tmod_eq_emod_of_nonneg hi.1
  have t4 : Int.tdiv (i % 256) 16 = i / 16 % 16 := by rw [Int.tdiv_eq_ediv_of_nonneg (by omega)]; omega
  have w1' : IntKind.wrap .i64 (i / 16 % 16) = i / 16 % 16 := wrap_in (by unfold inI; omega)
  have w2' : IntKind.wrap .i64 (i / 256) = i / 256 := wrap_in (by unfold inI; omega)
  have w3' : IntKind.wrap .i64 (p.1 * 16) = p.1 * 16 := wrap_in (by unfold inI; omega)
  have w4' : IntKind.wrap .i64 (p.2 * 16) = p.2 * 16 := wrap_in (by unfold inI; omega)
  have w5' : IntKind.wrap .i64 (p.1 * 16 + i % 16) = p.1 * 16 + i % 16 := wrap_in (by unfold inI; omega)
  have w6' : IntKind.wrap .i64 (p.2 * 16 + i / 16 % 16) = p.2 * 16 + i / 16 % 16 := wrap_in (by unfold inI; omega)
  rw [t1, t2, t3, t4, w1', w2', w3', w4', w5', w6']
  refine Br.mk (fun h => ?_) (fun _ => Br.mk (fun h => ?_) (fun _ w4 e4 => ⟨rfl, x1.of_setRow e4 (by omega)⟩)) <;> simp only [decide_eq_true_eq] at h <;> omega
end Go.Proofs.YtfipllblcnahdaaDoor
