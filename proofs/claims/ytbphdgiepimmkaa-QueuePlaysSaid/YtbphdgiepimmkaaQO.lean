import Derived.Test.YtbphdgiepimmkaaQN
import Derived.Test.YtbphdgiepimmkaaC
set_option linter.all false
namespace Go.Proofs.Ytbphdgiepimmkaa
open Go Go.Vc Go.RowKit Go.Proofs Go.Que

theorem Foot.none {g m : Nat} {w : World} (hg : w.heap.size ≤ g) (hm : w.heap.size ≤ m) : ∀ i, Foot g m ⟨none, 0, 0⟩ i → w.heap.size ≤ i := by
  rintro i (h | h | h)
  · omega
  · omega
  · cases h
theorem QOk.empty {r : Int} (h : 1 ≤ r ∧ r ≤ 4096) : QOk ⟨r, 0, []⟩ := ⟨h, by show ((0 : Nat) : Int) ≤ r; omega, List.Pairwise.nil, List.nodup_nil⟩
theorem row_rdK {w : World} {g : Nat} {cs : List Value} {E : TypeId} {rows : List (List Value)} {k c : Nat} (hr : Row w g cs E) (hw : ∀ r ∈ rows, r.length = k) (hf : rows.flatten = cs) : RdK w ⟨some ⟨g, 0, none⟩, rows.length, c⟩ k rows := by
  refine ⟨rfl, hw, fun i r hi j v hj => ?_⟩
  rw [padd_row, hr.ld, Nat.zero_add, ← hf, flatten_get hw hi]
  · exact hj
  · have := hw r (List.mem_of_getElem? hi)
    rw [← this]; exact (List.getElem?_eq_some_iff.1 hj).1
theorem lives_spec (w : World) : Calls Try.prog n_law17_lives #[] w fun e w' => e = .returned (.bool true) ∧ Ext w w' := by
  apply law17_lives.vc
  refine (New_spec 9 w).mono ?_
  rintro e w0 ⟨g, m, rfl, h0, x0, hg, hm⟩
  have k0 : QOk ⟨min (max 9 1) 4096, 0, []⟩ := QOk.empty (by omega)
  refine ⟨_, rfl, Br.mk (fun h => by cases h) (fun _ => ?_)⟩
  refine (Add_spec h0 k0 ⟨by decide, by decide⟩ (1, 0, 0) 5).mono ?_
  rintro e w2 ⟨rfl, s2, h2, t2⟩
  obtain ⟨x2, f2⟩ := t2.fresh x0 (Foot.none hg hm)
  have k2 := k0.add (1, 0, 0) 5
  refine ⟨_, rfl, (Add_spec h2 k2 ⟨by decide, by decide⟩ (1, 0, 0) 3).mono ?_⟩
  rintro e w4 ⟨rfl, s4, h4, t4⟩
  obtain ⟨x4, f4⟩ := t4.fresh x2 f2
  have k4 := k2.add (1, 0, 0) 3
  refine ⟨_, rfl, (Due_spec h4 k4 3 9).mono ?_⟩
  rintro e w6 ⟨so, rfl, s6, ho6, h6, t6⟩
  obtain ⟨x6, f6⟩ := t6.fresh x4 f4
  refine ⟨so, rfl, ?_⟩
  intro w8 e8
  have x8 : Ext w6 w8 := (Ext.rfl' _).of_alloc e8
  have hr8 : Row w8 w6.heap.size (clv (1, 0, 0)) tCell := by rw [e8]; exact Row.new _ _ _
  have hrd : RdK w8 ⟨some ⟨w6.heap.size, 0, none⟩, 1, 1⟩ 3 ([((1, 0, 0) : Cl)].map clv) := row_rdK (rows := [clv (1, 0, 0)]) hr8 (by simp) (by simp)
  refine (rSame_spec (b := ⟨some ⟨w6.heap.size, 0, none⟩, 1, 1⟩) ((ho6.ext x8).rd (by decide)) hrd (by decide)).mono ?_
  rintro e w9 ⟨rfl, x9⟩
  refine ⟨_, rfl, Br.mk (fun _ => ?_) (fun h => absurd h (by decide))⟩
  refine (Len_spec ((h6.ext x8).ext x9)).mono ?_
  rintro e w11 ⟨rfl, x11⟩
  exact ⟨_, rfl, rfl, ((x6.tr x8).tr x9).tr x11⟩
end Go.Proofs.Ytbphdgiepimmkaa
