import Derived.Test.YtfipllblcnahdaaDoorKO
set_option linter.all false
namespace Go.Proofs.YtfipllblcnahdaaDoor
open Go Go.Vc Go.RowKit Go.Proofs Go.Chk Go.Runs

def rkAt (p : Po) (C : List Int) (c : Ce) : Int := if inK p c then atC C (idx c) else -1
theorem rAt_spec {w : World} {s : Sl} {p : Po} {C : List Int} (hs : RdR w s (ofC C)) (hl : C.length = 8192) (c : Ce) (hc : okC c) :
    Calls Tryd.prog n_ref11_At #[kv p s, cev c] w fun e w' => e = .returned (.int .i64 (rkAt p C c)) ∧ Ext w w' := by
  apply ref11_At.vc
  obtain ⟨q1, q2, q3⟩ := cells_pos hl
  have hn := RdR.len hs
  intro w0 e0 w1 e1
  have z0 : w0.heap.size = w.heap.size + 1 := by rw [e0]; simp
  have z1 : w1.heap.size = w.heap.size + 2 := by rw [e1]; simp [z0]
  have x1 : Ext w w1 := ((Ext.rfl' w).of_alloc e0).of_alloc e1
  refine (rIndex_spec p s c hc w1).mono ?_
  rintro e w2 ⟨rfl, x2⟩
  have x02 := x1.tr x2
  refine ⟨_, rfl, x2.heap (by omega), x2.heap (by omega), ?_⟩
  unfold rkAt
  cases hk : inK p c with
  | false => exact Br.mk (fun _ => ⟨rfl, x02⟩) (fun h => by simp at h)
  | true =>
    have hidx := idx_in ((inK_iff p c).1 hk).1
    have hs2 : RdR w2 s (ofC C) := RdK.ext hs x02
    simp only [if_true]
    generalize hii : idx c = ii at hidx
    refine Br.mk (fun h => by simp at h; omega) (fun _ => ?_)
    unfold Bd at q3
    have hsum : sumR (ofC C) = 8192 := by rw [sumR_ofC, hl]; rfl
    refine ⟨fun n r t wr => w2 = wr ∧ ∃ k : Nat, r = k ∧ k + n = (ofC C).length ∧ t = sumR ((ofC C).take k) ∧ t ≤ ii, ⟨(ofC C).length, trivial, trivial, rfl, 0, rfl, by omega, rfl, hidx.1⟩, ?_⟩
    rintro n us r t wr ⟨rfl, k, rfl, hkn, rfl, hle⟩
    refine Br.mk (fun hc2 => ?_) (fun hc2 => ?_)
    · simp only [decide_eq_true_eq] at hc2
      obtain ⟨rr, hr⟩ := get_lt (l := ofC C) (i := k) (by omega)
      have hw1 := sumR_take_succ hr
      have hle1 := sumR_take_le q1 (k + 1)
      have hle0 := sumR_take_le q1 k
      have hso := RdR.some hs2 (i := k) (by omega)
      have hin := RdR.inB hs2 (i := k) (by omega)
      have hrr := q1 rr (List.mem_of_getElem? hr)
      refine ⟨hin, AndL_iff.2 ⟨nnC_iff.2 hso, rr.1, RdR.c0 hs2 (i := k) hr, ?_⟩⟩
      have e1 := wrap_in (n := sumR ((ofC C).take k) + rr.1) (by unfold inI; omega)
      have e2 := wrap_in (n := (k : Int) + 1) (by unfold inI; omega)
      rw [e1, e2]
      refine Br.mk (fun hb => ?_) (fun hb => ?_)
      · simp only [decide_eq_true_eq] at hb
        refine ⟨hin, AndL_iff.2 ⟨nnC_iff.2 hso, rr.2, RdR.c1 hs2 (i := k) hr, ?_, x02⟩⟩
        have hlen : ((cellsR ((ofC C).take k)).length : Int) = sumR ((ofC C).take k) := (sumR_cells fun q hq => q1 q (List.mem_of_mem_take hq)).symm
        have hcell := cells_at hr (j := (ii - sumR ((ofC C).take k)).toNat) (by omega)
        rw [cells_ofC, show (cellsR ((ofC C).take k)).length + (ii - sumR ((ofC C).take k)).toNat = ii.toNat by omega] at hcell
        have : atC C ii = rr.2 := by
          unfold atC
          rw [if_neg (by omega), List.getD_eq_getElem?_getD, hcell]; rfl
        rw [this]
      · simp only [decide_eq_false_iff_not] at hb
        exact ⟨n - 1, by omega, trivial, trivial, rfl, k + 1, by omega, by omega, hw1.symm, by omega⟩
    · simp only [decide_eq_false_iff_not] at hc2
      have : k = (ofC C).length := by omega
      subst this
      rw [List.take_length, hsum] at hle
      omega
end Go.Proofs.YtfipllblcnahdaaDoor
