import Derived.Test.YtfipllblcnahdaaDoorR
set_option linter.all false
namespace Go.Proofs.YtfipllblcnahdaaDoor
open Go Go.Vc Go.RowKit Go.Proofs Go.Runs

/-- What was there stays, but for the block of s. -/
abbrev Keep (s : Sl) (w w' : World) : Prop := ∀ j, s.blk ≠ some j → j < w.heap.size → w'.heap[j]? = w.heap[j]?
theorem runs_push_spec (B : Nat) (s : Sl) (l : List Rn) (r : Rn) (w : World) (hB : B ≤ w.heap.size) (ho : OwR B w s l) (hn : Bd l.length) (hl : ∀ q ∈ l, 0 ≤ q.1 ∧ q.1 ≤ 1099511627776) (hr : r.1 ≤ 1099511627776) :
    Calls Tryd.prog n_runs_push #[.slice s.a s.n s.c, .agg #[.int .i64 r.1, .int .i64 r.2]] w fun e w' => ∃ s' : Sl, e = .returned (.slice s'.a s'.n s'.c) ∧ OwR B w' s' (pushR l r) ∧ Below B w w' ∧ Keep s w w' := by
  have hsn := RdR.len ho.rdr
  apply runs_push.vc
  rintro w0 rfl
  have xa := Ext.al w (.cells #[.int .i64 r.1, .int .i64 r.2] tRun)
  have xd := xa.drew
  have hz : (w.alloc (.cells #[.int .i64 r.1, .int .i64 r.2] tRun)).drew.heap.size = w.heap.size + 1 := by simp [World.drew]
  have hw := wrap_in (n := ((s.n : Nat) : Int) - 1) (by unfold inI; omega)
  have grow : ∀ (_ : 1 ≤ r.1) (_ : ∀ q, l.getLast? = some q → q.2 ≠ r.2), (∀ w4 : World, w4 = (w.alloc (.cells #[.int .i64 r.1, .int .i64 r.2] tRun)).drew.alloc (.cells #[.int .i64 r.1, .int .i64 r.2] tRun) →
      AppPre 16 2 w4 ⟨s.a, s.n, s.c⟩ 1 [.int .i64 r.1, .int .i64 r.2] ∧ ∀ (s5 : Sl) (w6 : World), AppRes tRun 2 w4 ⟨s.a, s.n, s.c⟩ 1 [.int .i64 r.1, .int .i64 r.2] s5 w6 → w6.heap[w.heap.size]? = w4.heap[w.heap.size]? ∧ w6.heap[(w.alloc (.cells #[.int .i64 r.1, .int .i64 r.2] tRun)).drew.heap.size]? = w4.heap[(w.alloc (.cells #[.int .i64 r.1, .int .i64 r.2] tRun)).drew.heap.size]? ∧
      ∃ s' : Sl, Ending.returned (.slice s5.a s5.n s5.c) = .returned (.slice s'.a s'.n s'.c) ∧ OwR B w6 s' (pushR l r) ∧ Below B w w6 ∧ Keep s w w6) := by
    rintro h1 h2 w4 rfl
    obtain ⟨hp, hres⟩ := (OwnK.ext ho xd).app1 (bytes := 16) (news := rv r) (.cells #[.int .i64 r.1, .int .i64 r.2] tRun) (Nat.le_trans hB xd.size) rfl (one_ii _ _ _ _) (by omega) (by omega)
    refine ⟨hp, fun s5 w6 hr' => ?_⟩
    obtain ⟨k1, ho', hn', xb, hk, hb⟩ := hres s5 w6 hr'
    refine ⟨?_, k1, s5, rfl, ?_, (Below.mono xd hB).trans xb, fun j hj hlt => ?_⟩
    · rw [hk _ (fun hb => absurd (ho.own.lt hb).2 (Nat.lt_irrefl _)) (by omega)]
      symm
      exact (Ext.al _ _).heap (by omega)
    · rw [push_new h1 h2]
      show OwnK B tRun 2 w6 s5 ((l ++ [r]).map rv)
      rw [List.map_append]; exact ho'
    · rw [hk j hj (by omega)]
      exact xd.heap hlt
  refine Br.mk (fun h => ?_) (fun h => ?_) <;> simp at h
  · exact ⟨s, rfl, by rw [push_none h]; exact OwnK.ext ho xa, Below.mono xa hB, fun j _ hj => xa.heap hj⟩
  rw [hw]
  refine Br.mk (fun h' => ?_) (fun h' => ?_) <;> simp at h'
  · rcases snoc_cases l with rfl | ⟨m, q, rfl⟩
    · simp at hsn; omega
    rw [List.length_append] at hsn; simp at hsn
    have hnat : (((s.n : Nat) : Int) - 1).toNat = m.length := by omega
    have hq : (m ++ [q])[m.length]? = some q := by simp
    have hin : InB s.a (((s.n : Nat) : Int) - 1) s.n := by
      have := RdR.inB ho.rdr (i := m.length) (by simp)
      rwa [show ((m.length : Nat) : Int) = ((s.n : Nat) : Int) - 1 from by omega] at this
    have hsome := RdR.some ho.rdr (i := m.length) (by simp)
    rw [hnat]
    have r1 := RdK.ext ho.rdr xd
    have r2 := RdK.ext ho.rdr xd.drew
    refine ⟨hin, AndL_nn.2 ⟨hsome, _, RdR.c1 r1 hq, Br.mk (fun h2 => ?_) (fun h2 => ?_)⟩⟩
    · simp at h2
      obtain ⟨q1, q2, q3, q4, q5⟩ := (OwnK.ext ho xd.drew).set (i := m.length) (j := 0) (r := rv q) (v := .int .i64 (IntKind.wrap .i64 (q.1 + r.1))) (by rw [List.getElem?_map, hq]; rfl) (by omega) rfl (Nat.le_trans hB xd.drew.size)
      refine ⟨hin, AndL_nn.2 ⟨hsome, _, RdR.c0 r2 hq, hin, AndL_nn.2 ⟨hsome, ⟨q1, q2⟩, ?_, ?_⟩⟩⟩
      · intro hb
        have : s.blk = some w.heap.size := by
          rw [pblk_padd, pblk_padd] at hb
          exact hb
        exact absurd (ho.own.lt this).2 (Nat.lt_irrefl _)
      · rintro w3 rfl
        have hwq := wrap_in (n := q.1 + r.1) (by have := hl q (by simp); unfold inI; omega)
        rw [hwq] at q3 q4 q5 ⊢
        refine ⟨s, rfl, ?_, (Below.mono xd.drew hB).trans q4, fun j hj hlt => ?_⟩
        · rw [push_same h h2]
          show OwnK B tRun 2 _ s ((m ++ [(q.1 + r.1, q.2)]).map rv)
          have e : ((m ++ [q]).map rv).set m.length ((rv q).set 0 (.int .i64 (q.1 + r.1))) = (m ++ [(q.1 + r.1, q.2)]).map rv := by
            rw [List.map_append, List.map_append, List.set_append_right _ _ (by simp)]
            simp
          rw [← e]; exact q3
        · rw [q5 j hj]; exact xd.drew.heap hlt
    · exact grow h (by intro p hp; simp at hp; subst hp; simpa using h2)
  · have : l = [] := by
      apply List.eq_nil_of_length_eq_zero; omega
    subst this
    exact grow h (by simp)
/-- On the runs of cells: the runs of these, and the run's. -/
theorem push_canon (B : Nat) (s : Sl) (c : List Int) (r : Rn) (w : World) (hB : B ≤ w.heap.size) (ho : OwR B w s (ofC c)) (hn : Bd c.length) (hr : r.1 ≤ 1099511627776) :
    Calls Tryd.prog n_runs_push #[.slice s.a s.n s.c, .agg #[.int .i64 r.1, .int .i64 r.2]] w fun e w' => ∃ s' : Sl, e = .returned (.slice s'.a s'.n s'.c) ∧ OwR B w' s' (ofC (c ++ List.replicate r.1.toNat r.2)) ∧ Below B w w' ∧ Keep s w w' := by
  rw [← push_ofC]
  refine runs_push_spec B s _ r w hB ho (by have := ofC_len c; unfold Bd at *; omega) (fun q hq => ?_) hr
  have := mem_ofC hq
  unfold Bd at hn
  omega
theorem runs_Make_spec (n b : Int) (w : World) (hn : n ≤ 1099511627776) :
    Calls Tryd.prog n_runs_Make #[.int .i64 n, .int .i64 b] w fun e w' => ∃ s' : Sl, e = .returned (.slice s'.a s'.n s'.c) ∧ OwR w.heap.size w' s' (ofC (List.replicate n.toNat b)) ∧ Ext w w' := by
  apply runs_Make.vc
  refine (push_canon w.heap.size ⟨none, 0, 0⟩ [] (n, b) w (Nat.le_refl _) OwnK.nil (by simp) hn).mono ?_
  rintro e w' ⟨s', rfl, ho, x, _⟩
  exact ⟨s', rfl, s', rfl, by simpa using ho, x⟩
theorem runs_Of_spec (s : Sl) (c : List Int) (w : World) (hs : RdC w s c) (hn : Bd c.length) :
    Calls Tryd.prog n_runs_Of #[.slice s.a s.n s.c] w fun e w' => ∃ s' : Sl, e = .returned (.slice s'.a s'.n s'.c) ∧ OwR w.heap.size w' s' (ofC c) ∧ Ext w w' := by
  have hsn := RdC.len hs
  apply runs_Of.vc
  refine ⟨fun n x o wr => ∃ k : Nat, x = k ∧ k + n = c.length ∧ Ext w wr ∧ OwR w.heap.size wr o (ofC (c.take k)), ⟨c.length, 0, rfl, by omega, Ext.rfl' w, OwnK.nil⟩, ?_⟩
  rintro n us x o wr ⟨k, rfl, hk, xr, ho⟩
  unfold Bd at hn
  have hw := wrap_in (n := (k : Int) + 1) (by unfold inI; omega)
  refine Br.mk (fun h => ?_) (fun h => ?_) <;> simp at h
  · obtain ⟨b, hb⟩ := get_lt (l := c) (i := k) (by omega)
    refine ⟨RdC.inB hs (by omega), _, RdC.c0 (hs.ext xr) hb, ?_⟩
    refine (push_canon w.heap.size o _ (1, b) wr xr.size ho (by rw [List.length_take]; unfold Bd; omega) (by show (1 : Int) ≤ _; omega)).mono ?_
    rintro e w' ⟨s', rfl, ho', x', _⟩
    refine ⟨s', rfl, n - 1, by omega, k + 1, by omega, by omega, xr.trans x', ?_⟩
    rw [List.take_add_one, hb]
    exact ho'
  · obtain rfl : k = c.length := by omega
    rw [List.take_length] at ho
    exact ⟨o, rfl, ho, xr⟩
end Go.Proofs.YtfipllblcnahdaaDoor
