import Derived.Test.YtfipllblcnahdaaDoorU
set_option linter.all false
namespace Go.Proofs.YtfipllblcnahdaaDoor
open Go Go.Vc Go.RowKit Go.Proofs Go.Runs

theorem ref05_Cells_spec (s : Sl) (l : List Rn) (w : World) (hs : RdR w s l) (hn : Bd l.length) (hl : ∀ r ∈ l, 0 ≤ r.1) (hsum : sumR l ≤ 1099511627776) :
    Calls Tryd.prog n_ref05_Cells #[.slice s.a s.n s.c] w fun e w' => ∃ s' : Sl, e = .returned (.slice s'.a s'.n s'.c) ∧ OwC w.heap.size w' s' (cellsR l) ∧ Ext w w' := by
  have hsn := RdR.len hs
  unfold Bd at hn
  apply ref05_Cells.vc
  refine ⟨fun n x o wr => ∃ k : Nat, x = k ∧ k + n = l.length ∧ Ext w wr ∧ OwC w.heap.size wr o (cellsR (l.take k)), ⟨l.length, 0, rfl, by omega, Ext.rfl' w, OwnK.nil⟩, ?_⟩
  rintro n us x o wr ⟨k, rfl, hk, xr, ho⟩
  have hw := wrap_in (n := (k : Int) + 1) (by unfold inI; omega)
  refine Br.mk (fun h => ?_) (fun h => ?_) <;> simp at h
  · obtain ⟨r, hr⟩ := get_lt (l := l) (i := k) (by omega)
    have hr0 := hl r (List.mem_of_getElem? hr)
    have b2 := sumR_take_le hl (k + 1)
    have b3 : sumR (l.take (k + 1)) = _ := sumR_cells fun q hq => hl q (List.mem_of_mem_take hq)
    rw [cells_take_succ hr, List.length_append, List.length_replicate] at b3
    refine ⟨fun n x o wr => ∃ j : Nat, x = j ∧ j + n = r.1.toNat ∧ Ext w wr ∧ OwC w.heap.size wr o (cellsR (l.take k) ++ List.replicate j r.2), ⟨r.1.toNat, 0, rfl, by omega, xr, by simpa using ho⟩, ?_⟩
    rintro n2 us2 x2 o2 w2 ⟨j, rfl, hj, x2, ho2⟩
    have hw2 := wrap_in (n := (j : Int) + 1) (by unfold inI; omega)
    have hin := RdR.inB hs (i := k) (by omega)
    have hsm := RdR.some hs (i := k) (by omega)
    have hon := RdC.len ho2.rdc
    rw [List.length_append, List.length_replicate] at hon
    refine ⟨hin, AndL_nn.2 ⟨hsm, _, RdR.c0 (hs.ext x2) hr, Br.mk (fun h2 => ?_) (fun h2 => ?_)⟩⟩ <;> simp only [decide_eq_true_eq, decide_eq_false_iff_not] at h2
    · refine ⟨hin, AndL_nn.2 ⟨hsm, _, RdR.c1 (hs.ext x2) hr, ?_⟩⟩
      rintro w16 rfl
      obtain ⟨hp, hres⟩ := OwnK.app1 ho2 (bytes := 8) (news := iv r.2) (.cells #[.int .i64 r.2] tInt) x2.size rfl (one_i _ _) (by omega) (by omega)
      refine ⟨hp, fun s17 w18 hr' => ?_⟩
      obtain ⟨k1, ho', _, xb, _, _⟩ := hres s17 w18 hr'
      refine ⟨k1, n2 - 1, by omega, j + 1, by omega, by omega, x2.trans xb, ?_⟩
      show OwnK _ _ 1 _ _ ((cellsR (l.take k) ++ List.replicate (j + 1) r.2).map iv)
      rw [List.replicate_succ', ← List.append_assoc, List.map_append]; exact ho'
    · have : j = r.1.toNat := by omega
      subst this
      exact ⟨n - 1, by omega, k + 1, by omega, by omega, x2, by rw [cells_take_succ hr]; exact ho2⟩
  · obtain rfl : k = l.length := by omega
    rw [List.take_length] at ho
    exact ⟨o, rfl, ho, xr⟩
theorem ofC_take_succ {c : List Int} {k : Nat} {b : Int} (hb : c[k]? = some b) : ofC (c.take (k + 1)) = pushR (ofC (c.take k)) (1, b) := by
  rw [List.take_add_one, hb, push_ofC]; rfl
theorem ofC_last {c : List Int} {b : Int} : ∃ m q, ofC (c ++ [b]) = m ++ [q] ∧ q.2 = b := by
  have e : ofC (c ++ [b]) = pushR (ofC c) (1, b) := by rw [push_ofC]; rfl
  rw [e]
  rcases snoc_cases (ofC c) with h | ⟨m, q, h⟩
  · rw [h, push_new (l := []) (r := (1, b)) (by show (1 : Int) ≤ 1; omega) (by simp)]
    exact ⟨[], (1, b), rfl, rfl⟩
  · rw [h]
    by_cases e : q.2 = b
    · rw [push_same (r := (1, b)) (by show (1 : Int) ≤ 1; omega) e]
      exact ⟨m, _, rfl, e⟩
    · rw [push_new (r := (1, b)) (by show (1 : Int) ≤ 1; omega) (by intro p hp; simp at hp; subst hp; exact e)]
      exact ⟨m ++ [q], (1, b), rfl, rfl⟩
theorem ref05_Of_spec (s : Sl) (c : List Int) (w : World) (hs : RdC w s c) (hn : Bd c.length) :
    Calls Tryd.prog n_ref05_Of #[.slice s.a s.n s.c] w fun e w' => ∃ s' : Sl, e = .returned (.slice s'.a s'.n s'.c) ∧ OwR w.heap.size w' s' (ofC c) ∧ Ext w w' := by
  have hsn := RdC.len hs
  unfold Bd at hn
  apply ref05_Of.vc
  refine ⟨fun n x o wr => ∃ k : Nat, x = k ∧ k + n = c.length ∧ Ext w wr ∧ OwR w.heap.size wr o (ofC (c.take k)), ⟨c.length, 0, rfl, by omega, Ext.rfl' w, OwnK.nil⟩, ?_⟩
  rintro n us x o wr ⟨k, rfl, hk, xr, ho⟩
  have hw := wrap_in (n := (k : Int) + 1) (by unfold inI; omega)
  have xd := xr.drew
  have hod := OwnK.ext ho (Ext.dr wr)
  have hon := RdR.len ho.rdr
  have hol := ofC_len (c.take k)
  rw [List.length_take] at hol
  refine Br.mk (fun h => ?_) (fun h => ?_) <;> simp at h
  · obtain ⟨b, hb⟩ := get_lt (l := c) (i := k) (by omega)
    have hin := RdC.inB hs (i := k) (by omega)
    have hcb := RdC.c0 (hs.ext xd) hb
    have grow : (∀ q, (ofC (c.take k)).getLast? = some q → q.2 ≠ b) → ∀ w12 : World, w12 = wr.drew.alloc (.cells #[.int .i64 1, .int .i64 b] tRun) →
        AppPre 16 2 w12 ⟨o.a, o.n, o.c⟩ 1 [.int .i64 1, .int .i64 b] ∧ ∀ (s13 : Sl) (w14 : World), AppRes tRun 2 w12 ⟨o.a, o.n, o.c⟩ 1 [.int .i64 1, .int .i64 b] s13 w14 → w14.heap[wr.drew.heap.size]? = w12.heap[wr.drew.heap.size]? ∧
        ∃ n6, n6 < n ∧ ∃ k_1 : Nat, IntKind.wrap .i64 ((k : Int) + 1) = k_1 ∧ k_1 + n6 = c.length ∧ Ext w w14 ∧ OwR w.heap.size w14 ⟨s13.a, s13.n, s13.c⟩ (ofC (c.take k_1)) := by
      rintro hne w12 rfl
      obtain ⟨hp, hres⟩ := OwnK.app1 hod (bytes := 16) (news := rv (1, b)) (.cells #[.int .i64 1, .int .i64 b] tRun) xd.size rfl (one_ii _ _ _ _) (by omega) (by omega)
      refine ⟨hp, fun s17 w18 hr' => ?_⟩
      obtain ⟨k1, ho', _, xb, _, _⟩ := hres s17 w18 hr'
      refine ⟨k1, n - 1, by omega, k + 1, by omega, by omega, xd.trans xb, ?_⟩
      rw [ofC_take_succ hb, push_new (r := (1, b)) (by show (1 : Int) ≤ 1; omega) hne]
      show OwnK _ _ 2 _ _ ((ofC (c.take k) ++ [(1, b)]).map rv)
      rw [List.map_append]; exact ho'
    refine Br.mk (fun h1 => ?_) (fun h1 => ?_) <;> simp at h1
    · obtain ⟨a, ha⟩ := get_lt (l := c) (i := k - 1) (by omega)
      have hwk := wrap_in (n := (k : Int) - 1) (by unfold inI; omega)
      rw [hwk]
      have hin2 := RdC.inB hs (i := k - 1) (by omega)
      rw [show ((k - 1 : Nat) : Int) = (k : Int) - 1 from by omega] at hin2
      have hca := RdC.c0 (hs.ext xd) ha
      have hcat : c.take k = c.take (k - 1) ++ [a] := by
        have : k = k - 1 + 1 := by omega
        rw [this, List.take_add_one, Nat.add_sub_cancel, ha]; rfl
      obtain ⟨m, q, hmq, hqa⟩ := ofC_last (c := c.take (k - 1)) (b := a)
      rw [← hcat] at hmq
      refine ⟨hin2, a, by rw [show ((k : Int) - 1).toNat = k - 1 from by omega]; exact hca, hin, b, hcb, Br.mk (fun h2 => ?_) (fun h2 => ?_)⟩
      · simp at h2
        have hob : o.n = m.length + 1 := by rw [hon, hmq]; simp
        have hwo := wrap_in (n := ((o.n : Nat) : Int) - 1) (by unfold inI; omega)
        rw [hwo]
        have hnat : (((o.n : Nat) : Int) - 1).toNat = m.length := by omega
        have hgq : (ofC (c.take k))[m.length]? = some q := by rw [hmq]; simp
        have hin3 := RdR.inB ho.rdr (i := m.length) (by rw [hmq]; simp)
        rw [show ((m.length : Nat) : Int) = ((o.n : Nat) : Int) - 1 from by omega] at hin3
        have hsm := RdR.some ho.rdr (i := m.length) (by rw [hmq]; simp)
        rw [hnat]
        have hqm := mem_ofC (List.mem_of_getElem? hgq)
        rw [List.length_take] at hqm
        have hwq := wrap_in (n := q.1 + 1) (by unfold inI; omega)
        obtain ⟨q1, q2, q3, q4, q5⟩ := OwnK.set hod (i := m.length) (j := 0) (r := rv q) (v := .int .i64 (q.1 + 1)) (by rw [List.getElem?_map, hgq]; rfl) (by omega) rfl xd.size
        refine ⟨hin3, AndL_nn.2 ⟨hsm, _, RdR.c0 (OwR.rdr hod) hgq, hin3, AndL_nn.2 ⟨hsm, ⟨q1, q2⟩, ?_⟩⟩⟩
        rintro w10 rfl
        rw [hwq]
        refine ⟨n - 1, by omega, k + 1, by omega, by omega, xd.trans q4, ?_⟩
        rw [ofC_take_succ hb, hmq, push_same (r := (1, b)) (by show (1 : Int) ≤ 1; omega) (hqa.trans h2)]
        show OwnK _ _ 2 _ _ ((m ++ [(q.1 + 1, q.2)]).map rv)
        have e : ((m ++ [q]).map rv).set m.length ((rv q).set 0 (.int .i64 (q.1 + 1))) = (m ++ [(q.1 + 1, q.2)]).map rv := by
          rw [List.map_append, List.map_append, List.set_append_right _ _ (by simp)]
          simp
        rw [← e, ← hmq]; exact q3
      · refine ⟨hin, b, hcb, grow ?_⟩
        intro p hp
        rw [hmq] at hp
        simp at hp; subst hp
        rw [hqa]; simpa using h2
    · refine ⟨hin, b, hcb, grow ?_⟩
      have : k = 0 := by omega
      subst this
      intro p hp; simp [ofC] at hp
  · obtain rfl : k = c.length := by omega
    rw [List.take_length] at ho
    exact ⟨o, rfl, ho, xr⟩
theorem ref05_Set_spec (s : Sl) (c : List Int) (i x : Int) (w : World) (hs : RdR w s (ofC c)) (hn : Bd c.length) :
    Calls Tryd.prog n_ref05_Set #[.slice s.a s.n s.c, .int .i64 i, .int .i64 x] w fun e w' => ∃ s' : Sl, e = .returned (.slice s'.a s'.n s'.c) ∧ OwR w.heap.size w' s' (ofC (setC c i x)) ∧ Ext w w' := by
  have hl : Bd (ofC c).length := Nat.le_trans (ofC_len c) hn
  apply ref05_Set.vc
  refine (ref05_Cells_spec s _ w hs hl (fun r hr => by have := mem_ofC hr; omega) (by rw [sumR_ofC]; unfold Bd at hn; omega)).mono ?_
  rintro e w1 ⟨s1, rfl, o1, x1⟩
  rw [cells_ofC] at o1
  have hn1 := RdC.len o1.rdc
  refine ⟨s1, rfl, (ref04_May_spec x w1).mono ?_⟩
  rintro e w2 ⟨rfl, rfl⟩
  have same : setC c i x = c → Calls Tryd.prog n_ref05_Of #[.slice s1.a s1.n s1.c] w2 (fun e w7 => ∃ (s8 : Sl), e = .returned (.slice s8.a s8.n s8.c) ∧ ∃ s' : Sl, Ending.returned (.slice s8.a s8.n s8.c) = .returned (.slice s'.a s'.n s'.c) ∧ OwR w.heap.size w7 s' (ofC (setC c i x)) ∧ Ext w w7) := by
    intro e
    refine (ref05_Of_spec s1 c w2 o1.rdc hn).mono ?_
    rintro _ w3 ⟨s', rfl, ho, x3⟩
    exact ⟨s', rfl, s', rfl, by rw [e]; exact OwnK.low ho x1.size, x1.tr x3⟩
  refine ⟨_, rfl, Br.mk (fun h1 => Br.mk (fun h2 => Br.mk (fun h3 => ?_) (fun h3 => ?_)) (fun h2 => ?_)) (fun h1 => ?_)⟩ <;> simp only [decide_eq_true_eq, decide_eq_false_iff_not] at *
  · obtain ⟨b, hb⟩ := get_lt (l := c) (i := i.toNat) (by omega)
    have hin := RdC.inB o1.rdc (i := i.toNat) (by omega)
    rw [show ((i.toNat : Nat) : Int) = i from by omega] at hin
    obtain ⟨q1, q2, q3, q4, q5⟩ := OwnK.set o1 (i := i.toNat) (j := 0) (r := iv b) (v := .int .i64 x) (by rw [List.getElem?_map, hb]; rfl) (by omega) rfl x1.size
    have e0 : padd (padd s1.a (i.toNat * 1)) 0 = padd s1.a (i.toNat * 1) := by rw [padd_padd]; rfl
    rw [e0] at q1 q2 q3 q4 q5
    refine ⟨hin, ⟨q1, q2⟩, ?_⟩
    rintro w4 rfl
    have e1 : (c.map iv).set i.toNat ((iv b).set 0 (.int .i64 x)) = (c.set i.toNat x).map iv := by rw [List.map_set]; rfl
    rw [e1] at q3
    have q3' : OwC w.heap.size _ s1 (c.set i.toNat x) := q3
    refine (ref05_Of_spec s1 _ _ q3'.rdc (by simpa using hn)).mono ?_
    rintro _ w5 ⟨s', rfl, ho, x5⟩
    have hx : Ext w (setP w2 (padd s1.a (i.toNat * 1)) [.int .i64 x]) := x1.trans q4
    refine ⟨s', rfl, s', rfl, ?_, hx.tr x5⟩
    unfold setC
    rw [if_pos ⟨h1, h2, by omega⟩]
    exact OwnK.low ho hx.size
  · exact same (by unfold setC; rw [if_neg (by omega)])
  · exact same (by unfold setC; rw [if_neg (by omega)])
  · exact same (by unfold setC; rw [if_neg (by rw [h1]; simp)])
end Go.Proofs.YtfipllblcnahdaaDoor
