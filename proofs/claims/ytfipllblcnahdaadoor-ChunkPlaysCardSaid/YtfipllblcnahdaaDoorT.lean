import Derived.Test.YtfipllblcnahdaaDoorS
set_option linter.all false
namespace Go.Proofs.YtfipllblcnahdaaDoor
open Go Go.Vc Go.RowKit Go.Proofs Go.Runs

theorem sumR_take_succ {l : List Rn} {k : Nat} {r : Rn} (hr : l[k]? = some r) : sumR (l.take (k + 1)) = sumR (l.take k) + r.1 := by
  rw [List.take_add_one, hr]; simp [sumR]
theorem sumR_nn {l : List Rn} (hl : ∀ r ∈ l, 0 ≤ r.1) : 0 ≤ sumR l := by rw [sumR_cells hl]; omega
theorem sumR_take_le {l : List Rn} (hl : ∀ r ∈ l, 0 ≤ r.1) (k : Nat) : 0 ≤ sumR (l.take k) ∧ sumR (l.take k) ≤ sumR l := by
  refine ⟨sumR_nn fun q hq => hl q (List.mem_of_mem_take hq), ?_⟩
  have := sumR_app (l.take k) (l.drop k)
  rw [List.take_append_drop] at this
  have h2 := sumR_nn (l := l.drop k) fun q hq => hl q (List.mem_of_mem_drop hq)
  omega
theorem cells_take_succ {l : List Rn} {k : Nat} {r : Rn} (hr : l[k]? = some r) : cellsR (l.take (k + 1)) = cellsR (l.take k) ++ List.replicate r.1.toNat r.2 := by
  rw [List.take_add_one, hr, cellsR_app]; exact congrArg _ (cellsR_one r)
theorem seg_le (c : List Int) (a b : Int) : (seg c a b).length ≤ c.length := by unfold seg; simp; omega
theorem runs_Cut_spec (s : Sl) (l : List Rn) (a b : Int) (w : World) (hs : RdR w s l) (hn : Bd l.length) (hl : ∀ r ∈ l, 0 ≤ r.1) (hsum : sumR l ≤ 1099511627776) (ha : 0 ≤ a) (hb : 0 ≤ b) :
    Calls Tryd.prog n_runs_Cut #[.slice s.a s.n s.c, .int .i64 a, .int .i64 b] w fun e w' => ∃ s' : Sl, e = .returned (.slice s'.a s'.n s'.c) ∧ OwR w.heap.size w' s' (ofC (seg (cellsR l) a b)) ∧ Ext w w' := by
  have hsn := RdR.len hs
  unfold Bd at hn
  apply runs_Cut.vc
  refine ⟨fun n x y o wr => ∃ k : Nat, x = k ∧ k + n = l.length ∧ Ext w wr ∧ y = sumR (l.take k) ∧ OwR w.heap.size wr o (ofC (seg (cellsR (l.take k)) a b)), ⟨l.length, 0, rfl, by omega, Ext.rfl' w, rfl, ?_⟩, ?_⟩
  · have : seg (cellsR (l.take 0)) a b = [] := by simp [seg, cellsR]
    rw [this]; exact OwnK.nil
  rintro n us x y o wr ⟨k, rfl, hk, xr, rfl, ho⟩
  have hw := wrap_in (n := (k : Int) + 1) (by unfold inI; omega)
  refine Br.mk (fun h => ?_) (fun h => ?_) <;> simp at h
  · obtain ⟨r, hr⟩ := get_lt (l := l) (i := k) (by omega)
    have e := sumR_take_succ hr
    have hr0 := hl r (List.mem_of_getElem? hr)
    have b1 := sumR_take_le hl k
    have b2 := sumR_take_le hl (k + 1)
    have hw2 := wrap_in (n := sumR (l.take k) + r.1) (by unfold inI; omega)
    have hc : ((cellsR (l.take k)).length : Int) = sumR (l.take k) := (sumR_cells fun q hq => hl q (List.mem_of_mem_take hq)).symm
    have hseg : seg (cellsR (l.take (k + 1))) a b = seg (cellsR (l.take k)) a b ++ List.replicate (min b (sumR (l.take k) + r.1) - max a (sumR (l.take k))).toNat r.2 := by
      rw [cells_take_succ hr, seg_snoc _ _ _ _ _ ha hb]
      congr 2
      omega
    refine ⟨RdR.inB hs (by omega), _, _, RdR.ll (hs.ext xr) hr, ?_⟩
    rintro w9 rfl w10 rfl
    rw [hw2]
    have x10 := ((xr.tr (Ext.al _ (.cells #[.int .i64 0, .int .i64 0] tRun))).setRow xr.size #[.int .i64 r.1, .int .i64 r.2])
    have e1 : (if sumR (l.take k) + r.1 < b then sumR (l.take k) + r.1 else b) = min b (sumR (l.take k) + r.1) := by split <;> omega
    have e2 : (if sumR (l.take k) > a then sumR (l.take k) else a) = max a (sumR (l.take k)) := by split <;> omega
    rw [e1, e2]
    have hkeep : ∀ g, o.blk = some g → (((wr.alloc (.cells #[.int .i64 0, .int .i64 0] tRun)).setRow wr.heap.size #[.int .i64 r.1, .int .i64 r.2]).drew).heap[g]? = wr.heap[g]? := by
      intro g hg
      have := (ho.own.lt hg).2
      show ((wr.alloc _).setRow wr.heap.size _).heap[g]? = _
      rw [setRow_other _ _ _ _ (by omega)]
      exact (Ext.al _ _).heap this
    have ho2 := OwnK.keep ho hkeep
    have hlen : (seg (cellsR (l.take k)) a b).length ≤ 1099511627776 := by have := seg_le (cellsR (l.take k)) a b; omega
    refine Br.mk (fun h2 => ?_) (fun h2 => ?_) <;> simp only [decide_eq_true_eq, decide_eq_false_iff_not] at h2
    · have hw3 := wrap_in (n := min b (sumR (l.take k) + r.1) - max a (sumR (l.take k))) (by unfold inI; omega)
      rw [hw3]
      refine (push_canon w.heap.size o _ (min b (sumR (l.take k) + r.1) - max a (sumR (l.take k)), r.2) _ x10.drew.size ho2 hlen (by show min b (sumR (l.take k) + r.1) - max a (sumR (l.take k)) ≤ _; omega)).mono ?_
      rintro e w' ⟨s', rfl, ho', x', hkp⟩
      refine ⟨s', rfl, hkp _ (fun hb => absurd (ho.own.lt hb).2 (Nat.lt_irrefl _)) (by simp [World.drew, World.setRow]), n - 1, by omega, k + 1, by omega, by omega, x10.drew.trans x', by omega, ?_⟩
      rw [hseg]; exact ho'
    · refine ⟨n - 1, by omega, k + 1, by omega, by omega, x10.drew, by omega, ?_⟩
      rw [hseg, show (min b (sumR (l.take k) + r.1) - max a (sumR (l.take k))).toNat = 0 from by omega]
      simpa using ho2
  · obtain rfl : k = l.length := by omega
    rw [List.take_length] at ho
    exact ⟨o, rfl, ho, xr⟩
def cnt (l : List Rn) (b : Int) : Int := sumR (l.filter fun r => r.2 == b)
theorem clone_spec (s : Sl) (l : List Rn) (w : World) (hs : RdR w s l) (hn : Bd l.length) :
    Calls Tryd.prog n_slices_Clone_Run #[.slice s.a s.n s.c] w fun e w' => ∃ s' : Sl, e = .returned (.slice s'.a s'.n s'.c) ∧ OwR w.heap.size w' s' l ∧ Ext w w' := by
  have hsn := RdR.len hs
  unfold Bd at hn
  apply slices_Clone_Run.vc
  refine Br.mk (fun h => ?_) (fun h => ?_)
  · have : l = [] := by
      rcases Nat.eq_zero_or_pos l.length with h0 | h0
      · exact List.eq_nil_of_length_eq_zero h0
      · have := RdK.isSome hs (by omega) (i := 0) (by simpa using h0)
        cases hsa : s.a <;> simp [hsa] at h this
    subst this
    exact ⟨⟨none, 0, 0⟩, rfl, OwnK.nil, Ext.rfl' w⟩
  · rintro w0 rfl
    have xa := Ext.al w (.cells #[] tRun)
    have hz : Go.Vc.Own w.heap.size tRun 2 (w.alloc (.cells #[] tRun)) ⟨some ⟨w.heap.size, 0, none⟩, 0, 0⟩ [] := .row w.heap.size 0 0 [] (Nat.le_refl _) (Row.new w [] tRun) rfl (Nat.le_refl _)
    have hf : (l.map rv).flatten.length = s.n * 2 := by rw [flatten_len hs.wd]; simp [hsn]
    have h1 : One (l.map rv).flatten := One_flatten fun r hr => by
      obtain ⟨q, _, rfl⟩ := List.mem_map.1 hr
      exact one_ii _ _ _ _
    obtain ⟨hp, hr⟩ := hz.append (bytes := 16) (m := s.n) (news := (l.map rv).flatten) xa.size hf h1 (by simp; omega) (by simp; omega)
    refine ⟨(l.map rv).flatten, RdK.flat (hs.ext xa) (by omega), hp, fun s2 w3 hres => ?_⟩
    obtain ⟨ho, hn2, xb, _, _⟩ := hr s2 w3 hres
    refine ⟨AppRes_zero hres hf (by simp), s2, rfl, ⟨by simpa using ho, hs.wd⟩, xa.trans xb⟩
theorem runs_join_spec (s : Sl) (ss : List Sl) (cs : List (List Int)) (w : World) (hs : RdK w s 1 (ss.map fun t => [.slice t.a t.n t.c])) (hlen : ss.length = cs.length)
    (hr : ∀ (i : Nat) (t : Sl) (c : List Int), ss[i]? = some t → cs[i]? = some c → RdR w t (ofC c)) (hb : Bd ss.length) (hn : Bd cs.flatten.length) :
    Calls Tryd.prog n_runs_join #[.slice s.a s.n s.c] w fun e w' => ∃ s' : Sl, e = .returned (.slice s'.a s'.n s'.c) ∧ OwR w.heap.size w' s' (ofC cs.flatten) ∧ Ext w w' := by
  have hsn : s.n = ss.length := by have := hs.n; simpa using this
  unfold Bd at hn hb
  apply runs_join.vc
  refine ⟨fun n x o wr => ∃ k : Nat, x = k ∧ k + n = ss.length ∧ Ext w wr ∧ OwR w.heap.size wr o (ofC (cs.take k).flatten), ⟨ss.length, 0, rfl, by omega, Ext.rfl' w, OwnK.nil⟩, ?_⟩
  rintro n us x o wr ⟨k, rfl, hk, xr, ho⟩
  have hw := wrap_in (n := (k : Int) + 1) (by unfold inI; omega)
  refine Br.mk (fun h => ?_) (fun h => ?_) <;> simp at h
  · obtain ⟨t, ht⟩ := get_lt (l := ss) (i := k) (by omega)
    obtain ⟨c, hc⟩ := get_lt (l := cs) (i := k) (by omega)
    have hrt := hr k t c ht hc
    have htn := RdR.len hrt
    have hfl : (cs.take (k + 1)).flatten = (cs.take k).flatten ++ c := by rw [List.take_add_one, hc]; simp
    have hle : (cs.take k).flatten.length + c.length ≤ cs.flatten.length := by
      have e := congrArg List.length (congrArg List.flatten (List.take_append_drop (k + 1) cs))
      rw [List.flatten_append, hfl] at e
      simp only [List.length_append] at e
      omega
    have hcl := ofC_len c
    have hld := hs.rd k [.slice t.a t.n t.c] (by rw [List.getElem?_map, ht]; rfl) 0 _ rfl
    refine ⟨RdK.inB hs (by omega) (by omega) (by omega), t, xr.ld (by simpa using hld), ?_⟩
    refine ⟨fun n x o wr => ∃ j : Nat, x = j ∧ j + n = (ofC c).length ∧ Ext w wr ∧ OwR w.heap.size wr o (ofC ((cs.take k).flatten ++ cellsR ((ofC c).take j))), ⟨(ofC c).length, 0, rfl, by omega, xr, by simpa [cellsR] using ho⟩, ?_⟩
    rintro n2 us2 x2 o2 w2 ⟨j, rfl, hj, x2, ho2⟩
    have hw2 := wrap_in (n := (j : Int) + 1) (by unfold inI; omega)
    refine Br.mk (fun h2 => ?_) (fun h2 => ?_) <;> simp at h2
    · obtain ⟨r, hrr⟩ := get_lt (l := ofC c) (i := j) (by omega)
      have hrm := mem_ofC (List.mem_of_getElem? hrr)
      refine ⟨RdR.inB hrt (by omega), _, _, RdR.ll (hrt.ext x2) hrr, ?_⟩
      rintro w9 rfl w10 rfl
      have x10 := ((x2.tr (Ext.al _ (.cells #[.int .i64 0, .int .i64 0] tRun))).setRow x2.size #[.int .i64 r.1, .int .i64 r.2])
      have ho3 := OwnK.keep (w' := (w2.alloc (.cells #[.int .i64 0, .int .i64 0] tRun)).setRow w2.heap.size #[.int .i64 r.1, .int .i64 r.2]) ho2 (by
        intro g hg
        have := (ho2.own.lt hg).2
        rw [setRow_other _ _ _ _ (by omega)]
        exact (Ext.al _ _).heap this)
      have hl2 : ((cs.take k).flatten ++ cellsR ((ofC c).take j)).length ≤ 1099511627776 := by
        rw [List.length_append]
        have h3 := sumR_take_le (l := ofC c) (fun q hq => by have := mem_ofC hq; omega) j
        rw [sumR_ofC, sumR_cells fun q hq => by have := mem_ofC (List.mem_of_mem_take hq); omega] at h3
        omega
      refine (push_canon w.heap.size o2 _ r _ x10.size ho3 hl2 (by omega)).mono ?_
      rintro e w' ⟨s', rfl, ho', x', hkp⟩
      refine ⟨s', rfl, hkp _ (fun hb => absurd (ho2.own.lt hb).2 (Nat.lt_irrefl _)) (by simp [World.setRow]), n2 - 1, by omega, j + 1, by omega, by omega, x10.trans x', ?_⟩
      rw [cells_take_succ hrr, ← List.append_assoc]; exact ho'
    · obtain rfl : j = (ofC c).length := by omega
      refine ⟨n - 1, by omega, k + 1, by omega, by omega, x2, ?_⟩
      rw [List.take_length, cells_ofC] at ho2
      rw [hfl]; exact ho2
  · obtain rfl : k = ss.length := by omega
    rw [hlen, List.take_length] at ho
    exact ⟨o, rfl, ho, xr⟩
end Go.Proofs.YtfipllblcnahdaaDoor
