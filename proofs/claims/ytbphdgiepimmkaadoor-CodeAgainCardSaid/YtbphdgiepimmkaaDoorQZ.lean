import Derived.Test.YtbphdgiepimmkaaDoorQY
set_option linter.all false
namespace Go.Proofs.YtbphdgiepimmkaaDoor
open Go Go.Vc Go.RowKit Go.Proofs Go.Runs Go.Code

theorem ofC_in {c : List Int} (hc : c.length ≤ 480) (hi : ∀ b ∈ c, inI b) : ∀ r ∈ ofC c, inI r.1 ∧ inI r.2 := by
  intro r hr
  have h1 := mem_ofC hr
  refine ⟨by unfold inI; omega, ?_⟩
  have := mem_cells hr h1.1
  rw [cells_ofC] at this
  exact hi _ this
theorem goodC_in (l : List Rn) : ∀ b ∈ goodC l, inI b := by
  intro b hb
  have := goodC_may l b hb
  unfold bMay at this
  simp at this
  unfold inI; omega
theorem CodeWrites_part (s : Sl) (l : List Rn) (w : World) (hs : RdR w s l) (hl : ∀ r ∈ l, inI r.1 ∧ inI r.2) (bl : l.length ≤ 20) :
    Calls Tryd.prog n_ref05_Good #[.slice s.a s.n s.c] w (fun e w21 => ∃ (s22 : Sl), e = .returned (.slice s22.a s22.n s22.c) ∧ 
 ∀ w23 : World, w23 = w21.alloc (.cells #[.slice s.a s.n s.c, .slice s22.a s22.n s22.c] 22) →
 ∃ I24 : Nat → Int → World → Prop,
 (∃ n25, ([.slice s.a s.n s.c, .slice s22.a s22.n s22.c] : List Value) = [.slice s.a s.n s.c, .slice s22.a s22.n s22.c] ∧ I24 n25 (0) w23) ∧
 ∀ (n25 : Nat) (us26 : Nat → Value) (x27 : Int) (w28 : World), I24 n25 x27 w28 →
 Br (decide ((x27 : Int) < 2))
 (InB (some ⟨w21.heap.size, 0, none⟩) x27 2 ∧ ∃ (s30 : Sl), ld w28 (padd (some ⟨w21.heap.size, 0, none⟩) ((x27 : Int).toNat * 1)) = some (.slice s30.a s30.n s30.c) ∧
 Calls Tryd.prog n_code_Write #[.slice s30.a s30.n s30.c] w28 (fun e w31 => ∃ (s32 : Sl) (x33 : Int), e = .returned (.tuple #[.slice s32.a s32.n s32.c, .int .i64 x33]) ∧ w31.heap[w21.heap.size]? = w28.heap[w21.heap.size]? ∧ 
 InB (some ⟨w21.heap.size, 0, none⟩) x27 2 ∧ ∃ (s34 : Sl), ld w31 (padd (some ⟨w21.heap.size, 0, none⟩) ((x27 : Int).toNat * 1)) = some (.slice s34.a s34.n s34.c) ∧
 Calls Tryd.prog n_ref06_Write #[.slice s34.a s34.n s34.c] w31 (fun e w35 => ∃ (s36 : Sl) (x37 : Int), e = .returned (.tuple #[.slice s36.a s36.n s36.c, .int .i64 x37]) ∧ w35.heap[w21.heap.size]? = w31.heap[w21.heap.size]? ∧ 
 Br ((x33 : Int) != x37)
 (Good6 w (.returned (.bool false)) w35)
 (Calls Tryd.prog n_ref06_Same #[.slice s32.a s32.n s32.c, .slice s36.a s36.n s36.c] w35 (fun e w38 => ∃ (b39 : Bool), e = .returned (.bool b39) ∧ w38.heap[w21.heap.size]? = w35.heap[w21.heap.size]? ∧ 
 Br (!b39)
 (Good6 w (.returned (.bool false)) w38)
 (∃ n29, n29 < n25 ∧ ([.slice s.a s.n s.c, .slice s22.a s22.n s22.c] : List Value) = [.slice s.a s.n s.c, .slice s22.a s22.n s22.c] ∧ I24 n29 ((IntKind.wrap .i64 (x27 + 1))) w38))))))
 (Calls Tryd.prog n_law06_lives #[] w28 (fun e w40 => ∃ (b41 : Bool), e = .returned (.bool b41) ∧ w40.heap[w21.heap.size]? = w28.heap[w21.heap.size]? ∧ 
 Good6 w (.returned (.bool b41)) w40))) := by
  have hgl := goodC_len l
  have hgr := ofC_len (goodC l)
  refine (ref05_Good_spec s l w hs hl).mono ?_
  rintro e w1 ⟨g, rfl, og, x1⟩
  refine ⟨g, rfl, ?_⟩
  rintro w2 rfl
  have x2 := Ext.al w1 (.cells #[.slice s.a s.n s.c, .slice g.a g.n g.c] 22)
  have hrow := Row.new w1 [.slice s.a s.n s.c, .slice g.a g.n g.c] 22
  refine ⟨fun n x wr => ∃ k : Nat, x = k ∧ k + n = 2 ∧ Ext (w1.alloc (.cells #[.slice s.a s.n s.c, .slice g.a g.n g.c] 22)) wr, ⟨2, rfl, 0, rfl, rfl, Ext.rfl' _⟩, ?_⟩
  rintro n us x wr ⟨k, rfl, hk, xr⟩
  have xx := (x1.tr x2).tr xr
  have hrow2 := hrow.ext xr
  have hlt := hrow2.lt
  have hw := wrap_in (n := (k : Int) + 1) (by unfold inI; omega)
  refine Br.mk (fun h => ?_) (fun h => ?_) <;> simp only [decide_eq_true_eq, decide_eq_false_iff_not] at h
  · obtain ⟨t, q, ht, hq, hqi, hql⟩ : ∃ (t : Sl) (q : List Rn), [Value.slice s.a s.n s.c, Value.slice g.a g.n g.c][k]? = some (.slice t.a t.n t.c) ∧ RdR wr t q ∧ (∀ r ∈ q, inI r.1 ∧ inI r.2) ∧ q.length ≤ 2000000 := by
      have : k = 0 ∨ k = 1 := by omega
      rcases this with rfl | rfl
      · exact ⟨s, l, rfl, hs.ext xx, hl, by omega⟩
      · exact ⟨g, ofC (goodC l), rfl, og.rdr.ext (x2.tr xr), ofC_in hgl.2 (goodC_in l), by omega⟩
    have hin : InB (some ⟨w1.heap.size, 0, none⟩) (k : Int) 2 := ⟨rfl, by omega, by omega⟩
    have hld : ∀ {w'}, Row w' w1.heap.size [.slice s.a s.n s.c, .slice g.a g.n g.c] 22 → ld w' (padd (some ⟨w1.heap.size, 0, none⟩) ((k : Int).toNat * 1)) = some (.slice t.a t.n t.c) := by
      intro w' hh
      rw [padd_row, hh.ld]
      simpa using ht
    refine ⟨hin, t, hld hrow2, (code_Write_spec t q wr hq hql hqi).mono ?_⟩
    rintro e w3 ⟨⟨s3, rfl, o3⟩, x3⟩
    have hrow3 := hrow2.ext x3
    refine ⟨s3, _, rfl, x3.heap hlt, hin, t, hld hrow3, (ref06_Write_spec t q w3 (hq.ext x3) hql hqi).mono ?_⟩
    rintro e w4 ⟨⟨s4, rfl, o4⟩, x4⟩
    have hrow4 := hrow3.ext x4
    have hby : InY (if okW bMay q then wrB q else []) := by
      split
      · exact wrB_in q
      · intro c hc; cases hc
    refine ⟨s4, _, rfl, x4.heap hrow3.lt, Br.mk (fun h => by simp at h) (fun _ => ?_)⟩
    refine (ref06_Same_spec s3 s4 _ _ w4 (RdK.ext (OwY.rdy o3) x4) (OwY.rdy o4) hby hby).mono ?_
    rintro e w5 ⟨rfl, rfl⟩
    rw [decide_eq_true rfl]
    exact ⟨_, rfl, rfl, Br.mk (fun h => by cases h) (fun _ => ⟨n - 1, by omega, rfl, k + 1, by omega, by omega, (xr.tr x3).tr x4⟩)⟩
  · refine (law06_lives_spec wr).mono ?_
    rintro e w3 ⟨rfl, x3⟩
    exact ⟨_, rfl, x3.heap hlt, rfl, xx.tr x3⟩
theorem CodeWrites_good (s : Sl) (l : List Rn) (w : World) (hs : RdR w s l) (hsc : s.n ≤ s.c) (hl : ∀ r ∈ l, inI r.1 ∧ inI r.2) :
    Calls Tryd.prog n_law06_CodeWrites #[.slice s.a s.n s.c] w (Good6 w) := by
  have hsn := RdR.len hs
  apply law06_CodeWrites.vc
  refine Br.mk (fun h => ?_) (fun h => ?_) <;> simp at h
  · refine ⟨by omega, by omega, ?_⟩
    have hcut := RdK.cut hs (m := 20) (c' := s.c) (c'' := s.c - 0) (by simp; omega)
    rw [← List.map_take] at hcut
    exact CodeWrites_part ⟨slBase s.a 0 s.c 2, 20, s.c - 0⟩ (l.take 20) w hcut (fun r hr => hl r (List.mem_of_mem_take hr)) (by rw [List.length_take]; omega)
  · exact CodeWrites_part s l w hs hl (by omega)
end Go.Proofs.YtbphdgiepimmkaaDoor
