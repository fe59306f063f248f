import Derived.Test.YtbphdgiepimmkaaDoorQZ
set_option linter.all false
namespace Go.Proofs.YtbphdgiepimmkaaDoor
open Go Go.Vc Go.RowKit Go.Proofs Go.Runs Go.Code

theorem CodeSizes_fin (o : Sl) (l : List Rn) (want : Int) (w wr : World) (xr : Ext w wr) (ho : RdR wr o l) (hN : Nm l) (hl : ∀ r ∈ l, r.1 ≤ 20000 ∧ 0 ≤ r.2 ∧ r.2 ≤ 5) (h12 : l.length ≤ 12) (hs : sumR l ≤ 20000 * l.length) (hw : want = (wrB l).length) :
    Calls Tryd.prog n_code_Write #[.slice o.a o.n o.c] wr (fun e w27 => ∃ (s28 : Sl) (x29 : Int), e = .returned (.tuple #[.slice s28.a s28.n s28.c, .int .i64 x29]) ∧ 
 Br ((((o.n : Nat) : Int) : Int) == 0)
 (Br ((x29 : Int) == 1)
 (Br ((((s28.n : Nat) : Int) : Int) == 0)
 (Calls Tryd.prog n_law06_lives #[] w27 (fun e w30 => ∃ (b31 : Bool), e = .returned (.bool b31) ∧ 
 Good6 w (.returned (.bool b31)) w30))
 (Good6 w (.returned (.bool false)) w27))
 (Good6 w (.returned (.bool false)) w27))
 (Br ((x29 : Int) == 0)
 (Br ((((s28.n : Nat) : Int) : Int) == want)
 (Calls Tryd.prog n_law06_lives #[] w27 (fun e w32 => ∃ (b33 : Bool), e = .returned (.bool b33) ∧ 
 Good6 w (.returned (.bool b33)) w32))
 (Good6 w (.returned (.bool false)) w27))
 (Good6 w (.returned (.bool false)) w27))) := by
  have hon := RdR.len ho
  refine (code_Write_spec o l wr ho (by omega) (fun r hr => by have := hl r hr; have := hN.pos r hr; unfold inI; omega)).mono ?_
  rintro e w1 ⟨⟨s1, rfl, o1⟩, x1⟩
  have hn1 := RdY.len (OwY.rdy o1)
  have xx := xr.tr x1
  refine ⟨s1, _, rfl, Br.mk (fun h => ?_) (fun h => ?_)⟩ <;> simp only [beq_iff_eq, beq_eq_false_iff_ne] at h
  · have hnil : l = [] := List.eq_nil_of_length_eq_zero (by omega)
    subst hnil
    have hok : okW bMay [] = false := by decide
    rw [hok] at hn1 ⊢
    simp at hn1
    exact Br.mk (fun _ => Br.mk (fun _ => lives6 xx) (fun h' => by simp at h'; omega)) (fun h' => by simp at h')
  · have hne : l ≠ [] := by rintro rfl; simp at hon; omega
    have hok : okW bMay l = true := okW_nm hN (fun r hr => by
      have := hl r hr
      unfold bMay; simp; omega) (by omega) hne
    rw [hok] at hn1 ⊢
    simp at hn1
    exact Br.mk (fun _ => Br.mk (fun _ => lives6 xx) (fun h' => by simp at h'; omega)) (fun h' => by simp at h')
theorem CodeSizes_good (s t : Sl) (bs ls : List Int) (w : World) (hs : RdC w s bs) (ht : RdC w t ls) (hb : ∀ c ∈ bs, inI c) (hl : ∀ c ∈ ls, inI c) :
    Calls Tryd.prog n_law06_CodeSizes #[.slice s.a s.n s.c, .slice t.a t.n t.c] w (Good6 w) := by
  have hsn := RdC.len hs
  have htn := RdC.len ht
  apply law06_CodeSizes.vc
  refine ⟨fun n x last want o wr => ∃ (k : Nat) (l : List Rn), x = k ∧ k + n = 12 ∧ Ext w wr ∧ OwR w.heap.size wr o l ∧ Nm l ∧ (∀ r ∈ l, r.1 ≤ 20000 ∧ 0 ≤ r.2 ∧ r.2 ≤ 5) ∧ l.length ≤ k ∧ sumR l ≤ 20000 * l.length ∧ want = (wrB l).length ∧ (∀ q, l.getLast? = some q → q.2 = last), ⟨12, 0, [], rfl, rfl, Ext.rfl' w, OwnK.nil, .nil, by simp, by simp, by simp [sumR], rfl, by simp⟩, ?_⟩
  rintro n us x last want o wr ⟨k, l, rfl, hk, xr, ho, hN, hr, hlk, hsum, hwant, hlast⟩
  have hw := wrap_in (n := (k : Int) + 1) (by unfold inI; omega)
  have fin := CodeSizes_fin o l want w wr xr ho.rdr hN hr (by omega) hsum hwant
  refine Br.mk (fun h1 => Br.mk (fun h2 => Br.mk (fun h3 => ?_) (fun _ => fin)) (fun _ => fin)) (fun _ => fin)
  simp only [decide_eq_true_eq] at h1 h2 h3
  obtain ⟨b, hbk⟩ := get_lt (l := bs) (i := k) (by omega)
  have hbi := hb b (List.mem_of_getElem? hbk)
  have b6 := around_bd b 6 (by omega)
  refine ⟨RdC.inB hs (by omega), b, RdC.c0 (hs.ext xr) hbk, (around_spec b 6 wr hbi (by omega) (by unfold inI; omega)).mono ?_⟩
  rintro e w1 ⟨rfl, rfl⟩
  generalize around b 6 = v at *
  refine ⟨_, rfl, Br.mk (fun h => ?_) (fun h => ?_)⟩ <;> simp only [beq_iff_eq, beq_eq_false_iff_ne] at h
  · exact ⟨n - 1, by omega, k + 1, l, by omega, by omega, xr, ho, hN, hr, by omega, hsum, hwant, hlast⟩
  · obtain ⟨c, hck⟩ := get_lt (l := ls) (i := k) (by omega)
    have hci := hl c (List.mem_of_getElem? hck)
    have b20 := around_bd c 20000 (by omega)
    refine ⟨RdC.inB ht (by omega), c, RdC.c0 (ht.ext xr) hck, (around_spec c 20000 w1 hci (by omega) (by unfold inI; omega)).mono ?_⟩
    rintro e w2 ⟨rfl, rfl⟩
    generalize around c 20000 = u at *
    have hu := wrap_in (n := 1 + u) (by unfold inI; omega)
    have hwl := wrB_len l
    have hon := RdR.len ho.rdr
    refine ⟨_, rfl, ?_⟩
    rw [hu]
    have hsz := numF_size (n := 1 + u) (by omega) (by omega)
    have app : ∀ want' : Int, want' = want + 1 + (numB (1 + u)).length → ∀ w15 : World, w15 = w2.alloc (.cells #[.int .i64 (1 + u), .int .i64 v] tRun) →
        AppPre 16 2 w15 ⟨o.a, o.n, o.c⟩ 1 [.int .i64 (1 + u), .int .i64 v] ∧ ∀ (s16 : Sl) (w17 : World), AppRes tRun 2 w15 ⟨o.a, o.n, o.c⟩ 1 [.int .i64 (1 + u), .int .i64 v] s16 w17 → w17.heap[w2.heap.size]? = w15.heap[w2.heap.size]? ∧
        ∃ n8, n8 < n ∧ ∃ (k_1 : Nat) (l : List Rn), IntKind.wrap .i64 ((k : Int) + 1) = k_1 ∧ k_1 + n8 = 12 ∧ Ext w w17 ∧ OwR w.heap.size w17 ⟨s16.a, s16.n, s16.c⟩ l ∧ Nm l ∧ (∀ r ∈ l, r.1 ≤ 20000 ∧ 0 ≤ r.2 ∧ r.2 ≤ 5) ∧ l.length ≤ k_1 ∧ sumR l ≤ 20000 * l.length ∧ want' = (wrB l).length ∧ (∀ q, l.getLast? = some q → q.2 = v) := by
      rintro want' hw' w15 rfl
      obtain ⟨hp, hres⟩ := OwnK.app1 ho (bytes := 16) (news := rv (1 + u, v)) (.cells #[.int .i64 (1 + u), .int .i64 v] tRun) xr.size rfl (one_ii _ _ _ _) (by omega) (by omega)
      refine ⟨hp, fun s17 w18 hr' => ?_⟩
      obtain ⟨k1, ho', _, xb, _, _⟩ := hres s17 w18 hr'
      refine ⟨k1, n - 1, by omega, k + 1, l ++ [(1 + u, v)], by omega, by omega, xr.trans xb, ?_, .snoc _ _ hN (by show 1 ≤ 1 + u; omega) (fun q hq => by rw [hlast q hq]; exact fun e => h e.symm), ?_, by simp; omega, ?_, ?_, ?_⟩
      · show OwnK _ _ 2 _ _ ((l ++ [(1 + u, v)]).map rv)
        rw [List.map_append]; exact ho'
      · intro r hm
        rcases List.mem_append.1 hm with hm | hm
        · exact hr r hm
        · simp at hm; subst hm; exact ⟨by show 1 + u ≤ 20000; omega, by show 0 ≤ v; omega, by show v ≤ 5; omega⟩
      · rw [sumR_snoc, List.length_append]; simp; omega
      · rw [wrB_snoc, hw', hwant]; simp; omega
      · intro q hq; simp at hq; subst hq; rfl
    have e2 := wrap_in (n := want + 2) (by unfold inI; omega)
    have e3 := wrap_in (n := want + 2 + 1) (by unfold inI; omega)
    have e4 := wrap_in (n := want + 2 + 1 + 1) (by unfold inI; omega)
    rw [e2, e3, e4]
    refine Br.mk (fun h5 => Br.mk (fun h6 => ?_) (fun h6 => ?_)) (fun h5 => Br.mk (fun h6 => ?_) (fun h6 => ?_)) <;> simp only [decide_eq_true_eq, decide_eq_false_iff_not] at h5 h6
    · exact app _ (by rw [hsz, if_pos h5, if_pos h6]; omega)
    · exact app _ (by rw [hsz, if_pos h5, if_neg h6]; omega)
    · omega
    · exact app _ (by rw [hsz, if_neg h5, if_neg h6]; omega)
end Go.Proofs.YtbphdgiepimmkaaDoor
