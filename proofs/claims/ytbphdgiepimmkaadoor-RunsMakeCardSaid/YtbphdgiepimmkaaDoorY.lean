import Derived.Test.YtbphdgiepimmkaaDoorX
set_option linter.all false
namespace Go.Proofs.YtbphdgiepimmkaaDoor
open Go Go.Vc Go.RowKit Go.Proofs Go.Runs

theorem RunsBack_good (s : Sl) (l : List Rn) (i b : Int) (w : World) (hs : RdR w s l) (hl : ∀ r ∈ l, inI r.1 ∧ inI r.2) (hi : inI i) (hb : inI b) :
    Calls Tryd.prog n_law05_RunsBack #[.slice s.a s.n s.c, .int .i64 i, .int .i64 b] w (Good w) := by
  apply law05_RunsBack.vc
  have hc := goodC_len l
  have hm := goodC_may l
  refine law_start hs hl fun g cs w2 o hcs x2 => ?_
  generalize goodC l = c at *
  rw [hcs]
  have bi := around_bd i c.length (by omega)
  have gb := (bGood_bd b).2.2
  have hbd := bdC hc.2
  have hbr := bdR hc.2
  have hpos : ∀ d, ∀ r ∈ ofC d, 0 ≤ r.1 := fun d r hr => by have := mem_ofC hr; omega
  have hsum : sumR (ofC c) ≤ 1099511627776 := by rw [sumR_ofC]; omega
  refine (around_spec i c.length w2 hi (by omega) (by unfold inI; omega)).mono ?_
  rintro e w3 ⟨rfl, rfl⟩
  generalize around i c.length = p at *
  have hp : inI p := by unfold inI; omega
  refine ⟨_, rfl, (runs_At_spec g _ p w3 o.rdr hbr (hpos c) hsum hp).mono ?_⟩
  rintro e w4 ⟨rfl, x4⟩
  rw [cells_ofC]
  refine ⟨_, rfl, (ref04_Good_spec b w4 hb).mono ?_⟩
  rintro e w5 ⟨rfl, rfl⟩
  generalize bGood b = u at *
  refine ⟨_, rfl, (runs_Set_spec g c p u w5 (o.rdr.ext x4) hbd hp).mono ?_⟩
  rintro e w6 ⟨s1, rfl, o1, x6⟩
  have hlen := setC_len c p u
  have hmd := set_may (i := p) (x := u) hm
  have hset : setC c p u = c.set p.toNat u := setC_hit bi.1 bi.2 gb
  have hwas := atC_get bi.1 bi.2
  have hgm : bMay (atC c p) = true := hm _ (List.mem_of_getElem? hwas)
  have hback : setC (setC c p u) p (atC c p) = c := by
    rw [hset, setC_hit bi.1 (by simpa using bi.2) hgm, List.set_set]
    apply List.ext_getElem?
    intro j
    rw [List.getElem?_set]
    split
    · rename_i e; subst e; rw [if_pos (by omega), hwas]
    · rfl
  generalize setC c p u = d at *
  refine ⟨s1, rfl, ?_⟩
  refine ⟨fun n x y wr => ∃ k : Nat, x = k ∧ k + n = 16 ∧ Ext w6 wr ∧ y = cntLt (ofC d) k, ⟨16, 0, rfl, rfl, Ext.rfl' _, (cntLt_zero _).symm⟩, ?_⟩
  rintro n us x y wr ⟨k, rfl, hk, xr, rfl⟩
  have hdl : d.length ≤ 480 := by omega
  have hds : sumR (ofC d) ≤ 1099511627776 := by rw [sumR_ofC]; omega
  refine Br.mk (fun h => ?_) (fun h => ?_) <;> simp at h
  · have hw := wrap_in (n := (k : Int) + 1) (by unfold inI; omega)
    refine (runs_Count_spec s1 _ k wr (o1.rdr.ext xr) (bdR hdl) (hpos d) hds).mono ?_
    rintro e w7 ⟨rfl, x7⟩
    have e := cntLt_succ (ofC d) k
    have b1 := cntLt_le (hpos d) ((k + 1 : Nat) : Int)
    have hw2 := wrap_in (n := cntLt (ofC d) k + cnt (ofC d) k) (by unfold cnt; unfold inI; omega)
    refine ⟨_, rfl, n - 1, by omega, k + 1, by omega, by omega, xr.tr x7, ?_⟩
    rw [hw2, e]; rfl
  · obtain rfl : k = 16 := by omega
    refine (runs_Set_spec s1 d p (atC c p) wr (o1.rdr.ext xr) (bdC hdl) hp).mono ?_
    rintro e w8 ⟨s2, rfl, o2, x8⟩
    have rg8 := ((o.rdr.ext x4).ext x6).ext (xr.tr x8)
    refine ⟨s2, rfl, (same_good s2 g _ _ w8 o2.rdr rg8 (by rw [setC_len]; omega) hback).mono ?_⟩
    rintro e w9 ⟨rfl, x9⟩
    refine ⟨_, rfl, Br.mk (fun _ => ?_) (fun h => by cases h)⟩
    refine (len_good g c w9 (rg8.ext x9) hc.2).mono ?_
    rintro e w10 ⟨rfl, x10⟩
    have hall : cntLt (ofC d) ((16 : Nat) : Int) = (c.length : Nat) := by
      rw [cntLt_all, sumR_ofC, hlen]
      intro r hr
      have hmr := hmd r.2 (by
        have := mem_cells hr (mem_ofC hr).1
        rwa [cells_ofC] at this)
      unfold bMay at hmr
      simp at hmr
      omega
    refine ⟨_, rfl, Br.mk (fun _ => lives5 ((((((x2.tr x4).tr x6).tr xr).tr x8).tr x9).tr x10)) (fun h => ?_)⟩
    rw [hall] at h; simp at h
theorem RunsMake_good (n b : Int) (w : World) (hn : inI n) (hb : inI b) :
    Calls Tryd.prog n_law05_RunsMake #[.int .i64 n, .int .i64 b] w (Good w) := by
  apply law05_RunsMake.vc
  refine (ref04_Good_spec b w hb).mono ?_
  rintro e w1 ⟨rfl, rfl⟩
  have gb := (bGood_bd b).2.2
  generalize bGood b = u at *
  have e0 : (if 500 < n then 500 else n) = min n 500 := by split <;> omega
  rw [e0]
  refine ⟨_, rfl, (runs_Make_spec (min n 500) u w1 (by omega)).mono ?_⟩
  rintro e w2 ⟨s1, rfl, o1, x2⟩
  have hn1 := RdR.len o1.rdr
  refine ⟨s1, rfl, Br.mk (fun h => ?_) (fun h => ?_)⟩ <;> simp only [decide_eq_true_eq, decide_eq_false_iff_not] at h
  · have hz : (min n 500).toNat = 0 := by omega
    rw [hz] at o1 hn1
    refine Br.mk (fun _ => ?_) (fun h => by simp [ofC] at hn1 h; omega)
    refine (len_good s1 _ w2 o1.rdr (by simp)).mono ?_
    rintro e w3 ⟨rfl, x3⟩
    exact ⟨_, rfl, Br.mk (fun _ => lives5 (x2.tr x3)) (fun h => by simp at h)⟩
  · obtain ⟨m, hm⟩ : ∃ m : Nat, min n 500 = m := ⟨(min n 500).toNat, by omega⟩
    rw [hm] at o1 ⊢
    have hm1 : 1 ≤ m := by omega
    have hm2 : m ≤ 500 := by omega
    rw [Int.toNat_natCast] at o1
    rintro w8 rfl
    have x8 := Ext.al w2 (.cells #[.int .i64 m, .int .i64 u] tRun)
    have hrow := Row.new w2 [.int .i64 m, .int .i64 u] tRun
    have hrd : RdR (w2.alloc (.cells #[.int .i64 m, .int .i64 u] tRun)) ⟨some ⟨w2.heap.size, 0, none⟩, 1, 1⟩ (ofC (List.replicate m u)) := by
      rw [ofC_rep m u hm1]
      refine ⟨rfl, by simp [rv], fun i r hi j v hj => ?_⟩
      show ld _ (padd (some ⟨w2.heap.size, 0, none⟩) _) = _
      rw [padd_row, hrow.ld]
      rcases i with _ | i <;> simp at hi
      subst hi
      rcases j with _ | _ | j <;> simp at hj
      all_goals subst hj; rfl
    have r1 := o1.rdr.ext x8
    have hbl : Bd (ofC (List.replicate m u)).length := by rw [ofC_rep m u hm1]; simp
    refine (ref05_Same_spec s1 _ _ _ _ r1 hrd hbl).mono ?_
    rintro e w9 ⟨rfl, x9⟩
    rw [decide_eq_true rfl]
    refine ⟨_, rfl, Br.mk (fun _ => ?_) (fun h => by cases h)⟩
    refine (runs_May_spec s1 _ m w9 (r1.ext x9) hbl (by unfold inI; omega)).mono ?_
    rintro e w10 ⟨rfl, x10⟩
    have hmay : mayR bMay (ofC (List.replicate m u)) m = true := by
      have := mayR_ofC (may := bMay) (c := List.replicate m u) (by intro y hy; rw [(List.mem_replicate.1 hy).2]; exact gb) (by intro h; have := congrArg List.length h; simp at this; omega)
      simpa using this
    rw [hmay]
    refine ⟨_, rfl, Br.mk (fun _ => ?_) (fun h => by cases h)⟩
    refine (runs_Count_spec s1 _ u w10 ((r1.ext x9).ext x10) hbl (by rw [ofC_rep m u hm1]; simp) (by rw [ofC_rep m u hm1]; simp [sumR]; omega)).mono ?_
    rintro e w11 ⟨rfl, x11⟩
    have hcnt : cnt (ofC (List.replicate m u)) u = m := by rw [ofC_rep m u hm1]; simp [cnt, sumR]
    rw [hcnt]
    exact ⟨_, rfl, Br.mk (fun _ => lives5 ((((x2.tr x8).tr x9).tr x10).tr x11)) (fun h => by simp at h)⟩
end Go.Proofs.YtbphdgiepimmkaaDoor
