import Derived.Test.YtbphdgiepimmkaaQS
import Derived.Test.YtbphdgiepimmkaaQPC
set_option linter.all false
namespace Go.Proofs.Ytbphdgiepimmkaa
open Go Go.Vc Go.RowKit Go.Proofs Go.Que

theorem QueueOnce_law (s : Sl) (z : List Int) (most : Int) (w : World) (hz : RdI w s z) (hzi : ∀ n ∈ z, inI n) (hm : inI most) :
    Calls Try.prog n_law17_QueueOnce #[.slice s.a s.n s.c, .int .i64 most] w fun e w' => e = .returned (.bool true) ∧ Ext w w' := by
  apply law17_QueueOnce.vc
  refine (around_spec most 10 w hm (by decide) (by unfold inI; omega)).mono ?_
  rintro e w0 ⟨rfl, rfl⟩
  have hbd := around_bd most 10 (by decide)
  generalize around most 10 = mm at hbd
  refine ⟨_, rfl, (New_spec 100 w0).mono ?_⟩
  rintro e w2 ⟨g, m, rfl, h2, x2, hg, hm2⟩
  refine ⟨_, rfl, Br.mk (fun h => by cases h) (fun _ => ⟨by decide, ?_⟩)⟩
  intro w4 e4
  have hw1 : IntKind.wrap .i64 (1 + mm) = 1 + mm := wrap_in (by unfold inI; omega)
  rw [hw1]
  let f : Nat → Int := fun i => around (z[i]?.getD 0) 40
  have hf : ∀ i, 0 ≤ f i ∧ f i < 40 := fun i => around_bd _ 40 (by decide)
  have e0 : (⟨min (max 100 1) 4096, 0, []⟩ : QS) = fq 100 f 0 := fq_zero 100 f (by omega)
  rw [e0] at h2
  have hlen := RdI.len hz
  have hN : ∃ N : Nat, (N : Int) = (if 30 < ((s.n : Nat) : Int) then 30 else ((s.n : Nat) : Int)) ∧ N ≤ 30 ∧ N ≤ z.length := by
    refine ⟨min 30 s.n, ?_, by omega, by omega⟩
    split <;> omega
  obtain ⟨N, hNe, hN30, hNz⟩ := hN
  rw [← hNe]
  have x4 : Ext w2 w4 := (Ext.rfl' _).of_alloc e4
  have hT4 : Row w4 w2.heap.size (toldV []) 3 := by rw [e4, toldV_nil]; exact Row.new _ _ _
  have zT := x2.size
  generalize w2.heap.size = T at hT4 zT
  have hfv : ∀ {v : Int} {i : Nat}, z[i]? = some v → around v 40 = f i ∧ inI v := fun {v i} hv => ⟨by show _ = around (z[i]?.getD 0) 40; rw [hv]; rfl, hzi v (List.mem_of_getElem? hv)⟩
  refine ⟨fun n x wr => ∃ i : Nat, x = i ∧ i + n = N ∧ ∃ sq, QIs wr g m sq (fq 100 f i) ∧ Ext w0 wr ∧ (∀ i, Foot g m sq i → w0.heap.size ≤ i) ∧ Row wr T (toldV []) 3,
    ⟨N, 0, rfl, by omega, _, h2.ext x4, x2.tr x4, Foot.none hg hm2, hT4⟩, ?_⟩
  rintro n us x wr ⟨i, rfl, hi, sq, hq, xr, fr, hT⟩
  refine Br.mk (fun hc => ?_) (fun hc => ?_)
  · simp only [decide_eq_true_eq] at hc
    have hget : z[i]? = some (z[i]'(by omega)) := List.getElem?_eq_getElem (by omega)
    generalize z[i]'(by omega) = v at hget
    obtain ⟨hfi, hvi⟩ := hfv hget
    have hzr := hz.ext xr
    refine ⟨RdI.inB hzr (by omega), v, RdI.get hzr hget, (around_spec v 40 wr hvi (by decide) (by unfold inI; omega)).mono ?_⟩
    rintro e w13 ⟨rfl, rfl⟩
    have F := FQ.of 100 (by omega) f i (by omega)
    have hadd := fq_add 100 (by omega) f i (by omega)
    rw [hfi]
    refine ⟨_, rfl, (Add_spec hq F.ok (by rw [F.lost]; omega) ((i : Int), 0, 0) (f i)).mono ?_⟩
    rintro e w14 ⟨rfl, sq', hq', tq⟩
    obtain ⟨xq, fq'⟩ := tq.fresh xr fr
    rw [hadd] at hq' ⊢
    have hwi : IntKind.wrap .i64 ((i : Int) + 1) = ((i + 1 : Nat) : Int) := by rw [wrap_in (by unfold inI; omega)]; omega
    exact ⟨_, rfl, Br.mk (fun h => by cases h) (fun _ => ⟨n - 1, by omega, i + 1, hwi, by omega, sq', hq', xq, fq', tq.mod.row hT (hq.no_row hT (by decide) (by decide))⟩)⟩
  simp only [decide_eq_false_iff_not] at hc
  have hiN : i = N := by omega
  subst hiN
  have F := FQ.of 100 (by omega) f i (by omega)
  have hFl := F.len
  have hok := F.ok
  have hmem := F.mem
  generalize hQ : fq 100 f i = Q at hFl hok hmem hq
  have hcell : ∀ x ∈ Q.l, ∃ j : Nat, x.2 = ((j : Int), 0, 0) := fun x hx => by
    obtain ⟨j, _, rfl⟩ := (hmem x).1 hx
    exact ⟨j, rfl⟩
  have hkk : ∀ p, QOk { Q with l := Q.l.drop p } := fun p => by
    have hsub := List.drop_sublist p Q.l
    have h1 := hsub.length_le
    have h2 := hok.len
    exact ⟨hok.room, by show (((Q.l.drop _).length : Nat) : Int) ≤ Q.room; omega, hok.sorted.sublist hsub, (hsub.map _).nodup hok.nodup⟩
  refine ⟨fun n x y wq => ∃ t p : Nat, x = t ∧ t + n = 80 ∧ p ≤ Q.l.length ∧ (p = Q.l.length ∨ t ≤ 40 + p) ∧ (∀ x ∈ Q.l.drop p, y ≤ x.1) ∧ ∃ sq, QIs wq g m sq { Q with l := Q.l.drop p } ∧ Ext w0 wq ∧ (∀ i, Foot g m sq i → w0.heap.size ≤ i) ∧ Row wq T (toldV (Q.l.take p)) 3,
    ⟨80, 0, 0, rfl, rfl, Nat.zero_le _, .inr (by omega), fun x hx => by
      obtain ⟨j, _, rfl⟩ := (hmem x).1 (by simpa using hx)
      have := hf j
      show -1 ≤ f j
      omega, sq, by simpa using hq, xr, fr, by simpa using hT⟩, ?_⟩
  rintro n us x y wq ⟨t, p, rfl, ht, hp, hprog, hlast, sq', hq', xq, fq', hT'⟩
  refine Br.mk (fun hc => ?_) (fun hc => ?_)
  · simp only [decide_eq_true_eq] at hc
    refine (Due_spec hq' (hkk p) t (1 + mm)).mono ?_
    rintro e w23 ⟨so, rfl, s3, hout, h3, t3⟩
    obtain ⟨x3, f3⟩ := t3.fresh xq fq'
    have hT3 := t3.mod.row hT' (hq'.no_row hT' (by decide) (by decide))
    unfold qdue at hout h3
    simp only at hout h3
    have hcl := qcount_le (Q.l.drop p) t (1 + mm)
    have hcm : qcount (Q.l.drop p) t (1 + mm) ≤ (1 + mm).toNat := by unfold qcount; omega
    have hat : ∀ {j : Nat} {x : It}, Q.l[p + j]? = some x → (j < qcount (Q.l.drop p) t (1 + mm) ↔ (j : Int) < 1 + mm ∧ x.1 ≤ t) := fun {j x} hx => qcount_at (hkk p) t (1 + mm) (by show (Q.l.drop p)[j]? = _; rw [List.getElem?_drop]; exact hx)
    generalize qcount (Q.l.drop p) t (1 + mm) = cnt at hout h3 hcl hcm hat
    rw [List.length_drop] at hcl
    rw [List.drop_drop] at h3
    have hson : so.n = cnt := by rw [(hout.rd (by decide)).n, List.length_map, List.length_map, List.length_take, List.length_drop]; omega
    refine ⟨so, rfl, Br.mk (fun h => ?_) (fun _ => ?_)⟩
    · simp only [decide_eq_true_eq] at h; omega
    refine ⟨fun n x y wv => ∃ j : Nat, x = j ∧ j + n = cnt ∧ (∀ x ∈ Q.l.drop (p + j), y ≤ x.1) ∧ QIs wv g m s3 { Q with l := Q.l.drop (p + cnt) } ∧ Ext w0 wv ∧ OwnK wq.heap.size tCell 3 wv so ((((Q.l.drop p).take cnt).map (·.2)).map clv) ∧ Row wv T (toldV (Q.l.take (p + j))) 3,
      ⟨cnt, 0, rfl, by omega, by simpa using hlast, h3, x3, hout, by simpa using hT3⟩, ?_⟩
    rintro n2 us x y wv ⟨j, rfl, hj, hlast2, hqv, xv, hov, hTv⟩
    refine Br.mk (fun hc2 => ?_) (fun hc2 => ?_)
    · simp only [decide_eq_true_eq] at hc2
      have hget : Q.l[p + j]? = some (Q.l[p + j]'(by omega)) := List.getElem?_eq_getElem (by omega)
      have hcons : Q.l.drop (p + j) = Q.l[p + j]'(by omega) :: Q.l.drop (p + j + 1) := List.drop_eq_getElem_cons (by omega)
      have hmm := (hmem (Q.l[p + j]'(by omega))).1 (List.getElem_mem _)
      generalize Q.l[p + j]'(by omega) = it at hget hcons hmm
      obtain ⟨k, hk, hit⟩ := hmm
      have hat' := (hat hget).1 (by omega)
      have hit1 : it.1 = f k := by rw [hit]
      have hit2 : it.2.1 = (k : Int) := by rw [hit]
      have hrd := hov.rd (by decide)
      have hget2 : ((((Q.l.drop p).take cnt).map (·.2)).map clv)[j]? = some (clv it.2) := by
        rw [List.getElem?_map, List.getElem?_map, List.getElem?_take, if_pos (by omega), List.getElem?_drop, hget]; rfl
      have hs := hrd.isSome (by decide) (i := j) (by simp; omega)
      have hgz : z[k]? = some (z[k]'(by omega)) := List.getElem?_eq_getElem (by omega)
      generalize z[k]'(by omega) = v at hgz
      obtain ⟨hfk, hvi⟩ := hfv hgz
      have hzv := hz.ext xv
      have hkb := RdI.inB hzv (i := k) (by omega)
      refine ⟨⟨hs, by omega, by omega⟩, AndL_iff.2 ⟨nnC_iff.2 (by rw [padd_isSome]; exact hs), (k : Int), by rw [← hit2]; exact hrd.at (i := j) hget2 rfl, Br.mk (fun h => ?_) (fun _ => Br.mk (fun h => ?_) (fun _ => ⟨hkb, v, RdI.get hzv hgz, (around_spec v 40 wv hvi (by decide) (by unfold inI; omega)).mono ?_⟩))⟩⟩
      · simp only [decide_eq_true_eq] at h; omega
      · simp only [decide_eq_true_eq, ge_iff_le] at h; omega
      rintro e w34 ⟨rfl, rfl⟩
      rw [hfk]
      refine ⟨_, rfl, Br.mk (fun h => ?_) (fun _ => ⟨hkb, v, RdI.get hzv hgz, (around_spec v 40 w34 hvi (by decide) (by unfold inI; omega)).mono ?_⟩)⟩
      · simp only [decide_eq_true_eq] at h; omega
      rintro e w37 ⟨rfl, rfl⟩
      rw [hfk]
      refine ⟨_, rfl, Br.mk (fun h => ?_) (fun _ => ⟨hkb, v, RdI.get hzv hgz, (around_spec v 40 w37 hvi (by decide) (by unfold inI; omega)).mono ?_⟩)⟩
      · simp only [decide_eq_true_eq] at h
        have := hlast2 it (by rw [hcons]; exact List.mem_cons_self ..)
        omega
      rintro e w40 ⟨rfl, rfl⟩
      rw [hfk]
      have hnot := told_not hok.nodup hcell hget
      have hTg := toldV_get (Q.l.take (p + j)) (k := k) (by omega)
      rw [hit2] at hnot
      rw [hnot] at hTg
      simp only [Bool.false_eq_true, if_false] at hTg
      have hk1 : ((k : Int).toNat * 1) = k := by omega
      rw [hk1]
      obtain ⟨p1, p2⟩ := hTv.put1 (j := k) (v := .int .i64 1) (by rw [toldV_len]; omega) rfl
      have hb30 : InB (some ⟨T, 0, none⟩) (k : Int) (30 : Int).toNat := ⟨rfl, by omega, by show (k : Int) < 30; omega⟩
      refine ⟨_, rfl, hb30, 0, hTv.at k hTg, hb30, ⟨rfl, p1⟩, ?_⟩
      intro w43 e43
      have hwz : IntKind.wrap .i64 (0 + 1) = 1 := by decide
      rw [hwz] at e43
      obtain ⟨q1, q2⟩ := p2 w43 e43
      have hputs : putCells (toldV (Q.l.take (p + j))) k [.int .i64 1] = toldV (Q.l.take (p + j + 1)) := by
        rw [← toldV_set hget hit2 (by omega)]; rfl
      rw [hputs] at q1
      have hwj : IntKind.wrap .i64 ((j : Int) + 1) = ((j + 1 : Nat) : Int) := by rw [wrap_in (by unfold inI; omega)]; omega
      refine ⟨n2 - 1, by omega, j + 1, hwj, by omega, fun x hx => ?_, hqv.keep q2 fun b hb hf => ?_, q2.ext xv (fun b hb => by omega), q2.ownK hov fun b hb hf => ?_, q1⟩
      · have hsrt := hok.sorted.sublist (List.drop_sublist (p + j) Q.l)
        rw [hcons, List.pairwise_cons] at hsrt
        rw [← hit1]
        exact hsrt.1 x hx
      · have : b = T := hf
        exact hqv.no_row hTv (by decide) (by decide) (this ▸ hb)
      · have : b = T := hf
        obtain ⟨cs, hr⟩ := own_row hov (by decide) hb
        exact hr.ne hTv (by decide) this
    · simp only [decide_eq_false_iff_not] at hc2
      have hjc : j = cnt := by omega
      subst hjc
      have hwt : IntKind.wrap .i64 ((t : Int) + 1) = ((t + 1 : Nat) : Int) := by rw [wrap_in (by unfold inI; omega)]; omega
      refine ⟨n - 1, by omega, t + 1, p + j, hwt, by omega, by omega, ?_, hlast2, s3, hqv, xv, f3, hTv⟩
      rcases Nat.lt_or_ge p Q.l.length with h | h
      · rcases Nat.lt_or_ge t 40 with h40 | h40
        · exact .inr (by omega)
        · have hget : Q.l[p + 0]? = some (Q.l[p + 0]'(by omega)) := List.getElem?_eq_getElem (by omega)
          obtain ⟨k, _, hk⟩ := (hmem _).1 (List.getElem_mem (l := Q.l) (n := p + 0) (by omega))
          have h1 : (Q.l[p + 0]'(by omega)).1 = f k := congrArg Prod.fst hk
          have h2 := hf k
          have := (hat hget).2 ⟨by omega, by omega⟩
          rcases hprog with h3 | h3
          · omega
          · exact .inr (by omega)
      · exact .inl (by omega)
  · simp only [decide_eq_false_iff_not] at hc
    have hpN : p = Q.l.length := by
      rcases hprog with h | h <;> omega
    rw [hpN, List.take_length] at hT'
    rw [hpN, List.drop_length] at hq'
    refine ⟨fun n x wv => wq = wv ∧ ∃ k : Nat, x = k ∧ k + n = i, ⟨i, rfl, 0, rfl, by omega⟩, ?_⟩
    rintro n2 us x wv ⟨rfl, k, rfl, hk⟩
    refine Br.mk (fun hc2 => ?_) (fun hc2 => ?_)
    · simp only [decide_eq_true_eq] at hc2
      have hb30 : InB (some ⟨T, 0, none⟩) (k : Int) (30 : Int).toNat := ⟨rfl, by omega, by show (k : Int) < 30; omega⟩
      have hTg := toldV_get Q.l (k := k) (by omega)
      have hany : (Q.l.any fun x => x.2.1 == (k : Int)) = true := by
        rw [List.any_eq_true]
        exact ⟨_, (hmem (f k, ((k : Int), 0, 0))).2 ⟨k, by omega, rfl⟩, by simp⟩
      rw [hany] at hTg
      have hk1 : ((k : Int).toNat * 1) = k := by omega
      rw [hk1]
      have hwk : IntKind.wrap .i64 ((k : Int) + 1) = ((k + 1 : Nat) : Int) := by rw [wrap_in (by unfold inI; omega)]; omega
      exact ⟨hb30, 1, hT'.at k hTg, Br.mk (fun h => by simp at h) (fun _ => ⟨n2 - 1, by omega, rfl, k + 1, hwk, by omega⟩)⟩
    · refine (Len_spec hq').mono ?_
      rintro e w51 ⟨rfl, x51⟩
      refine ⟨_, rfl, Br.mk (fun _ => ?_) (fun h => by simp at h)⟩
      refine (lives_spec w51).mono ?_
      rintro e w53 ⟨rfl, x53⟩
      exact ⟨_, rfl, rfl, (xq.tr x51).tr x53⟩
end Go.Proofs.Ytbphdgiepimmkaa
