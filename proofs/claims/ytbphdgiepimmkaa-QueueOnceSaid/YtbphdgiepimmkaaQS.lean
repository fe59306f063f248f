import Derived.Test.YtbphdgiepimmkaaQO
import Derived.Test.YtbphdgiepimmkaaQPB
set_option linter.all false
namespace Go.Proofs.Ytbphdgiepimmkaa
open Go Go.Vc Go.RowKit Go.Proofs Go.Que

/-- A slice of integers that came in. -/
abbrev RdI (w : World) (s : Sl) (z : List Int) : Prop := RdK w s 1 (z.map fun n => [.int .i64 n])
theorem RdI.len {w : World} {s : Sl} {z : List Int} (h : RdI w s z) : s.n = z.length := by rw [h.n, List.length_map]
theorem RdI.get {w : World} {s : Sl} {z : List Int} (h : RdI w s z) {i : Nat} {v : Int} (hi : z[i]? = some v) : ld w (padd s.a (i * 1)) = some (.int .i64 v) := by
  have := h.rd i [.int .i64 v] (by rw [List.getElem?_map, hi]; rfl) 0 _ rfl
  simpa using this
theorem RdI.inB {w : World} {s : Sl} {z : List Int} (h : RdI w s z) {i : Nat} (hi : i < z.length) : InB s.a (i : Int) s.n := ⟨h.isSome (by decide) (i := i) (by simpa using hi), by omega, by rw [h.len]; omega⟩
theorem fq_zero (r : Int) (f : Nat → Int) (hr : 1 ≤ r ∧ r ≤ 4096) : (⟨min (max r 1) 4096, 0, []⟩ : QS) = fq r f 0 := by
  show _ = (⟨r, 0, []⟩ : QS)
  congr 1; omega
theorem QueueSplit_law (s : Sl) (z : List Int) (most : Int) (w : World) (hz : RdI w s z) (hzi : ∀ n ∈ z, inI n) (hm : inI most) :
    Calls Try.prog n_law17_QueueSplit #[.slice s.a s.n s.c, .int .i64 most] w fun e w' => e = .returned (.bool true) ∧ Ext w w' := by
  apply law17_QueueSplit.vc
  refine (around_spec most 8 w hm (by decide) (by unfold inI; omega)).mono ?_
  rintro e w0 ⟨rfl, rfl⟩
  have hbd := around_bd most 8 (by decide)
  generalize around most 8 = mm at hbd
  refine ⟨_, rfl, (New_spec 100 w0).mono ?_⟩
  rintro e w2 ⟨ga, ma, rfl, ha, xa, hga, hma⟩
  refine ⟨_, rfl, (New_spec 100 w2).mono ?_⟩
  rintro e w4 ⟨gb, mb, rfl, hb, xb, hgb, hmb⟩
  refine ⟨_, rfl, Br.mk (fun h => by cases h) (fun _ => Br.mk (fun h => by cases h) (fun _ => ?_))⟩
  have hw1 : IntKind.wrap .i64 (1 + mm) = 1 + mm := wrap_in (by unfold inI; omega)
  rw [hw1]
  let f : Nat → Int := fun i => around (z[i]?.getD 0) 10
  have hf : ∀ i, 0 ≤ f i ∧ f i < 10 := fun i => around_bd _ 10 (by decide)
  have e0 : (⟨min (max 100 1) 4096, 0, []⟩ : QS) = fq 100 f 0 := fq_zero 100 f (by omega)
  rw [e0] at ha hb
  have hlen := RdI.len hz
  have hN : ∃ N : Nat, (N : Int) = (if 25 < ((s.n : Nat) : Int) then 25 else ((s.n : Nat) : Int)) ∧ N ≤ 25 ∧ N ≤ z.length := by
    refine ⟨min 25 s.n, ?_, by omega, by omega⟩
    split <;> omega
  obtain ⟨N, hNe, hN25, hNz⟩ := hN
  rw [← hNe]
  refine ⟨fun n x wr => ∃ i : Nat, x = i ∧ i + n = N ∧ ∃ sa sb, QIs wr ga ma sa (fq 100 f i) ∧ QIs wr gb mb sb (fq 100 f i) ∧ Ext w0 wr ∧ (∀ i, Foot ga ma sa i → w0.heap.size ≤ i) ∧ (∀ i, Foot gb mb sb i → w0.heap.size ≤ i) ∧ ∀ i, Foot ga ma sa i → ¬ Foot gb mb sb i,
    ⟨N, 0, rfl, by omega, _, _, ha.ext xb, hb, xa.tr xb, Foot.none hga hma, fun i hi => Nat.le_trans xa.size (Foot.none hgb hmb i hi), fun i hi hj => by
      have h1 := ha.lt i hi
      have h2 := Foot.none hgb hmb i hj
      omega⟩, ?_⟩
  rintro n us x wr ⟨i, rfl, hi, sa, sb, hqa, hqb, xr, fa, fb, hd⟩
  refine Br.mk (fun hc => ?_) (fun hc => ?_)
  · simp only [decide_eq_true_eq] at hc
    have hget : z[i]? = some (z[i]'(by omega)) := List.getElem?_eq_getElem (by omega)
    have hfi : around (z[i]'(by omega)) 10 = f i := by show _ = around (z[i]?.getD 0) 10; rw [hget]; rfl
    have hvi := hzi (z[i]'(by omega)) (List.getElem_mem _)
    generalize z[i]'(by omega) = v at hget hfi hvi
    have hzr := hz.ext xr
    refine ⟨RdI.inB hzr (by omega), v, RdI.get hzr hget, (around_spec v 10 wr hvi (by decide) (by unfold inI; omega)).mono ?_⟩
    rintro e w13 ⟨rfl, rfl⟩
    have F := FQ.of 100 (by omega) f i (by omega)
    have hadd := fq_add 100 (by omega) f i (by omega)
    rw [hfi]
    refine ⟨_, rfl, (Add_spec hqa F.ok (by rw [F.lost]; omega) ((i : Int), 0, 0) (f i)).mono ?_⟩
    rintro e w15 ⟨rfl, sa', ha', ta⟩
    obtain ⟨xa', fa'⟩ := ta.fresh xr fa
    rw [hadd] at ha'
    have hqb' := hqb.keep ta.mod fun i hi hj => hd i hj hi
    have hd' := ta.apart hd hqb.lt
    have hzr' := hz.ext xa'
    refine ⟨_, rfl, RdI.inB hzr' (by omega), v, RdI.get hzr' hget, (around_spec v 10 w15 hvi (by decide) (by unfold inI; omega)).mono ?_⟩
    rintro e w18 ⟨rfl, rfl⟩
    rw [hfi]
    refine ⟨_, rfl, (Add_spec hqb' F.ok (by rw [F.lost]; omega) ((i : Int), 0, 0) (f i)).mono ?_⟩
    rintro e w20 ⟨rfl, sb', hb', tb⟩
    obtain ⟨xb', fb'⟩ := tb.fresh xa' fb
    rw [hadd] at hb'
    have hqa' := ha'.keep tb.mod fun i hi hj => hd' i hi hj
    have hd'' : ∀ i, Foot ga ma sa' i → ¬ Foot gb mb sb' i := fun i hi hj => tb.apart (fun i h1 h2 => hd' i h2 h1) ha'.lt i hj hi
    have hwi : IntKind.wrap .i64 ((i : Int) + 1) = ((i + 1 : Nat) : Int) := by rw [wrap_in (by unfold inI; omega)]; omega
    exact ⟨_, rfl, n - 1, by omega, i + 1, hwi, by omega, sa', sb', hqa', hb', xb', fa', fb', hd''⟩
  · simp only [decide_eq_false_iff_not] at hc
    have hiN : i = N := by omega
    subst hiN
    have F := FQ.of 100 (by omega) f i (by omega)
    have hall : ∀ x ∈ (fq 100 f i).l, x.1 ≤ 9 := fun x hx => by
      obtain ⟨j, _, rfl⟩ := (F.mem x).1 hx
      have := hf j
      show f j ≤ 9
      omega
    have hFl := F.len
    have hok := F.ok
    generalize hQ : fq 100 f i = Q at hFl hok hall hqa hqb
    have hc1 : qcount Q.l 9 100 = i := by rw [qcount_all hall, hFl]; omega
    refine (Due_spec hqa hok 9 100).mono ?_
    rintro e w22 ⟨so, rfl, sa', hout, ha', ta⟩
    obtain ⟨xa', fa'⟩ := ta.fresh xr fa
    have hqb' := hqb.keep ta.mod fun i hi hj => hd i hj hi
    have hd' := ta.apart hd hqb.lt
    unfold qdue at hout ha'
    rw [hc1, List.take_of_length_le (by rw [hFl]; omega)] at hout
    rw [hc1, List.drop_of_length_le (by rw [hFl]; omega)] at ha'
    have hson : so.n = i := by rw [(hout.rd (by decide)).n, List.length_map, List.length_map, hFl]
    refine ⟨so, rfl, ?_⟩
    refine ⟨fun n x sp wq => ∃ k : Nat, x = k ∧ k + n = 30 ∧ ∃ sb, QIs wq ga ma sa' { Q with l := [] } ∧ QIs wq gb mb sb { Q with l := Q.l.drop (k * (1 + mm).toNat) } ∧ Ext w0 wq ∧ (∀ i, Foot ga ma sa' i → w0.heap.size ≤ i) ∧ (∀ i, Foot gb mb sb i → w0.heap.size ≤ i) ∧ (∀ i, Foot ga ma sa' i → ¬ Foot gb mb sb i) ∧ w22.heap.size ≤ wq.heap.size ∧
        OwnK wr.heap.size tCell 3 wq so ((Q.l.map (·.2)).map clv) ∧ OwnK w22.heap.size tCell 3 wq sp (((Q.l.take (k * (1 + mm).toNat)).map (·.2)).map clv),
      ⟨30, 0, rfl, rfl, sb, ha', by simpa using hqb', xa', fa', fb, hd', Nat.le_refl _, hout, by simp; exact OwnK.nil⟩, ?_⟩
    rintro n us x sp wq ⟨k, rfl, hk, sb', hqa2, hqb2, x2, fa2, fb2, hd2, z2, hall2, hpart⟩
    have hkk : QOk { Q with l := Q.l.drop (k * (1 + mm).toNat) } := by
      have hsub := List.drop_sublist (k * (1 + mm).toNat) Q.l
      have h1 := hsub.length_le
      have h2 := hok.len
      exact ⟨hok.room, by show (((Q.l.drop _).length : Nat) : Int) ≤ Q.room; omega, hok.sorted.sublist hsub, (hsub.map _).nodup hok.nodup⟩
    have hsob : ∀ b, so.blk = some b → b < w22.heap.size := fun b hb => (hout.own.lt hb).2
    refine Br.mk (fun hc => ?_) (fun hc => ?_)
    · simp only [decide_eq_true_eq] at hc
      have hc2 : qcount (Q.l.drop (k * (1 + mm).toNat)) 9 (1 + mm) = min (Q.l.drop (k * (1 + mm).toNat)).length (1 + mm).toNat := qcount_all fun x hx => hall x (List.mem_of_mem_drop hx)
      refine (Due_spec hqb2 hkk 9 (1 + mm)).mono ?_
      rintro e w31 ⟨s32, rfl, sb3, ho3, hb3, tb⟩
      obtain ⟨xb3, fb3⟩ := tb.fresh x2 fb2
      unfold qdue at ho3 hb3
      simp only [hc2] at ho3 hb3
      generalize hM : (1 + mm).toNat = M at *
      have htk : (Q.l.drop (k * M)).take (min (Q.l.drop (k * M)).length M) = (Q.l.drop (k * M)).take M := by
        rw [List.take_eq_take_iff]; omega
      have hdr : (Q.l.drop (k * M)).drop (min (Q.l.drop (k * M)).length M) = Q.l.drop ((k + 1) * M) := by
        rw [List.drop_drop]
        rcases Nat.lt_or_ge (Q.l.drop (k * M)).length M with h | h
        · rw [Nat.min_eq_left (by omega), List.drop_of_length_le (by simp at h ⊢; omega), List.drop_of_length_le (by rw [Nat.succ_mul]; simp at h; omega)]
        · rw [Nat.min_eq_right h, Nat.succ_mul]
      rw [htk] at ho3
      rw [hdr] at hb3
      have hqa3 := hqa2.keep tb.mod fun i hi hj => hd2 i hi hj
      have hd3 : ∀ i, Foot ga ma sa' i → ¬ Foot gb mb sb3 i := fun i hi hj => tb.apart (fun i h1 h2 => hd2 i h2 h1) hqa2.lt i hj hi
      have hall3 := tb.mod.ownK hall2 fun b hb => hqb2.no_own hall2 (by decide) (by decide) (by decide) b hb
      have hpart3 := tb.mod.ownK hpart fun b hb => hqb2.no_own hpart (by decide) (by decide) (by decide) b hb
      have hn3 : s32.n = (((Q.l.drop (k * M)).take M).map (·.2)).length := by rw [(ho3.rd (by decide)).n, List.length_map]
      have hnp : sp.n = (((Q.l.take (k * M)).map (·.2))).length := by rw [(hpart.rd (by decide)).n, List.length_map]
      have hl3 : s32.n ≤ 100 := by rw [hn3]; simp; omega
      have hlp : sp.n ≤ 100 := by rw [hnp]; simp; omega
      obtain ⟨c1, c2⟩ := hpart3.appN (bytes := 24) (more := (((Q.l.drop (k * M)).take M).map (·.2)).map clv) (by have := tb.mod.size; omega) (by intro r hr; obtain ⟨_, _, rfl⟩ := List.mem_map.1 hr; rfl) (by intro r hr; obtain ⟨_, _, rfl⟩ := List.mem_map.1 hr; exact clv_one _) (by rw [List.length_map, ← hn3]; omega) (by rw [List.length_map, ← hn3]; omega)
      rw [List.length_map, ← hn3] at c1 c2
      refine ⟨s32, rfl, _, (ho3.rd (by decide)).flat (by decide), c1, fun s34 w35 hres => ?_⟩
      obtain ⟨d1, d2, d3, d4, d5⟩ := c2 s34 w35 hres
      have hwk : IntKind.wrap .i64 ((k : Int) + 1) = ((k + 1 : Nat) : Int) := by rw [wrap_in (by unfold inI; omega)]; omega
      have hm35 : Mod (fun i => sp.blk = some i) w31 w35 := ⟨d3.os, d3.tape, d3.output, d3.size, fun i hi hn => d4 i hn hi⟩
      have z35 := d3.size
      have z31 := tb.mod.size
      have hspb : ∀ b, sp.blk = some b → w22.heap.size ≤ b := fun b hb => (hpart.own.lt hb).1
      have z22 := xa'.size
      refine ⟨n - 1, by omega, k + 1, hwk, by omega, sb3, hqa3.keep hm35 fun b hb hs => hqa3.no_own hpart3 (by decide) (by decide) (by decide) b hs hb, hb3.keep hm35 fun b hb hs => hb3.no_own hpart3 (by decide) (by decide) (by decide) b hs hb,
        hm35.ext xb3 (fun b hb => Nat.le_trans z22 (hspb b hb)), fa2, fb3, hd3, by omega, hm35.ownK hall3 fun b hb hs => ?_, ?_⟩
      · have := hsob b hb
        have := hspb b hs; omega
      · have e : Q.l.take ((k + 1) * M) = Q.l.take (k * M) ++ (Q.l.drop (k * M)).take M := by rw [Nat.succ_mul, List.take_add]
        rw [e, List.map_append, List.map_append]; exact d1
    · simp only [decide_eq_false_iff_not] at hc
      have hk30 : k = 30 := by omega
      subst hk30
      have hbig : i ≤ 30 * (1 + mm).toNat := by
        have : 1 ≤ (1 + mm).toNat := by omega
        have := Nat.mul_le_mul_left 30 this
        omega
      rw [List.take_of_length_le (by rw [hFl]; omega)] at hpart
      rw [List.drop_of_length_le (by rw [hFl]; omega)] at hqb2
      refine Br.mk (fun _ => ?_) (fun h => ?_)
      · refine (rSame_spec (hall2.rd (by decide)) (hpart.rd (by decide)) (by rw [List.length_map, hFl]; omega)).mono ?_
        rintro e w36 ⟨rfl, x36⟩
        refine ⟨_, rfl, Br.mk (fun _ => ?_) (fun h => by simp at h)⟩
        refine (Len_spec (hqa2.ext x36)).mono ?_
        rintro e w38 ⟨rfl, x38⟩
        refine ⟨_, rfl, Br.mk (fun _ => ?_) (fun h => by simp at h)⟩
        refine (Len_spec ((hqb2.ext x36).ext x38)).mono ?_
        rintro e w40 ⟨rfl, x40⟩
        refine ⟨_, rfl, Br.mk (fun _ => ?_) (fun h => by simp at h)⟩
        refine (lives_spec w40).mono ?_
        rintro e w42 ⟨rfl, x42⟩
        exact ⟨_, rfl, rfl, (((x2.tr x36).tr x38).tr x40).tr x42⟩
      · rw [hson] at h; simp at h
end Go.Proofs.Ytbphdgiepimmkaa
