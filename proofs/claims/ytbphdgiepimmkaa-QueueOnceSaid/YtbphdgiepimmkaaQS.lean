import Derived.Test.YtbphdgiepimmkaaQC
import Derived.Test.YtbphdgiepimmkaaP
set_option linter.all false
namespace Go.Proofs.Ytbphdgiepimmkaa
open Go Go.Vc Go.RowKit Go.Proofs Go.Que

theorem rq_qok {r : Int} (hr : 1 ≤ r ∧ r ≤ 4096) : ∀ i : Nat, QOk (rq r i)
  | 0 => by
    have e : rq r 0 = ⟨r, 0, []⟩ := by unfold rq; congr 1; omega
    rw [e]; exact QOk.empty hr
  | i + 1 => by
    have := (rq_qok hr i).add (0, 0, (i : Int)) (-(i : Int))
    rw [rq_add r hr.1 i] at this; exact this
theorem QueueRoom_law (a n : Int) (ha : inI a) (hn : inI n) (w : World) : Calls Try.prog n_law17_QueueRoom #[.int .i64 a, .int .i64 n] w fun e w' => e = .returned (.bool true) ∧ Ext w w' := by
  apply law17_QueueRoom.vc
  refine (around_spec n 81 w hn (by decide) (by unfold inI; omega)).mono ?_
  rintro e w0 ⟨rfl, rfl⟩
  refine ⟨_, rfl, (New_spec _ w0).mono ?_⟩
  have hbd := around_bd n 81 (by decide)
  generalize around n 81 = m at hbd
  obtain ⟨k, rfl⟩ := Int.eq_ofNat_of_zero_le hbd.1
  rintro e w2 ⟨g, mm, rfl, h0, x0, hg, hm⟩
  have hr : ∃ r : Int, r = (if 1 > (if 50 < a then 50 else a) then 1 else (if 50 < a then 50 else a)) ∧ 1 ≤ r ∧ r ≤ 50 := ⟨_, rfl, by split <;> split <;> omega, by split <;> split <;> omega⟩
  obtain ⟨r, hre, hr1, hr50⟩ := hr
  have hq0 : (⟨min (max (if 50 < a then 50 else a) 1) 4096, 0, []⟩ : QS) = rq r 0 := by
    unfold rq
    have : min (max (if 50 < a then 50 else a) 1) 4096 = r := by rw [hre]; split <;> split <;> omega
    rw [this]
    congr 1; omega
  rw [hq0] at h0
  refine ⟨_, rfl, Br.mk (fun h => by cases h) (fun _ => ?_)⟩
  rw [← hre]
  refine ⟨fun b x wr => ∃ i : Nat, x = i ∧ i + b = k ∧ ∃ s, QIs wr g mm s (rq r i) ∧ Ext w0 wr ∧ ∀ i, Foot g mm s i → w0.heap.size ≤ i, ⟨k, 0, rfl, by omega, _, h0, x0, Foot.none hg hm⟩, ?_⟩
  rintro b us x wr ⟨i, rfl, hi, s, hs, xr, fr⟩
  have hok := rq_qok ⟨hr1, by omega⟩ i
  refine Br.mk (fun hc => ?_) (fun hc => ?_)
  · simp only [decide_eq_true_eq] at hc
    have hw : IntKind.wrap .i64 (0 - (i : Int)) = -(i : Int) := by rw [wrap_in (by unfold inI; omega)]; omega
    have hwi : IntKind.wrap .i64 ((i : Int) + 1) = ((i + 1 : Nat) : Int) := by rw [wrap_in (by unfold inI; omega)]; omega
    rw [hw, hwi]
    refine (Add_spec hs hok ⟨by show 0 ≤ max ((i : Int) - r) 0; omega, by show max ((i : Int) - r) 0 ≤ _; omega⟩ (0, 0, (i : Int)) (-(i : Int))).mono ?_
    rintro e w10 ⟨rfl, s', h', t'⟩
    obtain ⟨x', f'⟩ := t'.fresh xr fr
    rw [rq_add r hr1 i] at h' ⊢
    refine ⟨_, rfl, Br.mk (fun hb => by simp at hb) (fun _ => ⟨b - 1, by omega, i + 1, rfl, by omega, s', h', x', f'⟩)⟩
  · simp only [decide_eq_false_iff_not] at hc
    have hik : i = k := by omega
    subst hik
    refine (Next_spec hs).mono ?_
    rintro e w12 ⟨rfl, x12⟩
    refine ⟨_, _, _, _, _, rfl, ?_⟩
    intro w18 e18 w19 e19
    have x19 : Ext w12 w19 := ((Ext.rfl' _).of_alloc e18).of_setRow e19 (Nat.le_refl _)
    have z19 : w19.heap.size = w12.heap.size + 1 := by rw [e19, setRow_size, e18]; simp
    have h19 := (hs.ext x12).ext x19
    obtain ⟨hd1, hd2⟩ := rq_head r hr1 i
    refine (Len_spec h19).mono ?_
    rintro e w20 ⟨rfl, x20⟩
    refine ⟨_, rfl, x20.heap (by omega), Br.mk (fun hb => ?_) (fun hb => ?_)⟩
    · refine (Lost_spec (h19.ext x20)).mono ?_
      rintro e w22 ⟨rfl, x22⟩
      have z20 := x20.size
      have z22 := x22.size
      refine ⟨_, rfl, x22.heap (by omega), Br.mk (fun hb2 => Br.mk (fun hb3 => Br.mk (fun hb4 => ?_) (fun hb4 => Br.mk (fun hb5 => ?_) (fun hb5 => ?_))) (fun hb3 => ?_)) (fun hb2 => ?_)⟩
      · refine (lives_spec w22).mono ?_
        rintro e w24 ⟨rfl, x24⟩
        exact ⟨_, rfl, x24.heap (by omega), rfl, ((((xr.tr x12).tr x19).tr x20).tr x22).tr x24⟩
      · refine (lives_spec w22).mono ?_
        rintro e w24 ⟨rfl, x24⟩
        exact ⟨_, rfl, x24.heap (by omega), rfl, ((((xr.tr x12).tr x19).tr x20).tr x22).tr x24⟩
      · exfalso
        rw [hd1] at hb4
        have hpos : 0 < i := by
          rcases Nat.eq_zero_or_pos i with h | h
          · subst h; simp at hb4
          · exact h
        have := hd2 hpos
        rw [wrap_in (by unfold inI; split <;> omega)] at hb5
        simp only [beq_eq_false_iff_ne, ne_eq] at hb5
        exact hb5 (this.trans (by split <;> omega))
      · exfalso
        rw [hd1] at hb3
        simp at hb3
        omega
      · exfalso
        rw [wrap_in (by unfold inI; omega)] at hb2
        simp only [beq_eq_false_iff_ne, ne_eq] at hb2
        exact hb2 (by show max ((i : Int) - r) 0 = _; split <;> omega)
    · exfalso
      rw [rq_len] at hb
      simp only [beq_eq_false_iff_ne, ne_eq] at hb
      exact hb (by split <;> omega)
end Go.Proofs.Ytbphdgiepimmkaa
namespace Go.Proofs.Ytbphdgiepimmkaa
open Go Go.Vc Go.RowKit Go.Proofs Go.Que

/-- A slice of integers that came in. -/
abbrev RdI (w : World) (s : Sl) (z : List Int) : Prop := RdK w s 1 (z.map fun n => [.int .i64 n])
theorem RdI.len {w : World} {s : Sl} {z : List Int} (h : RdI w s z) : s.n = z.length := by rw [h.n, List.length_map]
theorem RdI.get {w : World} {s : Sl} {z : List Int} (h : RdI w s z) {i : Nat} {v : Int} (hi : z[i]? = some v) : ld w (padd s.a (i * 1)) = some (.int .i64 v) := by
  have := h.rd i [.int .i64 v] (by rw [List.getElem?_map, hi]; rfl) 0 _ rfl
  simpa using this
theorem RdI.inB {w : World} {s : Sl} {z : List Int} (h : RdI w s z) {i : Nat} (hi : i < z.length) : InB s.a (i : Int) s.n := ⟨h.isSome (by decide) (i := i) (by simpa using hi), by omega, by rw [h.len]; omega⟩
theorem fq_zero (r : Int) (f : Nat → Int) (hr : 1 ≤ r ∧ r ≤ 4096) : (⟨min (max r 1) 4096, 0, []⟩ : QS) = fq r f 0 := by
  show _ = (⟨r, 0, []⟩ : QS)
  congr 1; omega
theorem QueueSplit_law (s : Sl) (z : List Int) (most : Int) (w : World) (hz : RdI w s z) (hzi : ∀ n ∈ z, inI n) (hm : inI most) :
    Calls Try.prog n_law17_QueueSplit #[.slice s.a s.n s.c, .int .i64 most] w fun e w' => e = .returned (.bool true) ∧ Ext w w' := by
  apply law17_QueueSplit.vc
  refine (around_spec most 8 w hm (by decide) (by unfold inI; omega)).mono ?_
  rintro e w0 ⟨rfl, rfl⟩
  have hbd := around_bd most 8 (by decide)
  generalize around most 8 = mm at hbd
  refine ⟨_, rfl, (New_spec 100 w0).mono ?_⟩
  rintro e w2 ⟨ga, ma, rfl, ha, xa, hga, hma⟩
  refine ⟨_, rfl, (New_spec 100 w2).mono ?_⟩
  rintro e w4 ⟨gb, mb, rfl, hb, xb, hgb, hmb⟩
  refine ⟨_, rfl, Br.mk (fun h => by cases h) (fun _ => Br.mk (fun h => by cases h) (fun _ => ?_))⟩
  have hw1 : IntKind.wrap .i64 (1 + mm) = 1 + mm := wrap_in (by unfold inI; omega)
  rw [hw1]
  let f : Nat → Int := fun i => around (z[i]?.getD 0) 10
  have hf : ∀ i, 0 ≤ f i ∧ f i < 10 := fun i => around_bd _ 10 (by decide)
  have e0 : (⟨min (max 100 1) 4096, 0, []⟩ : QS) = fq 100 f 0 := fq_zero 100 f (by omega)
  rw [e0] at ha hb
  have hlen := RdI.len hz
  have hN : ∃ N : Nat, (N : Int) = (if 25 < ((s.n : Nat) : Int) then 25 else ((s.n : Nat) : Int)) ∧ N ≤ 25 ∧ N ≤ z.length := by
    refine ⟨min 25 s.n, ?_, by omega, by omega⟩
    split <;> omega
  obtain ⟨N, hNe, hN25, hNz⟩ := hN
  rw [← hNe]
  refine ⟨fun n x wr => ∃ i : Nat, x = i ∧ i + n = N ∧ ∃ sa sb, QIs wr ga ma sa (fq 100 f i) ∧ QIs wr gb mb sb (fq 100 f i) ∧ Ext w0 wr ∧ (∀ i, Foot ga ma sa i → w0.heap.size ≤ i) ∧ (∀ i, Foot gb mb sb i → w0.heap.size ≤ i) ∧ ∀ i, Foot ga ma sa i → ¬ Foot gb mb sb i,
    ⟨N, 0, rfl, by omega, _, _, ha.ext xb, hb, xa.tr xb, Foot.none hga hma, fun i hi => Nat.le_trans xa.size (Foot.none hgb hmb i hi), fun i hi hj => by
      have h1 := ha.lt i hi
      have h2 := Foot.none hgb hmb i hj
      omega⟩, ?_⟩
  rintro n us x wr ⟨i, rfl, hi, sa, sb, hqa, hqb, xr, fa, fb, hd⟩
  refine Br.mk (fun hc => ?_) (fun hc => ?_)
  · simp only [decide_eq_true_eq] at hc
    have hget : z[i]? = some (z[i]'(by omega)) := List.getElem?_eq_getElem (by omega)
    have hfi : around (z[i]'(by omega)) 10 = f i := by show _ = around (z[i]?.getD 0) 10; rw [hget]; rfl
    have hvi := hzi (z[i]'(by omega)) (List.getElem_mem _)
    generalize z[i]'(by omega) = v at hget hfi hvi
    have hzr := hz.ext xr
    refine ⟨RdI.inB hzr (by omega), v, RdI.get hzr hget, (around_spec v 10 wr hvi (by decide) (by unfold inI; omega)).mono ?_⟩
    rintro e w13 ⟨rfl, rfl⟩
    have F := FQ.of 100 (by omega) f i (by omega)
    have hadd := fq_add 100 (by omega) f i (by omega)
    rw [hfi]
    refine ⟨_, rfl, (Add_spec hqa F.ok (by rw [F.lost]; omega) ((i : Int), 0, 0) (f i)).mono ?_⟩
    rintro e w15 ⟨rfl, sa', ha', ta⟩
    obtain ⟨xa', fa'⟩ := ta.fresh xr fa
    rw [hadd] at ha'
    have hqb' := hqb.keep ta.mod fun i hi hj => hd i hj hi
    have hd' := ta.apart hd hqb.lt
    have hzr' := hz.ext xa'
    refine ⟨_, rfl, RdI.inB hzr' (by omega), v, RdI.get hzr' hget, (around_spec v 10 w15 hvi (by decide) (by unfold inI; omega)).mono ?_⟩
    rintro e w18 ⟨rfl, rfl⟩
    rw [hfi]
    refine ⟨_, rfl, (Add_spec hqb' F.ok (by rw [F.lost]; omega) ((i : Int), 0, 0) (f i)).mono ?_⟩
    rintro e w20 ⟨rfl, sb', hb', tb⟩
    obtain ⟨xb', fb'⟩ := tb.fresh xa' fb
    rw [hadd] at hb'
    have hqa' := ha'.keep tb.mod fun i hi hj => hd' i hi hj
    have hd'' : ∀ i, Foot ga ma sa' i → ¬ Foot gb mb sb' i := fun i hi hj => tb.apart (fun i h1 h2 => hd' i h2 h1) ha'.lt i hj hi
    have hwi : IntKind.wrap .i64 ((i : Int) + 1) = ((i + 1 : Nat) : Int) := by rw [wrap_in (by unfold inI; omega)]; omega
    exact ⟨_, rfl, n - 1, by omega, i + 1, hwi, by omega, sa', sb', hqa', hb', xb', fa', fb', hd''⟩
  · simp only [decide_eq_false_iff_not] at hc
    have hiN : i = N := by omega
    subst hiN
    have F := FQ.of 100 (by omega) f i (by omega)
    have hall : ∀ x ∈ (fq 100 f i).l, x.1 ≤ 9 := fun x hx => by
      obtain ⟨j, _, rfl⟩ := (F.mem x).1 hx
      have := hf j
      show f j ≤ 9
      omega
    have hFl := F.len
    have hok := F.ok
    generalize hQ : fq 100 f i = Q at hFl hok hall hqa hqb
    have hc1 : qcount Q.l 9 100 = i := by rw [qcount_all hall, hFl]; omega
    refine (Due_spec hqa hok 9 100).mono ?_
    rintro e w22 ⟨so, rfl, sa', hout, ha', ta⟩
    obtain ⟨xa', fa'⟩ := ta.fresh xr fa
    have hqb' := hqb.keep ta.mod fun i hi hj => hd i hj hi
    have hd' := ta.apart hd hqb.lt
    unfold qdue at hout ha'
    rw [hc1, List.take_of_length_le (by rw [hFl]; omega)] at hout
    rw [hc1, List.drop_of_length_le (by rw [hFl]; omega)] at ha'
    have hson : so.n = i := by rw [(hout.rd (by decide)).n, List.length_map, List.length_map, hFl]
    refine ⟨so, rfl, ?_⟩
    refine ⟨fun n x sp wq => ∃ k : Nat, x = k ∧ k + n = 30 ∧ ∃ sb, QIs wq ga ma sa' { Q with l := [] } ∧ QIs wq gb mb sb { Q with l := Q.l.drop (k * (1 + mm).toNat) } ∧ Ext w0 wq ∧ (∀ i, Foot ga ma sa' i → w0.heap.size ≤ i) ∧ (∀ i, Foot gb mb sb i → w0.heap.size ≤ i) ∧ (∀ i, Foot ga ma sa' i → ¬ Foot gb mb sb i) ∧ w22.heap.size ≤ wq.heap.size ∧
        OwnK wr.heap.size tCell 3 wq so ((Q.l.map (·.2)).map clv) ∧ OwnK w22.heap.size tCell 3 wq sp (((Q.l.take (k * (1 + mm).toNat)).map (·.2)).map clv),
      ⟨30, 0, rfl, rfl, sb, ha', by simpa using hqb', xa', fa', fb, hd', Nat.le_refl _, hout, by simp; exact OwnK.nil⟩, ?_⟩
    rintro n us x sp wq ⟨k, rfl, hk, sb', hqa2, hqb2, x2, fa2, fb2, hd2, z2, hall2, hpart⟩
    have hkk : QOk { Q with l := Q.l.drop (k * (1 + mm).toNat) } := by
      have hsub := List.drop_sublist (k * (1 + mm).toNat) Q.l
      have h1 := hsub.length_le
      have h2 := hok.len
      exact ⟨hok.room, by show (((Q.l.drop _).length : Nat) : Int) ≤ Q.room; omega, hok.sorted.sublist hsub, (hsub.map _).nodup hok.nodup⟩
    have hsob : ∀ b, so.blk = some b → b < w22.heap.size := fun b hb => (hout.own.lt hb).2
    refine Br.mk (fun hc => ?_) (fun hc => ?_)
    · simp only [decide_eq_true_eq] at hc
      have hc2 : qcount (Q.l.drop (k * (1 + mm).toNat)) 9 (1 + mm) = min (Q.l.drop (k * (1 + mm).toNat)).length (1 + mm).toNat := qcount_all fun x hx => hall x (List.mem_of_mem_drop hx)
      refine (Due_spec hqb2 hkk 9 (1 + mm)).mono ?_
      rintro e w31 ⟨s32, rfl, sb3, ho3, hb3, tb⟩
      obtain ⟨xb3, fb3⟩ := tb.fresh x2 fb2
      unfold qdue at ho3 hb3
      simp only [hc2] at ho3 hb3
      generalize hM : (1 + mm).toNat = M at *
      have htk : (Q.l.drop (k * M)).take (min (Q.l.drop (k * M)).length M) = (Q.l.drop (k * M)).take M := by
        rw [List.take_eq_take_iff]; omega
      have hdr : (Q.l.drop (k * M)).drop (min (Q.l.drop (k * M)).length M) = Q.l.drop ((k + 1) * M) := by
        rw [List.drop_drop]
        rcases Nat.lt_or_ge (Q.l.drop (k * M)).length M with h | h
        · rw [Nat.min_eq_left (by omega), List.drop_of_length_le (by simp at h ⊢; omega), List.drop_of_length_le (by rw [Nat.succ_mul]; simp at h; omega)]
        · rw [Nat.min_eq_right h, Nat.succ_mul]
      rw [htk] at ho3
      rw [hdr] at hb3
      have hqa3 := hqa2.keep tb.mod fun i hi hj => hd2 i hi hj
      have hd3 : ∀ i, Foot ga ma sa' i → ¬ Foot gb mb sb3 i := fun i hi hj => tb.apart (fun i h1 h2 => hd2 i h2 h1) hqa2.lt i hj hi
      have hall3 := tb.mod.ownK hall2 fun b hb => hqb2.no_own hall2 (by decide) (by decide) (by decide) b hb
      have hpart3 := tb.mod.ownK hpart fun b hb => hqb2.no_own hpart (by decide) (by decide) (by decide) b hb
      have hn3 : s32.n = (((Q.l.drop (k * M)).take M).map (·.2)).length := by rw [(ho3.rd (by decide)).n, List.length_map]
      have hnp : sp.n = (((Q.l.take (k * M)).map (·.2))).length := by rw [(hpart.rd (by decide)).n, List.length_map]
      have hl3 : s32.n ≤ 100 := by rw [hn3]; simp; omega
      have hlp : sp.n ≤ 100 := by rw [hnp]; simp; omega
      obtain ⟨c1, c2⟩ := hpart3.appN (bytes := 24) (more := (((Q.l.drop (k * M)).take M).map (·.2)).map clv) (by have := tb.mod.size; omega) (by intro r hr; obtain ⟨_, _, rfl⟩ := List.mem_map.1 hr; rfl) (by intro r hr; obtain ⟨_, _, rfl⟩ := List.mem_map.1 hr; exact clv_one _) (by rw [List.length_map, ← hn3]; omega) (by rw [List.length_map, ← hn3]; omega)
      rw [List.length_map, ← hn3] at c1 c2
      refine ⟨s32, rfl, _, (ho3.rd (by decide)).flat (by decide), c1, fun s34 w35 hres => ?_⟩
      obtain ⟨d1, d2, d3, d4, d5⟩ := c2 s34 w35 hres
      have hwk : IntKind.wrap .i64 ((k : Int) + 1) = ((k + 1 : Nat) : Int) := by rw [wrap_in (by unfold inI; omega)]; omega
      have hm35 : Mod (fun i => sp.blk = some i) w31 w35 := ⟨d3.os, d3.tape, d3.output, d3.size, fun i hi hn => d4 i hn hi⟩
      have z35 := d3.size
      have z31 := tb.mod.size
      have hspb : ∀ b, sp.blk = some b → w22.heap.size ≤ b := fun b hb => (hpart.own.lt hb).1
      have z22 := xa'.size
      refine ⟨n - 1, by omega, k + 1, hwk, by omega, sb3, hqa3.keep hm35 fun b hb hs => hqa3.no_own hpart3 (by decide) (by decide) (by decide) b hs hb, hb3.keep hm35 fun b hb hs => hb3.no_own hpart3 (by decide) (by decide) (by decide) b hs hb,
        hm35.ext xb3 (fun b hb => Nat.le_trans z22 (hspb b hb)), fa2, fb3, hd3, by omega, hm35.ownK hall3 fun b hb hs => ?_, ?_⟩
      · have := hsob b hb
        have := hspb b hs; omega
      · have e : Q.l.take ((k + 1) * M) = Q.l.take (k * M) ++ (Q.l.drop (k * M)).take M := by rw [Nat.succ_mul, List.take_add]
        rw [e, List.map_append, List.map_append]; exact d1
    · simp only [decide_eq_false_iff_not] at hc
      have hk30 : k = 30 := by omega
      subst hk30
      have hbig : i ≤ 30 * (1 + mm).toNat := by
        have : 1 ≤ (1 + mm).toNat := by omega
        have := Nat.mul_le_mul_left 30 this
        omega
      rw [List.take_of_length_le (by rw [hFl]; omega)] at hpart
      rw [List.drop_of_length_le (by rw [hFl]; omega)] at hqb2
      refine Br.mk (fun _ => ?_) (fun h => ?_)
      · refine (rSame_spec (hall2.rd (by decide)) (hpart.rd (by decide)) (by rw [List.length_map, hFl]; omega)).mono ?_
        rintro e w36 ⟨rfl, x36⟩
        refine ⟨_, rfl, Br.mk (fun _ => ?_) (fun h => by simp at h)⟩
        refine (Len_spec (hqa2.ext x36)).mono ?_
        rintro e w38 ⟨rfl, x38⟩
        refine ⟨_, rfl, Br.mk (fun _ => ?_) (fun h => by simp at h)⟩
        refine (Len_spec ((hqb2.ext x36).ext x38)).mono ?_
        rintro e w40 ⟨rfl, x40⟩
        refine ⟨_, rfl, Br.mk (fun _ => ?_) (fun h => by simp at h)⟩
        refine (lives_spec w40).mono ?_
        rintro e w42 ⟨rfl, x42⟩
        exact ⟨_, rfl, rfl, (((x2.tr x36).tr x38).tr x40).tr x42⟩
      · rw [hson] at h; simp at h
end Go.Proofs.Ytbphdgiepimmkaa
namespace Go.Proofs.Ytbphdgiepimmkaa
open Go Go.Vc Go.RowKit Go.Proofs Go.Que

theorem QueueOnce_law (s : Sl) (z : List Int) (most : Int) (w : World) (hz : RdI w s z) (hzi : ∀ n ∈ z, inI n) (hm : inI most) :
    Calls Try.prog n_law17_QueueOnce #[.slice s.a s.n s.c, .int .i64 most] w fun e w' => e = .returned (.bool true) ∧ Ext w w' := by
  apply law17_QueueOnce.vc
  refine (around_spec most 10 w hm (by decide) (by unfold inI; omega)).mono ?_
  rintro e w0 ⟨rfl, rfl⟩
  have hbd := around_bd most 10 (by decide)
  generalize around most 10 = mm at hbd
  refine ⟨_, rfl, (New_spec 100 w0).mono ?_⟩
  rintro e w2 ⟨g, m, rfl, h2, x2, hg, hm2⟩
  refine ⟨_, rfl, Br.mk (fun h => by cases h) (fun _ => ⟨by decide, ?_⟩)⟩
  intro w4 e4
  have hw1 : IntKind.wrap .i64 (1 + mm) = 1 + mm := wrap_in (by unfold inI; omega)
  rw [hw1]
  let f : Nat → Int := fun i => around (z[i]?.getD 0) 40
  have hf : ∀ i, 0 ≤ f i ∧ f i < 40 := fun i => around_bd _ 40 (by decide)
  have e0 : (⟨min (max 100 1) 4096, 0, []⟩ : QS) = fq 100 f 0 := fq_zero 100 f (by omega)
  rw [e0] at h2
  have hlen := RdI.len hz
  have hN : ∃ N : Nat, (N : Int) = (if 30 < ((s.n : Nat) : Int) then 30 else ((s.n : Nat) : Int)) ∧ N ≤ 30 ∧ N ≤ z.length := by
    refine ⟨min 30 s.n, ?_, by omega, by omega⟩
    split <;> omega
  obtain ⟨N, hNe, hN30, hNz⟩ := hN
  rw [← hNe]
  have x4 : Ext w2 w4 := (Ext.rfl' _).of_alloc e4
  have hT4 : Row w4 w2.heap.size (toldV []) 3 := by rw [e4, toldV_nil]; exact Row.new _ _ _
  have zT := x2.size
  generalize w2.heap.size = T at hT4 zT
  have hfv : ∀ {v : Int} {i : Nat}, z[i]? = some v → around v 40 = f i ∧ inI v := fun {v i} hv => ⟨by show _ = around (z[i]?.getD 0) 40; rw [hv]; rfl, hzi v (List.mem_of_getElem? hv)⟩
  refine ⟨fun n x wr => ∃ i : Nat, x = i ∧ i + n = N ∧ ∃ sq, QIs wr g m sq (fq 100 f i) ∧ Ext w0 wr ∧ (∀ i, Foot g m sq i → w0.heap.size ≤ i) ∧ Row wr T (toldV []) 3,
    ⟨N, 0, rfl, by omega, _, h2.ext x4, x2.tr x4, Foot.none hg hm2, hT4⟩, ?_⟩
  rintro n us x wr ⟨i, rfl, hi, sq, hq, xr, fr, hT⟩
  refine Br.mk (fun hc => ?_) (fun hc => ?_)
  · simp only [decide_eq_true_eq] at hc
    have hget : z[i]? = some (z[i]'(by omega)) := List.getElem?_eq_getElem (by omega)
    generalize z[i]'(by omega) = v at hget
    obtain ⟨hfi, hvi⟩ := hfv hget
    have hzr := hz.ext xr
    refine ⟨RdI.inB hzr (by omega), v, RdI.get hzr hget, (around_spec v 40 wr hvi (by decide) (by unfold inI; omega)).mono ?_⟩
    rintro e w13 ⟨rfl, rfl⟩
    have F := FQ.of 100 (by omega) f i (by omega)
    have hadd := fq_add 100 (by omega) f i (by omega)
    rw [hfi]
    refine ⟨_, rfl, (Add_spec hq F.ok (by rw [F.lost]; omega) ((i : Int), 0, 0) (f i)).mono ?_⟩
    rintro e w14 ⟨rfl, sq', hq', tq⟩
    obtain ⟨xq, fq'⟩ := tq.fresh xr fr
    rw [hadd] at hq' ⊢
    have hwi : IntKind.wrap .i64 ((i : Int) + 1) = ((i + 1 : Nat) : Int) := by rw [wrap_in (by unfold inI; omega)]; omega
    exact ⟨_, rfl, Br.mk (fun h => by cases h) (fun _ => ⟨n - 1, by omega, i + 1, hwi, by omega, sq', hq', xq, fq', tq.mod.row hT (hq.no_row hT (by decide) (by decide))⟩)⟩
  simp only [decide_eq_false_iff_not] at hc
  have hiN : i = N := by omega
  subst hiN
  have F := FQ.of 100 (by omega) f i (by omega)
  have hFl := F.len
  have hok := F.ok
  have hmem := F.mem
  generalize hQ : fq 100 f i = Q at hFl hok hmem hq
  have hcell : ∀ x ∈ Q.l, ∃ j : Nat, x.2 = ((j : Int), 0, 0) := fun x hx => by
    obtain ⟨j, _, rfl⟩ := (hmem x).1 hx
    exact ⟨j, rfl⟩
  have hkk : ∀ p, QOk { Q with l := Q.l.drop p } := fun p => by
    have hsub := List.drop_sublist p Q.l
    have h1 := hsub.length_le
    have h2 := hok.len
    exact ⟨hok.room, by show (((Q.l.drop _).length : Nat) : Int) ≤ Q.room; omega, hok.sorted.sublist hsub, (hsub.map _).nodup hok.nodup⟩
  refine ⟨fun n x y wq => ∃ t p : Nat, x = t ∧ t + n = 80 ∧ p ≤ Q.l.length ∧ (p = Q.l.length ∨ t ≤ 40 + p) ∧ (∀ x ∈ Q.l.drop p, y ≤ x.1) ∧ ∃ sq, QIs wq g m sq { Q with l := Q.l.drop p } ∧ Ext w0 wq ∧ (∀ i, Foot g m sq i → w0.heap.size ≤ i) ∧ Row wq T (toldV (Q.l.take p)) 3,
    ⟨80, 0, 0, rfl, rfl, Nat.zero_le _, .inr (by omega), fun x hx => by
      obtain ⟨j, _, rfl⟩ := (hmem x).1 (by simpa using hx)
      have := hf j
      show -1 ≤ f j
      omega, sq, by simpa using hq, xr, fr, by simpa using hT⟩, ?_⟩
  rintro n us x y wq ⟨t, p, rfl, ht, hp, hprog, hlast, sq', hq', xq, fq', hT'⟩
  refine Br.mk (fun hc => ?_) (fun hc => ?_)
  · simp only [decide_eq_true_eq] at hc
    refine (Due_spec hq' (hkk p) t (1 + mm)).mono ?_
    rintro e w23 ⟨so, rfl, s3, hout, h3, t3⟩
    obtain ⟨x3, f3⟩ := t3.fresh xq fq'
    have hT3 := t3.mod.row hT' (hq'.no_row hT' (by decide) (by decide))
    unfold qdue at hout h3
    simp only at hout h3
    have hcl := qcount_le (Q.l.drop p) t (1 + mm)
    have hcm : qcount (Q.l.drop p) t (1 + mm) ≤ (1 + mm).toNat := by unfold qcount; omega
    have hat : ∀ {j : Nat} {x : It}, Q.l[p + j]? = some x → (j < qcount (Q.l.drop p) t (1 + mm) ↔ (j : Int) < 1 + mm ∧ x.1 ≤ t) := fun {j x} hx => qcount_at (hkk p) t (1 + mm) (by show (Q.l.drop p)[j]? = _; rw [List.getElem?_drop]; exact hx)
    generalize qcount (Q.l.drop p) t (1 + mm) = cnt at hout h3 hcl hcm hat
    rw [List.length_drop] at hcl
    rw [List.drop_drop] at h3
    have hson : so.n = cnt := by rw [(hout.rd (by decide)).n, List.length_map, List.length_map, List.length_take, List.length_drop]; omega
    refine ⟨so, rfl, Br.mk (fun h => ?_) (fun _ => ?_)⟩
    · simp only [decide_eq_true_eq] at h; omega
    refine ⟨fun n x y wv => ∃ j : Nat, x = j ∧ j + n = cnt ∧ (∀ x ∈ Q.l.drop (p + j), y ≤ x.1) ∧ QIs wv g m s3 { Q with l := Q.l.drop (p + cnt) } ∧ Ext w0 wv ∧ OwnK wq.heap.size tCell 3 wv so ((((Q.l.drop p).take cnt).map (·.2)).map clv) ∧ Row wv T (toldV (Q.l.take (p + j))) 3,
      ⟨cnt, 0, rfl, by omega, by simpa using hlast, h3, x3, hout, by simpa using hT3⟩, ?_⟩
    rintro n2 us x y wv ⟨j, rfl, hj, hlast2, hqv, xv, hov, hTv⟩
    refine Br.mk (fun hc2 => ?_) (fun hc2 => ?_)
    · simp only [decide_eq_true_eq] at hc2
      have hget : Q.l[p + j]? = some (Q.l[p + j]'(by omega)) := List.getElem?_eq_getElem (by omega)
      have hcons : Q.l.drop (p + j) = Q.l[p + j]'(by omega) :: Q.l.drop (p + j + 1) := List.drop_eq_getElem_cons (by omega)
      have hmm := (hmem (Q.l[p + j]'(by omega))).1 (List.getElem_mem _)
      generalize Q.l[p + j]'(by omega) = it at hget hcons hmm
      obtain ⟨k, hk, hit⟩ := hmm
      have hat' := (hat hget).1 (by omega)
      have hit1 : it.1 = f k := by rw [hit]
      have hit2 : it.2.1 = (k : Int) := by rw [hit]
      have hrd := hov.rd (by decide)
      have hget2 : ((((Q.l.drop p).take cnt).map (·.2)).map clv)[j]? = some (clv it.2) := by
        rw [List.getElem?_map, List.getElem?_map, List.getElem?_take, if_pos (by omega), List.getElem?_drop, hget]; rfl
      have hs := hrd.isSome (by decide) (i := j) (by simp; omega)
      have hgz : z[k]? = some (z[k]'(by omega)) := List.getElem?_eq_getElem (by omega)
      generalize z[k]'(by omega) = v at hgz
      obtain ⟨hfk, hvi⟩ := hfv hgz
      have hzv := hz.ext xv
      have hkb := RdI.inB hzv (i := k) (by omega)
      refine ⟨⟨hs, by omega, by omega⟩, AndL_iff.2 ⟨nnC_iff.2 (by rw [padd_isSome]; exact hs), (k : Int), by rw [← hit2]; exact hrd.at (i := j) hget2 rfl, Br.mk (fun h => ?_) (fun _ => Br.mk (fun h => ?_) (fun _ => ⟨hkb, v, RdI.get hzv hgz, (around_spec v 40 wv hvi (by decide) (by unfold inI; omega)).mono ?_⟩))⟩⟩
      · simp only [decide_eq_true_eq] at h; omega
      · simp only [decide_eq_true_eq, ge_iff_le] at h; omega
      rintro e w34 ⟨rfl, rfl⟩
      rw [hfk]
      refine ⟨_, rfl, Br.mk (fun h => ?_) (fun _ => ⟨hkb, v, RdI.get hzv hgz, (around_spec v 40 w34 hvi (by decide) (by unfold inI; omega)).mono ?_⟩)⟩
      · simp only [decide_eq_true_eq] at h; omega
      rintro e w37 ⟨rfl, rfl⟩
      rw [hfk]
      refine ⟨_, rfl, Br.mk (fun h => ?_) (fun _ => ⟨hkb, v, RdI.get hzv hgz, (around_spec v 40 w37 hvi (by decide) (by unfold inI; omega)).mono ?_⟩)⟩
      · simp only [decide_eq_true_eq] at h
        have := hlast2 it (by rw [hcons]; exact List.mem_cons_self ..)
        omega
      rintro e w40 ⟨rfl, rfl⟩
      rw [hfk]
      have hnot := told_not hok.nodup hcell hget
      have hTg := toldV_get (Q.l.take (p + j)) (k := k) (by omega)
      rw [hit2] at hnot
      rw [hnot] at hTg
      simp only [Bool.false_eq_true, if_false] at hTg
      have hk1 : ((k : Int).toNat * 1) = k := by omega
      rw [hk1]
      obtain ⟨p1, p2⟩ := hTv.put1 (j := k) (v := .int .i64 1) (by rw [toldV_len]; omega) rfl
      have hb30 : InB (some ⟨T, 0, none⟩) (k : Int) (30 : Int).toNat := ⟨rfl, by omega, by show (k : Int) < 30; omega⟩
      refine ⟨_, rfl, hb30, 0, hTv.at k hTg, hb30, ⟨rfl, p1⟩, ?_⟩
      intro w43 e43
      have hwz : IntKind.wrap .i64 (0 + 1) = 1 := by decide
      rw [hwz] at e43
      obtain ⟨q1, q2⟩ := p2 w43 e43
      have hputs : putCells (toldV (Q.l.take (p + j))) k [.int .i64 1] = toldV (Q.l.take (p + j + 1)) := by
        rw [← toldV_set hget hit2 (by omega)]; rfl
      rw [hputs] at q1
      have hwj : IntKind.wrap .i64 ((j : Int) + 1) = ((j + 1 : Nat) : Int) := by rw [wrap_in (by unfold inI; omega)]; omega
      refine ⟨n2 - 1, by omega, j + 1, hwj, by omega, fun x hx => ?_, hqv.keep q2 fun b hb hf => ?_, q2.ext xv (fun b hb => by omega), q2.ownK hov fun b hb hf => ?_, q1⟩
      · have hsrt := hok.sorted.sublist (List.drop_sublist (p + j) Q.l)
        rw [hcons, List.pairwise_cons] at hsrt
        rw [← hit1]
        exact hsrt.1 x hx
      · have : b = T := hf
        exact hqv.no_row hTv (by decide) (by decide) (this ▸ hb)
      · have : b = T := hf
        obtain ⟨cs, hr⟩ := own_row hov (by decide) hb
        exact hr.ne hTv (by decide) this
    · simp only [decide_eq_false_iff_not] at hc2
      have hjc : j = cnt := by omega
      subst hjc
      have hwt : IntKind.wrap .i64 ((t : Int) + 1) = ((t + 1 : Nat) : Int) := by rw [wrap_in (by unfold inI; omega)]; omega
      refine ⟨n - 1, by omega, t + 1, p + j, hwt, by omega, by omega, ?_, hlast2, s3, hqv, xv, f3, hTv⟩
      rcases Nat.lt_or_ge p Q.l.length with h | h
      · rcases Nat.lt_or_ge t 40 with h40 | h40
        · exact .inr (by omega)
        · have hget : Q.l[p + 0]? = some (Q.l[p + 0]'(by omega)) := List.getElem?_eq_getElem (by omega)
          obtain ⟨k, _, hk⟩ := (hmem _).1 (List.getElem_mem (l := Q.l) (n := p + 0) (by omega))
          have h1 : (Q.l[p + 0]'(by omega)).1 = f k := congrArg Prod.fst hk
          have h2 := hf k
          have := (hat hget).2 ⟨by omega, by omega⟩
          rcases hprog with h3 | h3
          · omega
          · exact .inr (by omega)
      · exact .inl (by omega)
  · simp only [decide_eq_false_iff_not] at hc
    have hpN : p = Q.l.length := by
      rcases hprog with h | h <;> omega
    rw [hpN, List.take_length] at hT'
    rw [hpN, List.drop_length] at hq'
    refine ⟨fun n x wv => wq = wv ∧ ∃ k : Nat, x = k ∧ k + n = i, ⟨i, rfl, 0, rfl, by omega⟩, ?_⟩
    rintro n2 us x wv ⟨rfl, k, rfl, hk⟩
    refine Br.mk (fun hc2 => ?_) (fun hc2 => ?_)
    · simp only [decide_eq_true_eq] at hc2
      have hb30 : InB (some ⟨T, 0, none⟩) (k : Int) (30 : Int).toNat := ⟨rfl, by omega, by show (k : Int) < 30; omega⟩
      have hTg := toldV_get Q.l (k := k) (by omega)
      have hany : (Q.l.any fun x => x.2.1 == (k : Int)) = true := by
        rw [List.any_eq_true]
        exact ⟨_, (hmem (f k, ((k : Int), 0, 0))).2 ⟨k, by omega, rfl⟩, by simp⟩
      rw [hany] at hTg
      have hk1 : ((k : Int).toNat * 1) = k := by omega
      rw [hk1]
      have hwk : IntKind.wrap .i64 ((k : Int) + 1) = ((k + 1 : Nat) : Int) := by rw [wrap_in (by unfold inI; omega)]; omega
      exact ⟨hb30, 1, hT'.at k hTg, Br.mk (fun h => by simp at h) (fun _ => ⟨n2 - 1, by omega, rfl, k + 1, hwk, by omega⟩)⟩
    · refine (Len_spec hq').mono ?_
      rintro e w51 ⟨rfl, x51⟩
      refine ⟨_, rfl, Br.mk (fun _ => ?_) (fun h => by simp at h)⟩
      refine (lives_spec w51).mono ?_
      rintro e w53 ⟨rfl, x53⟩
      exact ⟨_, rfl, rfl, (xq.tr x51).tr x53⟩
end Go.Proofs.Ytbphdgiepimmkaa
