import Derived.Test.YtbphdgiepimmkaaQI
set_option linter.all false
namespace Go.Proofs.Ytbphdgiepimmkaa
open Go Go.Vc Go.RowKit Go.Proofs Go.Que

theorem Clone_spec {w : World} {s : Sl} {l : List It} (ho : OwnK 0 tItem 4 w s (l.map itv)) (hl : l.length ≤ 5000) :
    Calls Try.prog n_slices_Clone_Item #[.slice s.a s.n s.c] w fun e w' => ∃ s' : Sl, e = .returned (.slice s'.a s'.n s'.c) ∧ OwnK w.heap.size tItem 4 w' s' (l.map itv) ∧ Ext w w' := by
  apply slices_Clone_Item.vc
  have hn : s.n = l.length := by rw [(ho.rd (by decide)).n, List.length_map]
  refine Br.mk (fun h => ?_) (fun h => ?_)
  · rcases ho.form (by decide) with ⟨hs, hnil⟩ | ⟨g0, cs, ha, -⟩
    · exact ⟨⟨none, 0, 0⟩, rfl, by rw [hnil]; exact OwnK.nil, Ext.rfl' _⟩
    · rw [ha] at h; cases h
  · intro w0 e0
    have x0 : Ext w w0 := (Ext.rfl' w).of_alloc e0
    have hs0 : w0.heap.size = w.heap.size + 1 := by rw [e0]; simp
    have hr0 : Row w0 w.heap.size [] tItem := by rw [e0]; exact Row.new _ _ _
    have hown : OwnK w.heap.size tItem 4 w0 ⟨some ⟨w.heap.size, 0, none⟩, 0, 0⟩ [] := OwnK.of_row (Nat.le_refl _) hr0 rfl (Nat.le_refl _) rfl (by simp)
    obtain ⟨hp, hr⟩ := hown.appN (bytes := 32) (more := l.map itv) x0.size (rows_wd _) (rows_one _) (by simp; omega) (by simp; omega)
    rw [List.length_map, ← hn] at hp hr
    refine ⟨(l.map itv).flatten, ((ho.ext x0).rd (by decide)).flat (by decide), hp, fun s2 w3 hres => ?_⟩
    obtain ⟨h1, h2, h3, h4, h5⟩ := hr s2 w3 hres
    refine ⟨AppRes_zero hres (by rw [flatten_len (rows_wd _), List.length_map, hn]) (by omega), s2, rfl, h1, x0.trans h3⟩
theorem All_spec {w : World} {g m : Nat} {s : Sl} {q : QS} (h : QIs w g m s q) (hq : QOk q) : Calls Try.prog n_queue_Queue_All #[.pointer (some ⟨g, 0, none⟩)] w fun e w' => ∃ s' : Sl, e = .returned (.slice s'.a s'.n s'.c) ∧ OwnK w.heap.size tItem 4 w' s' (q.l.map itv) ∧ Ext w w' := by
  apply queue_Queue_All.vc
  have := hq.len
  have := hq.room
  refine ⟨s, h.row.at 2 rfl, (Clone_spec h.own (by omega)).mono ?_⟩
  rintro e w1 ⟨s', rfl, h1, x1⟩
  exact ⟨s', rfl, s', rfl, h1, x1⟩
theorem Next_spec {w : World} {g m : Nat} {s : Sl} {q : QS} (h : QIs w g m s q) : Calls Try.prog n_queue_Queue_Next #[.pointer (some ⟨g, 0, none⟩)] w fun e w' => e = .returned (.tuple #[.agg (itv (q.l.headD (0, 0, 0, 0))).toArray, .bool (!q.l.isEmpty)]) ∧ Ext w w' := by
  apply queue_Queue_Next.vc
  have hn : s.n = q.l.length := by rw [(h.own.rd (by decide)).n, List.length_map]
  intro w0 e0
  have x0 : Ext w w0 := (Ext.rfl' w).of_alloc e0
  have h0 := h.ext x0
  refine ⟨s, h0.row.at 2 rfl, ?_⟩
  rw [hn]
  refine Br.mk (fun hc => ?_) (fun hc => ?_)
  · intro w2 e2
    have : q.l = [] := by
      have : q.l.length = 0 := by simpa using hc
      exact List.length_eq_zero_iff.1 this
    rw [this]
    exact ⟨rfl, x0.of_setRow e2 (Nat.le_refl _)⟩
  · cases hq : q.l with
    | nil => rw [hq] at hc; simp at hc
    | cons y r =>
      have hrd := h0.own.rd (by decide)
      rw [hq] at hrd
      refine ⟨s, h0.row.at 2 rfl, ⟨hrd.isSome (by decide) (i := 0) (by simp), by omega, by rw [hn, hq]; simp⟩, y.1, y.2.1, y.2.2.1, y.2.2.2, RdK.item hrd (i := 0) rfl, ?_⟩
      intro w8 e8
      exact ⟨rfl, x0.of_setRow e8 (Nat.le_refl _)⟩
set_option hygiene false in
local macro "due_tail" : tactic => `(tactic| (
  refine ⟨s, h.row.at 2 rfl, by omega, by omega, by omega, by omega, fun n x so wr => ∃ j : Nat, x = j ∧ j + n = k ∧ Go.Vc.Mod (fun i => i = m) w wr ∧ OwnK w.heap.size tCell 3 wr so ((q.l.take j).map fun y => clv y.2) ∧ ∃ kvs, MapIs GC wr (some m) kvs ∧ Ticks kvs (q.l.drop j), ⟨k, 0, rfl, by omega, Go.Vc.Mod.refl _ _, OwnK.nil, by simpa using h.map⟩, ?_⟩
  rintro n us x so wr ⟨j, rfl, hj, hmod, hout, kvs, hmap, htk⟩
  have hrow : Row wr g (qcells q s m) tQueue := hmod.row h.row h.g_ne_m
  have hown : OwnK 0 tItem 4 wr s (q.l.map itv) := hmod.ownK h.own fun b hb hf => h.s_ne_m (by rw [hb]; exact congrArg some hf)
  refine Br.mk (fun hc => ?_) (fun hc => ?_)
  · simp only [decide_eq_true_eq] at hc
    have hjl : j < q.l.length := by omega
    have hget : q.l[j]? = some (q.l[j]'hjl) := List.getElem?_eq_getElem hjl
    generalize q.l[j]'hjl = y at hget
    have hrd := hown.rd (by decide)
    refine ⟨⟨?_, by omega, by omega⟩, y.1, y.2.1, y.2.2.1, y.2.2.2, ?_, ?_⟩
    · have := hrd.isSome (by decide) (i := j) (by simp; omega)
      unfold slBase; split <;> simpa using this
    · rw [padd_slBase]; exact RdK.item hrd hget
    intro w21 e21 w22 e22 w23 e23
    have x21 : Ext wr w21 := (Ext.rfl' wr).of_alloc e21
    have x22 : Ext wr w22 := x21.of_setRow e22 (Nat.le_refl _)
    have x23 : Ext wr w23 := x22.of_alloc e23
    have hz22 : w22.heap.size = wr.heap.size + 1 := by rw [e22, setRow_size, e21]; simp
    have hz23 : w23.heap.size = w22.heap.size + 1 := by rw [e23]; simp
    have hon : so.n = j := by rw [(hout.rd (by decide)).n, List.length_map, List.length_take]; omega
    have hzw := hmod.size
    obtain ⟨hp, hr⟩ := (hout.ext x23).append (bytes := 24) (news := clv y.2) (by omega) rfl (by intro u hu; simp at hu; rcases hu with rfl | rfl | rfl <;> rfl) (by omega) (by omega)
    refine ⟨hp, fun s24 w25 hres => ?_⟩
    obtain ⟨h1, h2, h3, h4, h5⟩ := hr s24 w25 hres
    have hsb : ∀ b, so.blk = some b → b < wr.heap.size := fun b hb => (hout.own.lt hb).2
    have hm25 : Go.Vc.Mod (fun i => so.blk = some i) w23 w25 := ⟨h3.os, h3.tape, h3.output, h3.size, fun i hi hn => h4 i hn hi⟩
    have hsm : so.blk ≠ some m := fun e => by
      have h1 := (hout.own.lt e).1
      have h2 := h.lt m (.inr (.inl rfl)); omega
    refine ⟨h4 _ (fun e => by have := hsb _ e; omega) (by omega), h4 _ (fun e => by have := hsb _ e; omega) (by omega), ?_⟩
    have hm2 : Go.Vc.Mod (fun i => so.blk = some i) wr w25.drew := ((Go.Vc.Mod.of_ext x23).trans hm25).trans (Go.Vc.Mod.of_ext (Ext.dr _))
    have hsg : so.blk ≠ some g := fun e => by
      have h1 := (hout.own.lt e).1
      have h2 := h.lt g (.inl rfl); omega
    refine ⟨some m, (hm2.row hrow hsg).at 3 rfl, GC, kvs, cellKey, rfl, hm2.map hmap hsm, ⟨y.2, rfl⟩, ?_⟩
    intro w29 hrec hmap29
    have hm29 := Go.Vc.Mod.of_rec hrec
    have hwj : IntKind.wrap .i64 ((j : Int) + 1) = ((j + 1 : Nat) : Int) := by rw [wrap_in (by unfold inI; omega)]; omega
    rw [hwj]
    refine ⟨n - 1, by omega, j + 1, rfl, by omega, (hmod.tr hm2 (fun i hi => .inr (hout.own.lt hi).1)).trans hm29, ?_, _, hmap29, ?_⟩
    · have e : (q.l.take (j + 1)).map (fun y => clv y.2) = (q.l.take j).map (fun y => clv y.2) ++ [clv y.2] := by rw [List.take_add_one, hget, List.map_append]; rfl
      rw [e]
      refine hm29.ownK (h1.ext (Ext.dr _)) fun b hb hf => ?_
      have hb' : s24.blk = some m := by rw [hb]; exact congrArg some hf
      have := h.lt m (.inr (.inl rfl))
      rcases h5 with h5 | h5
      · exact hsm (h5 ▸ hb')
      · rw [h5] at hb'; have : w23.heap.size = m := by simpa using hb'
        omega
    · have hd := htk.del y.2
      refine hd.perm fun z => ?_
      have hcons : q.l.drop j = y :: q.l.drop (j + 1) := by
        obtain ⟨hlt, he⟩ := List.getElem?_eq_some_iff.1 hget
        rw [List.drop_eq_getElem_cons hlt, he]
      have hnd : ((y :: q.l.drop (j + 1)).map (·.2)).Nodup := by
        rw [← hcons]; exact ((List.drop_sublist j q.l).map _).nodup hq.nodup
      rw [hcons]
      unfold qdrop
      rw [List.map_cons, List.nodup_cons] at hnd
      constructor
      · intro hz
        obtain ⟨hz1, hz2⟩ := List.mem_filter.1 hz
        rcases List.mem_cons.1 hz1 with rfl | hz1
        · simp at hz2
        · exact hz1
      · intro hz
        refine List.mem_filter.2 ⟨List.mem_cons_of_mem _ hz, ?_⟩
        have : z.2 ≠ y.2 := fun e => hnd.1 (e ▸ List.mem_map_of_mem hz)
        simpa using this
  · simp only [decide_eq_false_iff_not] at hc
    have hjk : j = k := by omega
    subst hjk
    refine ⟨s, hrow.at 2 rfl, (Delete_spec hown hkl (by omega)).mono ?_⟩
    rintro e w31 ⟨s32, rfl, ho32, hm32, hs32⟩
    have hr31 : Row w31 g (qcells q s m) tQueue := hm32.row hrow h.s_ne_g
    obtain ⟨p1, p2⟩ := hr31.put1 (j := 2) (v := .slice s32.a s32.n s32.c) (by simp) rfl
    refine ⟨s32, rfl, ⟨rfl, p1⟩, fun w33 e33 => ?_⟩
    obtain ⟨q1, q2⟩ := p2 w33 e33
    have hso : ∀ b, so.blk = some b → w.heap.size ≤ b := fun b hb => (hout.own.lt hb).1
    refine ⟨so, rfl, s32, ?_, ?_, ?_⟩
    · unfold qdue
      rw [← hkq, List.map_map]
      refine q2.ownK (hm32.ownK hout fun b hb hf => ?_) fun b hb hf => ?_
      · have := hso b hb
        have := h.lt b (.inr (.inr hf)); omega
      · have := hso b hb
        have := h.lt b (.inl hf); omega
    · unfold qdue
      rw [← hkq]
      refine ⟨q1, q2.ownK ho32 fun b hb hf => ?_, kvs, q2.map (hm32.map hmap h.s_ne_m) (Ne.symm h.g_ne_m), htk⟩
      obtain ⟨cs, hr⟩ := own_row ho32 (by decide) hb
      exact hr.ne hr31 (by decide) hf
    · refine Foot.turned (((hmod.mono fun b _ hb => .inr (.inl hb)).trans (hm32.mono fun b _ hb => .inr (.inr hb))).trans (q2.mono fun b _ hb => .inl hb)) fun b hb => .inl (hs32 ▸ hb)))
theorem Due_spec {w : World} {g m : Nat} {s : Sl} {q : QS} (h : QIs w g m s q) (hq : QOk q) (now many : Int) :
    Calls Try.prog n_queue_Queue_Due #[.pointer (some ⟨g, 0, none⟩), .int .i64 now, .int .i64 many] w fun e w' => ∃ so : Sl, e = .returned (.slice so.a so.n so.c) ∧ ∃ s', OwnK w.heap.size tCell 3 w' so ((qdue q now many).2.map clv) ∧ QIs w' g m s' (qdue q now many).1 ∧ Turned (Foot g m s) (Foot g m s') w w' := by
  have hn : s.n = q.l.length := by rw [(h.own.rd (by decide)).n, List.length_map]
  have hlen := hq.len
  have hroom := hq.room
  have hcap : s.n ≤ s.c := by
    rcases h.own.form (by decide) with ⟨hs, -⟩ | ⟨g0, cs, ha, hg0, hr, hc, hnc, -⟩
    · rw [hs]; exact Nat.le_refl _
    · exact hnc
  have hql := qcount_le q.l now many
  apply queue_Queue_Due.vc
  refine ⟨fun n x wr => w = wr ∧ ∃ k : Nat, x = k ∧ k + n = qcount q.l now many, ⟨qcount q.l now many, rfl, 0, rfl, by omega⟩, ?_⟩
  rintro n0 us x wr ⟨rfl, k, rfl, hk⟩
  have hkl : k ≤ q.l.length := by omega
  refine ⟨s, h.row.at 2 rfl, Br.mk (fun hc => ?_) (fun hc => ?_)⟩
  · simp only [decide_eq_true_eq] at hc
    have hget : q.l[k]? = some (q.l[k]'(by omega)) := List.getElem?_eq_getElem (by omega)
    have hat := qcount_at hq now many hget
    generalize q.l[k]'(by omega) = y at hget hat
    refine Br.mk (fun hc2 => ?_) (fun hc2 => ?_)
    · simp only [decide_eq_true_eq] at hc2
      have hrd := h.own.rd (by decide)
      refine ⟨s, h.row.at 2 rfl, ⟨hrd.isSome (by decide) (i := k) (by simp; omega), by omega, by omega⟩, ?_⟩
      have hsm : (padd s.a ((k : Int).toNat * 4)).isSome = true := by
        rw [padd_isSome]; exact hrd.isSome (by decide) (i := k) (by simp; omega)
      refine AndL_iff.2 ⟨nnC_iff.2 hsm, y.1, ?_, Br.mk (fun hc3 => ?_) (fun hc3 => ?_)⟩
      · exact hrd.at (i := k) (r := itv y) (by rw [List.getElem?_map, hget]; rfl) rfl
      · simp only [decide_eq_true_eq] at hc3
        have := hat.2 ⟨hc2, hc3⟩
        have hw : IntKind.wrap .i64 ((k : Int) + 1) = ((k + 1 : Nat) : Int) := by rw [wrap_in (by unfold inI; omega)]; omega
        exact ⟨n0 - 1, by omega, rfl, k + 1, hw, by omega⟩
      · simp only [decide_eq_false_iff_not] at hc3
        have hkq : k = qcount q.l now many := by
          have : ¬ k < qcount q.l now many := fun hlt => hc3 (hat.1 hlt).2
          omega
        due_tail
    · simp only [decide_eq_false_iff_not] at hc2
      have hkq : k = qcount q.l now many := by
        have : ¬ k < qcount q.l now many := fun hlt => hc2 (hat.1 hlt).1
        omega
      due_tail
  · simp only [decide_eq_false_iff_not] at hc
    have hkq : k = qcount q.l now many := by omega
    due_tail
end Go.Proofs.Ytbphdgiepimmkaa
