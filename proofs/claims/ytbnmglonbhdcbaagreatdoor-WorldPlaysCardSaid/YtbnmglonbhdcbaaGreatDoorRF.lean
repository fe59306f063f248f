import Derived.Test.YtbnmglonbhdcbaaGreatDoorRA
set_option linter.all false
namespace Go.Proofs.YtbnmglonbhdcbaaGreatDoor
open Go Go.Vc Go.RowKit Go.Proofs Go.Chk Go.Runs Go.Code
abbrev Ci := En × Sl
abbrev cw (y : Ci) : List Value := [.int .i64 y.1.1.1, .int .i64 y.1.1.2, .slice y.2.a y.2.n y.2.c, .bool y.1.2.2.1, .int .i64 y.1.2.2.2]
abbrev tRC : TypeId := 148
structure RR (P : Nat → Prop) (w : World) (s : Sl) (l : List Rn) : Prop where
 r : RdR w s l
 p : l ≠ [] → ∀ g, s.blk = some g → P g
structure RCi (P : Nat → Prop) (w : World) (s : Sl) (its : List Ci) : Prop where
 r : RdK w s 5 (its.map cw)
 y : ∀ y ∈ its, RR P w y.2 (ofC y.1.2.1)
 p : its ≠ [] → ∀ g, s.blk = some g → P g
 c : s.n ≤ s.c
theorem one_c (y : Ci) : One (cw y) := by
 intro v hv; simp at hv; rcases hv with rfl | rfl | rfl | rfl | rfl <;> rfl
section
variable {P P' : Nat → Prop} {w w' : World} {s : Sl} {its : List Ci}
theorem RR.ext {l : List Rn} (h : RR P w s l) (x : Ext w w') : RR P w' s l := ⟨RdK.ext h.r x, h.p⟩
theorem RR.same {l : List Rn} (h : RR P w s l) (hk : ∀ i, P i → i < w.heap.size → w'.heap[i]? = w.heap[i]? ∧ P' i) : RR P' w' s l := by
 have hb : l.map rv ≠ [] → l ≠ [] := fun q e => q (by rw [e]; rfl)
 have hb' : l ≠ [] → l.map rv ≠ [] := fun q e => q (by simpa using e)
 exact ⟨RdK.same' h.r fun hne g hg => (hk g (h.p (hb hne) g hg) (RdK.blk_lt h.r (by decide) hne hg)).1, fun hne g hg => (hk g (h.p hne g hg) (RdK.blk_lt h.r (by decide) (hb' hne) hg)).2⟩
theorem RR.own {l : List Rn} {B : Nat} (h : OwR B w s l) (hP : ∀ i, B ≤ i → P i) : RR P w s l := ⟨OwR.rdr h, fun _ g hg => hP g (h.own.lt hg).1⟩
theorem RCi.ext (h : RCi P w s its) (x : Ext w w') : RCi P w' s its := ⟨h.r.ext x, fun y hy => (h.y y hy).ext x, h.p, h.c⟩
theorem RCi.same (h : RCi P w s its) (hk : ∀ i, P i → i < w.heap.size → w'.heap[i]? = w.heap[i]? ∧ P' i) : RCi P' w' s its := by
 have hb : its.map cw ≠ [] → its ≠ [] := fun q e => q (by rw [e]; rfl)
 have hb' : its ≠ [] → its.map cw ≠ [] := fun q e => q (by simpa using e)
 exact ⟨RdK.same' h.r fun hne g hg => (hk g (h.p (hb hne) g hg) (RdK.blk_lt h.r (by decide) hne hg)).1, fun y hy => (h.y y hy).same hk, fun hne g hg => (hk g (h.p hne g hg) (RdK.blk_lt h.r (by decide) (hb' hne) hg)).2, h.c⟩
theorem RCi.nil : RCi P w ⟨none, 0, 0⟩ [] := ⟨⟨rfl, (fun r hr => by cases hr), fun i r hi => by simp at hi⟩, (fun y hy => by cases hy), fun h => absurd rfl h, Nat.le_refl _⟩
theorem RCi.n (h : RCi P w s its) : s.n = its.length := by have := h.r.n; rwa [List.length_map] at this
theorem RCi.at (h : RCi P w s its) {k : Nat} {y : Ci} (hk : its[k]? = some y) : InB s.a (k : Int) s.n ∧ (padd s.a (((k : Nat) : Int).toNat * 5)).isSome = true ∧ ∀ j v, (cw y)[j]? = some v → ld w (padd (padd s.a (((k : Nat) : Int).toNat * 5)) j) = some v := by
 have hl := (List.getElem?_eq_some_iff.1 hk).1
 have hn := h.n
 have hin := RdK.inB h.r (by decide) (i := (k : Int)) (by omega) (by omega)
 have hr : (its.map cw)[k]? = some (cw y) := by rw [List.getElem?_map, hk]; rfl
 exact ⟨hin, by rw [padd_isSome]; exact hin.1, fun j v hj => h.r.at hr hj⟩
theorem RCi.load (h : RCi P w s its) {k : Nat} {y : Ci} (hk : its[k]? = some y) : LoadL w (padd s.a (((k : Nat) : Int).toNat * 5)) 0 (cw y) :=
 LoadL_of fun j v hj => by rw [Nat.zero_add]; exact (h.at hk).2.2 j v hj
theorem RCi.own {B : Nat} (h : OwnK B tRC 5 w s (its.map cw)) (hy : ∀ y ∈ its, RR P w y.2 (ofC y.1.2.1)) (hP : ∀ i, B ≤ i → P i) : RCi P w s its := ⟨OwnK.rd h (by decide), hy, (fun _ g hg => hP g (h.own.lt hg).1), OwnK.le h⟩
end
def RC (P : Nat → Prop) (w : World) (s : Sl) (l : List En) : Prop := ∃ its, RCi P w s its ∧ its.map (·.1) = l
abbrev tvR (seed cap : Int) (d : Dk) (s1 s2 s3 : Sl) : Value := .agg #[.int .i64 seed, .int .i64 cap, .int .i64 d.room, .int .i64 d.fails, .int .i64 d.wait, .slice s1.a s1.n s1.c, .slice s2.a s2.n s2.c, .slice s3.a s3.n s3.c]
structure RT (P : Nat → Prop) (w : World) (T : Tb) (s1 s2 s3 : Sl) : Prop where
 d : RDk P w T.1 s1 s2
 l : RC P w s3 T.2
abbrev Bx (P : Nat → Prop) (a b : Nat) : Nat → Prop := fun i => P i ∧ (i < a ∨ b ≤ i)
section
variable {P P' : Nat → Prop} {w w' v v' : World} {s s1 s2 s3 : Sl} {T : Tb} {seed cap : Int}
theorem RC.ext {l : List En} (h : RC P w s l) (x : Ext w w') : RC P w' s l := by obtain ⟨its, h1, h2⟩ := h; exact ⟨its, h1.ext x, h2⟩
theorem RC.same {l : List En} (h : RC P w s l) (hk : ∀ i, P i → i < w.heap.size → w'.heap[i]? = w.heap[i]? ∧ P' i) : RC P' w' s l := by obtain ⟨its, h1, h2⟩ := h; exact ⟨its, h1.same hk, h2⟩
theorem RC.nil : RC P w ⟨none, 0, 0⟩ [] := ⟨[], RCi.nil, rfl⟩
theorem RT.ext (h : RT P w T s1 s2 s3) (x : Ext w w') : RT P w' T s1 s2 s3 := ⟨h.d.ext x, h.l.ext x⟩
theorem RT.same (h : RT P w T s1 s2 s3) (hk : ∀ i, P i → i < w.heap.size → w'.heap[i]? = w.heap[i]? ∧ P' i) : RT P' w' T s1 s2 s3 := ⟨h.d.same hk, h.l.same hk⟩
theorem RT.into (h : RT P w T s1 s2 s3) (x : Ext w v) (b : Nat) : RT (Bx P w.heap.size b) v T s1 s2 s3 := h.same fun _ hp hi => ⟨x.heap hi, hp, .inl hi⟩
theorem RT.box {a b g : Nat} {c : Array Value} (h : RT (Bx P a b) v T s1 s2 s3) (e : v' = v.setRow g c) (hg : a ≤ g ∧ g < b) : RT (Bx P a b) v' T s1 s2 s3 := h.same fun i hp _ => ⟨by rw [e, setRow_other _ _ _ _ (by have := hp.2; omega)], hp⟩
theorem RT.out {a b : Nat} (h : RT (Bx P a b) v T s1 s2 s3) : RT P v T s1 s2 s3 := h.same fun _ hp _ => ⟨rfl, hp.1⟩
theorem Fw.bx {b : Nat} (hP : Fw P w) (x : Ext w v) (hb : b ≤ v.heap.size) : Fw (Bx P w.heap.size b) v := fun i hi => ⟨hP i (by have := x.size; omega), .inr (by omega)⟩
theorem rFind_spec (h : RT P w T s1 s2 s3) (hl : T.2.length ≤ 1000000) (p : Po) :
  Calls Tryz.prog n_ref12_Find #[tvR seed cap T.1 s1 s2 s3, pv p] w fun e w' => e = .returned (.int .i64 (firstI (fun e : En => e.1 == p) T.2)) ∧ Ext w w' := by
 apply (ref12_Find.vc (a0_5 := s1) (a0_6 := s2) (a0_7 := s3))
 intro w0 e0 w1 e1
 have x1 : Ext w w1 := ((Ext.rfl' _).of_alloc e0).of_alloc e1
 clear e0 e1
 obtain ⟨its, hits, hm⟩ := h.l
 have hn := hits.n
 have hTl : T.2.length = its.length := by rw [← hm, List.length_map]
 refine ⟨fun n i wr => ∃ j : Nat, i = j ∧ j + n = its.length ∧ (∀ m, m < j → ∀ y, T.2[m]? = some y → (y.1 == p) = false) ∧ Ext w wr, ⟨its.length, rfl, rfl, 0, rfl, by omega, (fun m hm => absurd hm (Nat.not_lt_zero m)), x1⟩, ?_⟩
 rintro n us i wr ⟨j, rfl, hj, hno, xr⟩
 refine Br.mk (fun hc => ?_) (fun hc => ?_)
 ·simp only [decide_eq_true_eq] at hc
  obtain ⟨y, hy⟩ := get_lt (l := its) (i := j) (by omega)
  have hyT : T.2[j]? = some y.1 := by rw [← hm, List.getElem?_map, hy]; rfl
  have xd := xr.tr (Ext.dr wr)
  obtain ⟨hin, hso, hld⟩ := (hits.ext xd).at hy
  have p0 : padd (padd (padd s3.a (((j : Nat) : Int).toNat * 5)) 0) 0 = padd s3.a (((j : Nat) : Int).toNat * 5) := by rw [padd_zero, padd_zero]
  refine ⟨hin, nnP hso (nnP (by rw [padd_isSome]; exact hso) ⟨y.1.1.1, y.1.1.2, ?_, Br.mk (fun hq => ?_) (fun hq => ?_)⟩)⟩
  ·rw [p0]
   refine LoadL_of fun q v hq => ?_
   rw [Nat.zero_add]
   refine hld q v ?_
   match q, hq with
   | 0, hq => exact hq
   | 1, hq => exact hq
  ·have : (y.1.1 == p) = true := by
    simp only [Bool.and_eq_true, beq_iff_eq] at hq ⊢
    exact Prod.ext hq.1 hq.2
   rw [firstI_at hyT this hno]
   exact ⟨rfl, xd⟩
  ·refine ⟨n - 1, by omega, rfl, rfl, j + 1, by rw [wrap_in (by unfold inI; omega)]; omega, by omega, fun m hm' y' hy' => ?_, xd⟩
   rcases Nat.lt_or_ge m j with q | q
   ·exact hno m q y' hy'
   ·have : m = j := by omega
    subst this
    rw [hyT] at hy'; cases hy'
    cases hb : (y.1.1 == p) with
    | false => rfl
    | true =>
      have : y.1.1 = p := by simpa using hb
      rw [← this] at hq; simp at hq
 ·simp only [decide_eq_false_iff_not] at hc
  have : firstI (fun e : En => e.1 == p) T.2 = -1 := firstI_none fun y hy => by
   obtain ⟨m, hm'⟩ := List.getElem?_of_mem hy
   have hml := (List.getElem?_eq_some_iff.1 hm').1
   have hTl : T.2.length = its.length := by rw [← hm, List.length_map]
   exact hno m (by omega) y hm'
  rw [this]
  exact ⟨rfl, xr⟩
abbrev TbRes (P : Nat → Prop) (w : World) (seed cap : Int) (T : Tb) (e : Ending) (w' : World) : Prop := ∃ s1' s2' s3' : Sl, e = .returned (tvR seed cap T.1 s1' s2' s3') ∧ RT P w' T s1' s2' s3' ∧ Ext w w'
abbrev TbRes2 (P : Nat → Prop) (w : World) (seed cap : Int) (T : Tb × Int) (e : Ending) (w' : World) : Prop := ∃ s1' s2' s3' : Sl, e = .returned (.tuple #[tvR seed cap T.1.1 s1' s2' s3', .int .i64 T.2]) ∧ RT P w' T.1 s1' s2' s3' ∧ Ext w w'
theorem rLast_spec (h : RT P w T s1 s2 s3) (hP : Fw P w) (hl : T.2.length ≤ 1000000) (y : Ci) (hy : RR P w y.2 (ofC y.1.2.1)) :
  Calls Tryz.prog n_ref12_last #[tvR seed cap T.1 s1 s2 s3, .agg #[.int .i64 y.1.1.1, .int .i64 y.1.1.2, .slice y.2.a y.2.n y.2.c, .bool y.1.2.2.1, .int .i64 y.1.2.2.2]] w (TbRes P w seed cap (T.1, T.2 ++ [y.1])) := by
 apply (ref12_last.vc (a0_5 := s1) (a0_6 := s2) (a0_7 := s3) (a1_2 := y.2))
 intro w0 e0 w1 e1 w2 e2
 have x2 : Ext w w2 := (((Ext.rfl' _).of_alloc e0).of_alloc e1).of_alloc e2
 have z0 : w0.heap.size = w.heap.size + 1 := by rw [e0]; simp
 have z1 : w1.heap.size = w.heap.size + 2 := by rw [e1]; simp [z0]
 have z2 : w2.heap.size = w.heap.size + 3 := by rw [e2]; simp [z1]
 clear e0 e1 e2
 obtain ⟨its, hits, hm⟩ := h.l
 have hn := hits.n
 have hTl : T.2.length = its.length := by rw [← hm, List.length_map]
 have hits2 := hits.ext x2
 have h0 : OwnK w2.heap.size tRC 5 w2 ⟨none, 0, 0⟩ [] := OwnK.nil
 have ha := h0.appN (bytes := 56) (more := its.map cw) (Nat.le_refl _) (fun r hr => by obtain ⟨y, -, rfl⟩ := List.mem_map.1 hr; rfl) (fun r hr => by obtain ⟨y, -, rfl⟩ := List.mem_map.1 hr; exact one_c y) (by simp only [List.length_map]; omega) (by simp only [List.length_map]; omega)
 rw [List.length_map, ← hn] at ha
 obtain ⟨hp, hres⟩ := ha
 refine ⟨(its.map cw).flatten, RdK.flat hits2.r (by decide), hp, fun s4 w5 hr5 => ?_⟩
 obtain ⟨ho5, hn5, x5, -, -⟩ := hres s4 w5 hr5
 have x5 : Ext w2 w5 := x5
 have z5 := x5.size
 have hn4 : s4.n = its.length := by have := (OwnK.rd ho5 (by decide)).n; simpa using this
 refine ⟨x5.heap (by omega), x5.heap (by omega), x5.heap (by omega), fun w6 e6 => ?_⟩
 subst e6
 obtain ⟨hp8, hres8⟩ := ho5.app1 (bytes := 56) (news := cw y) (.cells #[.int .i64 y.1.1.1, .int .i64 y.1.1.2, .slice y.2.a y.2.n y.2.c, .bool y.1.2.2.1, .int .i64 y.1.2.2.2] 148) z5 rfl (one_c y) (by omega) (by omega)
 refine ⟨hp8, fun s7 w8 hr8 => ?_⟩
 obtain ⟨f8, ho8, hn8, x8, -, -⟩ := hres8 s7 w8 hr8
 have xa := Ext.al w5 (.cells #[.int .i64 y.1.1.1, .int .i64 y.1.1.2, .slice y.2.a y.2.n y.2.c, .bool y.1.2.2.1, .int .i64 y.1.2.2.2] 148)
 have x8w : Ext w w8 := Below.trans x2 (Below.trans (Below.mono x5 x2.size) (Below.mono x8 x2.size))
 have kp : ∀ j, j < w2.heap.size → w8.heap[j]? = (w5.alloc (.cells #[.int .i64 y.1.1.1, .int .i64 y.1.1.2, .slice y.2.a y.2.n y.2.c, .bool y.1.2.2.1, .int .i64 y.1.2.2.2] 148)).heap[j]? := fun j hj => by rw [x8.block j hj, xa.heap (by omega)]
 refine ⟨kp _ (by omega), kp _ (by omega), kp _ (by omega), f8, fun w9 e9 w10 e10 => ?_⟩
 have x10 := (x8w.of_setRow e9 (Nat.le_refl _)).of_setRow e10 (by omega)
 have ho10 : OwnK w2.heap.size tRC 5 w10 s7 ((its ++ [y]).map cw) := by
  refine OwnK.keep (rows := (its ++ [y]).map cw) (by rw [List.map_append]; simpa using ho8) fun j hj => ?_
  have hjB := (ho8.own.lt hj).1
  rw [e10, setRow_other _ _ _ _ (by omega), e9, setRow_other _ _ _ _ (by omega)]
 refine ⟨s1, s2, s7, rfl, ⟨h.d.ext x10, its ++ [y], RCi.own ho10 (fun z hz => ?_) (fun i hi => hP i (by omega)), by rw [List.map_append, hm]; rfl⟩, x10⟩
 rcases List.mem_append.1 hz with hz | hz
 ·exact (hits.y z hz).ext x10
 ·simp only [List.mem_singleton] at hz
  subst hz; exact hy.ext x10
theorem rWithout_spec (h : RT P w T s1 s2 s3) (hP : Fw P w) (hl : T.2.length ≤ 1000000) {i : Nat} (hi : i < T.2.length) :
  Calls Tryz.prog n_ref12_without #[tvR seed cap T.1 s1 s2 s3, .int .i64 (i : Int)] w (TbRes P w seed cap (T.1, T.2.eraseIdx i)) := by
 apply (ref12_without.vc (a0_5 := s1) (a0_6 := s2) (a0_7 := s3))
 intro w0 e0 w1 e1
 have x1 : Ext w w1 := ((Ext.rfl' _).of_alloc e0).of_alloc e1
 have z0 : w0.heap.size = w.heap.size + 1 := by rw [e0]; simp
 have z1 : w1.heap.size = w.heap.size + 2 := by rw [e1]; simp [z0]
 clear e0 e1
 obtain ⟨its, hits, hm⟩ := h.l
 have hn := hits.n
 have hTl : T.2.length = its.length := by rw [← hm, List.length_map]
 have hits1 := hits.ext x1
 have hc3 := hits.c
 have wi : IntKind.wrap .i64 ((i : Int) + 1) = ((i + 1 : Nat) : Int) := by rw [wrap_in (by unfold inI; omega)]; omega
 rw [wi]
 have wdc : ∀ {l : List Ci}, ∀ r ∈ l.map cw, r.length = 5 := fun r hr => by obtain ⟨y, -, rfl⟩ := List.mem_map.1 hr; rfl
 have onc : ∀ {l : List Ci}, ∀ r ∈ l.map cw, One r := fun r hr => by obtain ⟨y, -, rfl⟩ := List.mem_map.1 hr; exact one_c y
 have c1 := RdK.cut (c' := s3.c) (c'' := s3.c) hits1.r (m := i) (by rw [List.length_map]; omega)
 rw [← List.map_take] at c1
 have h0 : OwnK w1.heap.size tRC 5 w1 ⟨none, 0, 0⟩ [] := OwnK.nil
 have ha := h0.appN (bytes := 56) (more := (its.take i).map cw) (Nat.le_refl _) wdc onc (by simp only [List.length_map, List.length_take]; omega) (by simp only [List.length_map, List.length_take]; omega)
 rw [List.length_map, List.length_take, Nat.min_eq_left (by omega)] at ha
 obtain ⟨hp, hres⟩ := ha
 refine ⟨by omega, by omega, ((its.take i).map cw).flatten, RdK.flat c1 (by decide), hp, fun s3' w4 hr4 => ?_⟩
 obtain ⟨ho4, hn4, x4, -, -⟩ := hres s3' w4 hr4
 have x4 : Ext w1 w4 := x4
 have z4 := x4.size
 have hn3 : s3'.n = i := by have := (OwnK.rd ho4 (by decide)).n; simp at this; omega
 have c2 := RdK.rest (hits1.r.ext x4) (l := i + 1) (m := s3.c) (n' := its.length - (i + 1)) (c' := s3.c) (by rw [List.length_map]) (by rw [List.length_map]; omega)
 rw [← List.map_drop] at c2
 have hb := ho4.appN (bytes := 56) (more := (its.drop (i + 1)).map cw) z4 wdc onc (by simp only [List.length_map, List.length_drop]; omega) (by simp only [List.length_map, List.length_drop]; omega)
 rw [List.length_map, List.length_drop] at hb
 obtain ⟨hp7, hres7⟩ := hb
 have en : s3.n - (((i + 1 : Nat) : Int)).toNat = its.length - (i + 1) := by omega
 rw [en]
 refine ⟨x4.heap (by omega), x4.heap (by omega), by omega, by omega, ((its.drop (i + 1)).map cw).flatten, RdK.flat c2 (by decide), hp7, fun s6 w7 hr7 => ?_⟩
 obtain ⟨ho7, hn7, x7, -, -⟩ := hres7 s6 w7 hr7
 have x7w : Ext w w7 := Below.trans x1 (Below.trans (Below.mono x4 x1.size) (Below.mono x7 x1.size))
 refine ⟨x7.block _ (by omega), x7.block _ (by omega), fun w8 e8 w9 e9 => ?_⟩
 have x9 := (x7w.of_setRow e8 (Nat.le_refl _)).of_setRow e9 (by omega)
 have ho9 : OwnK w1.heap.size tRC 5 w9 s6 ((its.eraseIdx i).map cw) := by
  refine OwnK.keep (rows := (its.eraseIdx i).map cw) (by rw [List.eraseIdx_eq_take_drop_succ, List.map_append]; simpa using ho7) fun j hj => ?_
  have hjB := (ho7.own.lt hj).1
  rw [e9, setRow_other _ _ _ _ (by omega), e8, setRow_other _ _ _ _ (by omega)]
 refine ⟨s1, s2, s6, rfl, ⟨h.d.ext x9, its.eraseIdx i, RCi.own ho9 (fun z hz => (hits.y z ((List.eraseIdx_sublist ..).subset hz)).ext x9) (fun i hi => hP i (by omega)), by rw [← hm, List.eraseIdx_eq_take_drop_succ, List.eraseIdx_eq_take_drop_succ, List.map_append, List.map_take, List.map_drop]⟩, x9⟩
theorem rWith_spec (h : RT P w T s1 s2 s3) (hP : Fw P w) (hl : T.2.length ≤ 1000000) {i : Nat} (hi : i < T.2.length) (y : Ci) (hy : RR P w y.2 (ofC y.1.2.1)) :
  Calls Tryz.prog n_ref12_with #[tvR seed cap T.1 s1 s2 s3, .int .i64 (i : Int), .agg #[.int .i64 y.1.1.1, .int .i64 y.1.1.2, .slice y.2.a y.2.n y.2.c, .bool y.1.2.2.1, .int .i64 y.1.2.2.2]] w (TbRes P w seed cap (T.1, T.2.set i y.1)) := by
 apply (ref12_with.vc (a0_5 := s1) (a0_6 := s2) (a0_7 := s3) (a2_2 := y.2))
 intro w0 e0 w1 e1 w2 e2
 have x2 : Ext w w2 := (((Ext.rfl' _).of_alloc e0).of_alloc e1).of_alloc e2
 have z0 : w0.heap.size = w.heap.size + 1 := by rw [e0]; simp
 have z1 : w1.heap.size = w.heap.size + 2 := by rw [e1]; simp [z0]
 have z2 : w2.heap.size = w.heap.size + 3 := by rw [e2]; simp [z1]
 clear e0 e1 e2
 obtain ⟨its, hits, hm⟩ := h.l
 have hn := hits.n
 have hTl : T.2.length = its.length := by rw [← hm, List.length_map]
 have hits2 := hits.ext x2
 have h0 : OwnK w2.heap.size tRC 5 w2 ⟨none, 0, 0⟩ [] := OwnK.nil
 have ha := h0.appN (bytes := 56) (more := its.map cw) (Nat.le_refl _) (fun r hr => by obtain ⟨y, -, rfl⟩ := List.mem_map.1 hr; rfl) (fun r hr => by obtain ⟨y, -, rfl⟩ := List.mem_map.1 hr; exact one_c y) (by simp only [List.length_map]; omega) (by simp only [List.length_map]; omega)
 rw [List.length_map, ← hn] at ha
 obtain ⟨hp, hres⟩ := ha
 refine ⟨(its.map cw).flatten, RdK.flat hits2.r (by decide), hp, fun s4 w5 hr5 => ?_⟩
 obtain ⟨ho5, hn5, x5, -, -⟩ := hres s4 w5 hr5
 have x5 : Ext w2 w5 := x5
 have z5 := x5.size
 have ho5 : OwnK w2.heap.size tRC 5 w5 s4 (its.map cw) := by simpa using ho5
 have hn4 : s4.n = its.length := by have := (OwnK.rd ho5 (by decide)).n; simpa using this
 obtain ⟨p1, p2, p3, p4, -⟩ := ho5.put (i := i) (r := cw y) (by rw [List.length_map]; omega) (by decide) rfl (one_c y)
 have hin := RdK.inB (OwnK.rd ho5 (by decide)) (by decide) (i := (i : Int)) (by omega) (by omega)
 have hpb : ∀ g, g < w2.heap.size → pblk (padd s4.a (((i : Nat) : Int).toNat * 5)) ≠ some g := fun g hg e => by
  have : s4.blk = some g := by
   obtain ⟨a4, n4, c4⟩ := s4
   cases a4 with
   | none => simp [padd_isSome] at p1
   | some a =>
     have e' : (a.add (((i : Nat) : Int).toNat * 5)).block = g := Option.some.inj e
     show some a.block = some g
     rw [← e']; unfold Addr.add; split <;> rfl
  have := (ho5.own.lt this).1; omega
 refine ⟨x5.heap (by omega), x5.heap (by omega), x5.heap (by omega), hin, ⟨p1, p2⟩, hpb _ (by omega), hpb _ (by omega), hpb _ (by omega), fun w6 e6 w7 e7 w8 e8 => ?_⟩
 have x6w : Ext w w6 := by rw [e6]; exact Below.trans x2 (Below.trans (Below.mono x5 x2.size) (Below.mono p4 x2.size))
 have x8 := (x6w.of_setRow e7 (Nat.le_refl _)).of_setRow e8 (by omega)
 have ho8 : OwnK w2.heap.size tRC 5 w8 s4 ((its.set i y).map cw) := by
  refine OwnK.keep (w := w6) (rows := (its.set i y).map cw) (by rw [List.map_set, e6]; exact p3) fun j hj => ?_
  have hjB := (ho5.own.lt hj).1
  rw [e8, setRow_other _ _ _ _ (by omega), e7, setRow_other _ _ _ _ (by omega)]
 refine ⟨s1, s2, s4, rfl, ⟨h.d.ext x8, its.set i y, RCi.own ho8 (fun z hz => ?_) (fun i hi => hP i (by omega)), by rw [List.map_set, hm]⟩, x8⟩
 rcases List.mem_or_eq_of_mem_set hz with hz | rfl
 ·exact (hits.y z hz).ext x8
 ·exact hy.ext x8
end
end Go.Proofs.YtbnmglonbhdcbaaGreatDoor
namespace Go.Proofs.YtbnmglonbhdcbaaGreatDoor
open Go Go.Vc Go.RowKit Go.Proofs Go.Chk Go.Runs Go.Code
def svT (T : Tb) (i : Nat) (e : En) : Tb × Int := (((saveE T.1 e).1, T.2.set i (saveE T.1 e).2.1), (saveE T.1 e).2.2)
section
variable {P P' : Nat → Prop} {w w' v v' : World} {s s1 s2 s3 : Sl} {T : Tb} {seed cap : Int}
theorem RC.at {l : List En} {i : Nat} {e : En} (h : RC P w s l) (hi : l[i]? = some e) : ∃ y : Ci, y.1 = e ∧ RR P w y.2 (ofC e.2.1) ∧ InB s.a (i : Int) s.n ∧ (padd s.a (((i : Nat) : Int).toNat * 5)).isSome = true ∧ (∀ j v, (cw y)[j]? = some v → ld w (padd (padd s.a (((i : Nat) : Int).toNat * 5)) j) = some v) ∧ LoadL w (padd s.a (((i : Nat) : Int).toNat * 5)) 0 (cw y) := by
 obtain ⟨its, h1, hm⟩ := h
 rw [← hm, List.getElem?_map] at hi
 obtain ⟨y, hy, e1⟩ := Option.map_eq_some_iff.1 hi
 obtain ⟨a, b, c⟩ := h1.at hy
 exact ⟨y, e1, by rw [← e1]; exact h1.y y (List.mem_of_getElem? hy), a, b, c, h1.load hy⟩
set_option maxRecDepth 100000 in
theorem rSave12_spec (h : RT P w T s1 s2 s3) (hP : Fw P w) (hd : DkOk T.1) (hf : Few8 T.1 1000000) (hg : goodL T.2) (hl : T.2.length ≤ 1000000) {i : Nat} {e : En} (hi : T.2[i]? = some e) :
  Calls Tryz.prog n_ref12_save #[tvR seed cap T.1 s1 s2 s3, .int .i64 (i : Int)] w (TbRes2 P w seed cap (svT T i e)) := by
 apply (ref12_save.vc (a0_5 := s1) (a0_6 := s2) (a0_7 := s3))
 intro w0 e0 w1 e1
 have x1 : Ext w w1 := ((Ext.rfl' _).of_alloc e0).of_alloc e1
 have z0 : w0.heap.size = w.heap.size + 1 := by rw [e0]; simp
 have z1 : w1.heap.size = w.heap.size + 2 := by rw [e1]; simp [z0]
 have rt1 : Row w1 w.heap.size [.int .i64 seed, .int .i64 cap, .int .i64 T.1.room, .int .i64 T.1.fails, .int .i64 T.1.wait, .slice s1.a s1.n s1.c, .slice s2.a s2.n s2.c, .slice s3.a s3.n s3.c] 90 := (by rw [e0]; exact Row.new w [_, _, _, _, _, _, _, _] _ : Row w0 w.heap.size _ 90).ext ((Ext.rfl' _).of_alloc e1)
 clear e0 e1
 have h1 := h.into x1 (w.heap.size + 3)
 obtain ⟨y, hy, hyr, hin, hso, hld, hll⟩ := h1.l.at hi
 obtain ⟨g1, g2⟩ := hg e (List.mem_of_getElem? hi)
 have hli := (List.getElem?_eq_some_iff.1 hi).1
 subst hy
 refine ⟨hin, y.1.1.1, y.1.1.2, y.2, y.1.2.2.1, y.1.2.2.2, hll, fun w7 e7 w8 e8 => ?_⟩
 have x8 : Ext w1 w8 := ((Ext.rfl' _).of_alloc e7).of_setRow e8 (Nat.le_refl _)
 have z8 : w8.heap.size = w.heap.size + 3 := by rw [e8, e7]; simp [z1]
 clear e7 e8
 have x18 := x1.tr x8
 cases hdy : y.1.2.2.1 with
 | false =>
   refine Br.mk (fun _ => fun w9 e9 => ?_) (fun q => by cases q)
   have e1 : svT T i y.1 = (T, 0) := by
    unfold svT saveE
    rw [if_neg (by rw [hdy]; decide)]
    simp only
    obtain ⟨q1, q2⟩ := List.getElem?_eq_some_iff.1 hi
    have : T.2.set i y.1 = T.2 := by
     have q3 := List.set_getElem_self q1
     rw [q2] at q3; exact q3
    rw [this]
   rw [e1]
   have x9 := x18.of_setRow e9 (by omega)
   exact ⟨s1, s2, s3, rfl, h.ext x9, x9⟩
 | true =>
   refine Br.mk (fun q => by cases q) (fun _ => ?_)
   obtain ⟨ok1, ok2, ok3, ok4⟩ := chunk_okW g1 g2
   have hle := chunk_le g1 g2
   have hofl := ofC_len y.1.2.1
   refine (ref06_Write_spec y.2 (ofC y.1.2.1) w8 (hyr.ext x8).r (by omega) (chunk_inI g1 g2)).mono ?_
   rintro e w10 ⟨⟨s11, rfl, ho⟩, x10⟩
   rw [if_pos ok1] at ho ⊢
   have z10 := x10.size
   have x110 := x18.tr x10
   have e1 : svT T i y.1 = (((svS T.1 (idK y.1.1) (wrB (ofC y.1.2.1))).1, T.2.set i (y.1.1, y.1.2.1, decide ((svS T.1 (idK y.1.1) (wrB (ofC y.1.2.1))).2 ≠ 0), y.1.2.2.2)), (svS T.1 (idK y.1.1) (wrB (ofC y.1.2.1))).2) := by unfold svT saveE; rw [if_pos hdy]
   rw [e1]
   have svg : ∀ (g : Nat) {v : World}, Ext w10 v → (g = w.heap.size ∨ w10.heap.size ≤ g) → g < v.heap.size → Calls Tryz.prog n_ref09_Save #[dv T.1 s1 s2, .int .i64 (idK y.1.1), .slice s11.a s11.n s11.c] v (DkRes (fun i => Bx P w.heap.size (w.heap.size + 3) i ∧ i ≠ g) v (svS T.1 (idK y.1.1) (wrB (ofC y.1.2.1)))) := by
    intro g v xv hg hgv
    have hRD : RDk (fun i => Bx P w.heap.size (w.heap.size + 3) i ∧ i ≠ g) v T.1 s1 s2 := h.d.same fun i hp hi => ⟨(x110.tr xv).heap hi, ⟨hp, .inl hi⟩, by omega⟩
    have hRY : RY (fun i => Bx P w.heap.size (w.heap.size + 3) i ∧ i ≠ g) v s11 (wrB (ofC y.1.2.1)) := by
     refine RY.ext (w := w10) ⟨OwY.rdy ho, ?_, fun _ g' hg' => ?_, OwnK.le ho⟩ xv
     ·exact wrB_bys
     ·have := ho.own.lt hg'
      exact ⟨⟨hP g' (by omega), .inr (by omega)⟩, by omega⟩
    exact rSave9_spec hRD (fun i hi => ⟨⟨hP i (by have := xv.size; omega), .inr (by have := xv.size; omega)⟩, by omega⟩) hd hf (idK y.1.1) s11 _ hRY (by omega)
   generalize svS T.1 (idK y.1.1) (wrB (ofC y.1.2.1)) = R at *
   have leaf : ∀ {v v2 v3 : World} {sa sb : Sl} {c0 c1 : Array Value}, Ext w v → w8.heap.size ≤ v.heap.size → Ext w1 v → RDk (Bx P w.heap.size (w.heap.size + 3)) v R.1 sa sb → v2 = v.setRow w.heap.size c0 → v3 = v2.setRow w1.heap.size c1 →
     Calls Tryz.prog n_ref12_with #[tvR seed cap R.1 sa sb s3, .int .i64 (i : Int), .agg #[.int .i64 y.1.1.1, .int .i64 y.1.1.2, .slice y.2.a y.2.n y.2.c, .bool (R.2 != 0), .int .i64 y.1.2.2.2]] v3 fun e w26 => ∃ sa' sb' sc' : Sl, e = .returned (tvR seed cap R.1 sa' sb' sc') ∧ Ext v3 w26 ∧ ∀ w35 c, w35 = w26.setRow w0.heap.size c → TbRes2 P w seed cap ((R.1, T.2.set i (y.1.1, y.1.2.1, decide (R.2 ≠ 0), y.1.2.2.2)), R.2) (.returned (.tuple #[tvR seed cap R.1 sa' sb' sc', .int .i64 R.2])) w35 := by
    intro v v2 v3 sa sb c0 c1 xv zv xv1 hR e2 e3
    have x3 := (xv.of_setRow e2 (Nat.le_refl _)).of_setRow e3 (by omega)
    have z3 : v3.heap.size = v.heap.size := by rw [e3, e2]; simp
    have hC3 : RC (Bx P w.heap.size (w.heap.size + 3)) v3 s3 T.2 := (h.into x3 (w.heap.size + 3)).l
    have hR3 : RDk (Bx P w.heap.size (w.heap.size + 3)) v3 R.1 sa sb := hR.same fun i hp _ => ⟨by rw [e3, setRow_other _ _ _ _ (by have := hp.2; omega), e2, setRow_other _ _ _ _ (by have := hp.2; omega)], hp⟩
    have hT3 : RT (Bx P w.heap.size (w.heap.size + 3)) v3 (R.1, T.2) sa sb s3 := ⟨hR3, hC3⟩
    have x83 : Ext w1 v → RR (Bx P w.heap.size (w.heap.size + 3)) v3 y.2 (ofC y.1.2.1) := fun q => (hyr.ext q).same fun i hp _ => ⟨by rw [e3, setRow_other _ _ _ _ (by have := hp.2; omega), e2, setRow_other _ _ _ _ (by have := hp.2; omega)], hp⟩
    refine (rWith_spec (seed := seed) (cap := cap) hT3 (hP.bx x3 (by omega)) hl (i := i) hli ((y.1.1, y.1.2.1, (R.2 != 0), y.1.2.2.2), y.2) (x83 xv1)).mono ?_
    rintro e w26 ⟨sa', sb', sc', rfl, h26, x26⟩
    have hbd : decide (R.2 ≠ 0) = (R.2 != 0) := by by_cases q : R.2 = 0 <;> simp [q]
    rw [hbd]
    refine ⟨sa', sb', sc', rfl, x26, fun w35 c e35 => ?_⟩
    exact ⟨sa', sb', sc', rfl, (h26.box e35 ⟨by omega, by omega⟩).out, (x3.tr x26).of_setRow e35 (by omega)⟩
   have hbx : ∀ {g : Nat} {v : World} {D : Dk} {sa sb : Sl}, RDk (fun i => Bx P w.heap.size (w.heap.size + 3) i ∧ i ≠ g) v D sa sb → ∀ {v' : World} {c : Array Value}, v' = v.setRow g c → RDk (Bx P w.heap.size (w.heap.size + 3)) v' D sa sb := by
    intro g v D sa sb hR v' c e
    exact hR.same fun i hp _ => ⟨by rw [e, setRow_other _ _ _ _ hp.2], hp.1⟩
   have xd10 := Ext.dr w10
   have zd10 : w10.drew.heap.size = w10.heap.size := rfl
   refine ⟨s11, _, rfl, x10.heap (by omega), x10.heap (by omega), x10.heap (by omega), (rId_spec y.1.1 _).mono ?_, fun w57 e57 => (rId_spec y.1.1 _).mono ?_⟩
   ·rintro e w13 ⟨rfl, x13⟩
    have z13 := x13.size
    have x1013 := xd10.tr x13
    refine ⟨_, rfl, x13.heap (by omega), x13.heap (by omega), x13.heap (by omega), (rt1.ext (x8.tr (x10.tr x1013))).loadL (fun j hj => ?_), (svg w.heap.size x1013 (.inl rfl) (by omega)).mono ?_, fun w36 e36 => (svg w13.heap.size (v := w36) (x1013.of_alloc e36) (.inr (by omega)) (by rw [e36]; simp)).mono ?_⟩
    ·match j, hj with
     | 0, _ => rfl
     | 1, _ => rfl
     | 2, _ => rfl
     | 3, _ => rfl
     | 4, _ => rfl
     | n + 5, hj => simp at hj; omega
    ·rintro e w15 ⟨sa, sb, rfl, h15, x15⟩
     have z15 := x15.size
     refine ⟨_, _, _, sa, sb, _, rfl, x15.heap (by omega), x15.heap (by omega), x15.heap (by omega), fun w22 e22 w23 e23 w24 e24 w25 e25 => ?_⟩
     have x23 : Ext w15 w23 := ((Ext.rfl' _).of_alloc e22).of_setRow e23 (Nat.le_refl _)
     have z23 : w23.heap.size = w15.heap.size + 1 := by rw [e23, e22]; simp
     clear e22 e23
     have h23 : RDk (Bx P w.heap.size (w.heap.size + 3)) w23 R.1 sa sb := (h15.ext x23).same fun i hp _ => ⟨rfl, hp.1⟩
     have z25 : w25.heap.size = w23.heap.size := by rw [e25, e24]; simp
     refine (leaf (x110.tr (x1013.tr (x15.tr x23))) (by omega) (x8.tr (x10.tr (x1013.tr (x15.tr x23)))) h23 e24 e25).mono ?_
     rintro e w26 ⟨sa', sb', sc', rfl, x26, fin⟩
     exact ⟨_, _, _, _, _, sa', sb', sc', rfl, x26.heap (by omega), x26.heap (by omega), x26.heap (by omega), x26.heap (by omega), fun w35 e35 => fin w35 _ e35⟩
    ·rintro e w37 ⟨sa, sb, rfl, h37, x37⟩
     have z36 : w36.heap.size = w13.heap.size + 1 := by rw [e36]; simp
     have x1336 : Ext w13 w36 := (Ext.rfl' _).of_alloc e36
     clear e36
     have z37 := x37.size
     refine ⟨_, _, _, sa, sb, _, rfl, x37.heap (by omega), x37.heap (by omega), x37.heap (by omega), x37.heap (by omega), fun w44 e44 w45 e45 w46 e46 => ?_⟩
     have x44 : Ext w13 w44 := (x1336.tr x37).of_setRow e44 (Nat.le_refl _)
     have z44 : w44.heap.size = w37.heap.size := by rw [e44]; simp
     have h44 := hbx h37 e44
     have z46 : w46.heap.size = w44.heap.size := by rw [e46, e45]; simp
     refine (leaf (x110.tr (x1013.tr x44)) (by omega) (x8.tr (x10.tr (x1013.tr x44))) h44 e45 e46).mono ?_
     rintro e w47 ⟨sa', sb', sc', rfl, x47, fin⟩
     exact ⟨_, _, _, _, _, sa', sb', sc', rfl, x47.heap (by omega), x47.heap (by omega), x47.heap (by omega), x47.heap (by omega), fun w56 e56 => fin w56 _ e56⟩
   ·rintro e w58 ⟨rfl, x58⟩
    have z57 : w57.heap.size = w10.heap.size + 1 := by rw [e57]; simp
    have x1057 : Ext w10 w57 := xd10.of_alloc e57
    clear e57
    have z58 := x58.size
    have x1058 := x1057.tr x58
    refine ⟨_, rfl, x58.heap (by omega), x58.heap (by omega), x58.heap (by omega), x58.heap (by omega), (rt1.ext (x8.tr (x10.tr x1058))).loadL (fun j hj => ?_), (svg w10.drew.heap.size x1058 (.inr (by omega)) (by omega)).mono ?_⟩
    ·match j, hj with
     | 0, _ => rfl
     | 1, _ => rfl
     | 2, _ => rfl
     | 3, _ => rfl
     | 4, _ => rfl
     | n + 5, hj => simp at hj; omega
    ·rintro e w60 ⟨sa, sb, rfl, h60, x60⟩
     have z60 := x60.size
     refine ⟨_, _, _, sa, sb, _, rfl, x60.heap (by omega), x60.heap (by omega), x60.heap (by omega), x60.heap (by omega), fun w67 e67 w68 e68 w69 e69 => ?_⟩
     have x67 : Ext w10 w67 := (x1058.tr x60).of_setRow e67 (by omega)
     have z67 : w67.heap.size = w60.heap.size := by rw [e67]; simp
     have h67 := hbx h60 e67
     have z69 : w69.heap.size = w67.heap.size := by rw [e69, e68]; simp
     refine (leaf (x110.tr x67) (by omega) (x8.tr (x10.tr x67)) h67 e68 e69).mono ?_
     rintro e w70 ⟨sa', sb', sc', rfl, x70, fin⟩
     exact ⟨_, _, _, _, _, sa', sb', sc', rfl, x70.heap (by omega), x70.heap (by omega), x70.heap (by omega), x70.heap (by omega), fun w79 e79 => fin w79 _ e79⟩
end
end Go.Proofs.YtbnmglonbhdcbaaGreatDoor
namespace Go.Proofs.YtbnmglonbhdcbaaGreatDoor
open Go Go.Vc Go.RowKit Go.Proofs Go.Chk Go.Runs Go.Code
section
variable {P P' : Nat → Prop} {w w' v v' : World} {s s1 s2 s3 : Sl} {T : Tb} {seed cap : Int}
structure Okt (T : Tb) : Prop where
 d : DkOk T.1
 f : Few8 T.1 1000000
 g : goodL T.2
 l : T.2.length ≤ 1000000
theorem rNew12_spec (seed limit room : Int) (w : World) : Calls Tryz.prog n_ref12_New #[.int .i64 seed, .int .i64 limit, .int .i64 room] w (TbRes P w seed (min (max limit 1) 16) (dk0 room, [])) := by
 apply ref12_New.vc
 intro w0 e0
 have x0 : Ext w w0 := (Ext.rfl' _).of_alloc e0
 have z0 : w0.heap.size = w.heap.size + 1 := by rw [e0]; simp
 clear e0
 refine (rNew8_spec (P := P) room w0).mono ?_
 rintro e w1 ⟨rfl, h1, x1⟩
 have ec : (if 16 < (if 1 > limit then 1 else limit) then 16 else (if 1 > limit then 1 else limit)) = min (max limit 1) 16 := by split <;> split <;> omega
 refine ⟨_, _, _, ⟨none, 0, 0⟩, ⟨none, 0, 0⟩, rfl, x1.heap (by omega), fun w7 e7 => ?_⟩
 have x7 := (x0.tr x1).of_setRow e7 (Nat.le_refl _)
 rw [ec]
 exact ⟨⟨none, 0, 0⟩, ⟨none, 0, 0⟩, ⟨none, 0, 0⟩, rfl, ⟨⟨RW.nil, RW.nil⟩, RC.nil⟩, x7⟩
theorem svT_go {T : Tb} {k : Nat} {e : En} (hk : T.2[k]? = some e) : goE T.1 T.2 k = if (svT T k e).2 = 0 then (((svT T k e).1.1, (svT T k e).1.2.eraseIdx k), 0) else svT T k e := by
 rw [goE_at hk]
 show _ = if (saveE T.1 e).2.2 = 0 then (((saveE T.1 e).1, (T.2.set k (saveE T.1 e).2.1).eraseIdx k), 0) else _
 rw [List.eraseIdx_set_eq]; rfl
theorem rUnload12_spec (h : RT P w T s1 s2 s3) (hP : Fw P w) (ho : Okt T) (p : Po) :
  Calls Tryz.prog n_ref12_Unload #[tvR seed cap T.1 s1 s2 s3, pv p] w (TbRes2 P w seed cap (unldE T.1 T.2 p)) := by
 apply (ref12_Unload.vc (a0_5 := s1) (a0_6 := s2) (a0_7 := s3))
 intro w0 e0 w1 e1 w2 e2
 have x2 : Ext w w2 := (((Ext.rfl' _).of_alloc e0).of_alloc e1).of_alloc e2
 have z0 : w0.heap.size = w.heap.size + 1 := by rw [e0]; simp
 have z1 : w1.heap.size = w.heap.size + 2 := by rw [e1]; simp [z0]
 have z2 : w2.heap.size = w.heap.size + 3 := by rw [e2]; simp [z1]
 clear e0 e1 e2
 refine (rFind_spec (seed := seed) (cap := cap) (h.ext x2) ho.l p).mono ?_
 rintro e w3 ⟨rfl, x3⟩
 have z3 := x3.size
 have x23 := x2.tr x3
 refine ⟨_, rfl, x3.heap (by omega), x3.heap (by omega), x3.heap (by omega), ?_⟩
 rcases firstI_cases (fun e : En => e.1 == p) T.2 with ⟨hf, hno⟩ | ⟨k, e, hk, he, hf, -⟩
 ·rw [hf]
  refine Br.mk (fun _ => fun w5 e5 => ?_) (fun q => by simp at q)
  have e1 : unldE T.1 T.2 p = ((T.1, T.2), 6) := by unfold unldE; rw [hf, if_neg (by decide)]
  have x5 := x23.of_setRow e5 (by omega)
  rw [e1]
  exact ⟨s1, s2, s3, rfl, h.ext x5, x5⟩
 ·rw [hf]
  have hkl := (List.getElem?_eq_some_iff.1 hk).1
  have e1 : unldE T.1 T.2 p = if 0 < e.2.2.2 then ((T.1, T.2), 10) else goE T.1 T.2 k := by unfold unldE; rw [hf, if_pos (by omega), Int.toNat_natCast, hk]; rfl
  have h3 := h.into x23 (w.heap.size + 3)
  obtain ⟨y, hy, -, hin, hso, hld, -⟩ := h3.l.at hk
  subst hy
  refine Br.mk (fun q => by simp at q; omega) (fun _ => ⟨hin, nnP hso ⟨y.1.2.2.2, hld 4 _ rfl, Br.mk (fun q => fun w7 e7 => ?_) (fun q => ?_)⟩⟩)
  ·have x7 := x23.of_setRow e7 (by omega)
   rw [e1, if_pos (by simpa using q)]
   exact ⟨s1, s2, s3, rfl, h.ext x7, x7⟩
  ·rw [e1, if_neg (by simpa using q), svT_go hk]
   refine (rSave12_spec h3 (hP.bx x23 (by omega)) ho.d ho.f ho.g ho.l hk).mono ?_
   rintro e' w8 ⟨sa, sb, sc, rfl, h8, x8⟩
   have z8 := x8.size
   have hsl : (svT T k y.1).1.2.length = T.2.length := by unfold svT; simp
   generalize svT T k y.1 = R at *
   refine ⟨_, _, _, _, _, sa, sb, sc, _, rfl, x8.heap (by omega), x8.heap (by omega), x8.heap (by omega), fun w18 e18 w19 e19 => ?_⟩
   have x19 : Ext w8 w19 := ((Ext.rfl' _).of_alloc e18).of_setRow e19 (Nat.le_refl _)
   have z19 : w19.heap.size = w8.heap.size + 1 := by rw [e19, e18]; simp
   clear e18 e19
   have x019 := x23.tr (x8.tr x19)
   refine Br.mk (fun q2 => fun w20 e20 => ?_) (fun q2 => ?_)
   ·rw [if_neg (by simpa using q2)]
    exact ⟨sa, sb, sc, rfl, ((h8.ext x19).box e20 ⟨by omega, by omega⟩).out, x019.of_setRow e20 (by omega)⟩
   ·have q2 : R.2 = 0 := by simpa using q2
    rw [if_pos q2]
    refine (rWithout_spec (seed := seed) (cap := cap) (h8.ext x19) (hP.bx x019 (by omega)) (by have := ho.l; omega) (i := k) (by omega)).mono ?_
    rintro e' w21 ⟨sa', sb', sc', rfl, h21, x21⟩
    have z21 := x21.size
    refine ⟨_, _, _, _, _, sa', sb', sc', rfl, x21.heap (by omega), x21.heap (by omega), x21.heap (by omega), x21.heap (by omega), fun w30 e30 => ?_⟩
    exact ⟨sa', sb', sc', rfl, (h21.box e30 ⟨by omega, by omega⟩).out, (x019.tr x21).of_setRow e30 (by omega)⟩
theorem rAt12_spec (h : RT P w T s1 s2 s3) (ho : Okt T) (c : Ce) (hc : okC c) :
  Calls Tryz.prog n_ref12_At #[tvR seed cap T.1 s1 s2 s3, cev c] w fun e w' => e = .returned (.int .i64 (atE T.2 c)) ∧ Ext w w' := by
 apply (ref12_At.vc (a0_5 := s1) (a0_6 := s2) (a0_7 := s3))
 intro w0 e0 w1 e1
 have x1 : Ext w w1 := ((Ext.rfl' _).of_alloc e0).of_alloc e1
 have z0 : w0.heap.size = w.heap.size + 1 := by rw [e0]; simp
 have z1 : w1.heap.size = w.heap.size + 2 := by rw [e1]; simp [z0]
 have rt1 : Row w1 w.heap.size [.int .i64 seed, .int .i64 cap, .int .i64 T.1.room, .int .i64 T.1.fails, .int .i64 T.1.wait, .slice s1.a s1.n s1.c, .slice s2.a s2.n s2.c, .slice s3.a s3.n s3.c] 90 := (by rw [e0]; exact Row.new w [_, _, _, _, _, _, _, _] _ : Row w0 w.heap.size _ 90).ext ((Ext.rfl' _).of_alloc e1)
 clear e0 e1
 have xd := Ext.dr w1
 have zd : w1.drew.heap.size = w1.heap.size := rfl
 refine (rChunk3_spec c hc w1.drew).mono ?_
 rintro e w2 ⟨rfl, x2⟩
 have z2 := x2.size
 have x02 := x1.tr (xd.tr x2)
 have rt2 := rt1.ext (xd.tr x2)
 refine ⟨_, _, rfl, x2.heap (by omega), x2.heap (by omega), rt2.loadL (fun j hj => by rw [Nat.zero_add]), (rFind_spec (seed := seed) (cap := cap) (h.ext x02) ho.l (pos c)).mono ?_⟩
 rintro e w5 ⟨rfl, x5⟩
 have z5 := x5.size
 have x05 := x02.tr x5
 refine ⟨_, rfl, x5.heap (by omega), x5.heap (by omega), ?_⟩
 rcases firstI_cases (fun e : En => e.1 == pos c) T.2 with ⟨hf, hno⟩ | ⟨k, e, hk, he, hf, -⟩
 ·have e1 : atE T.2 c = -1 := by unfold atE; rw [hf, if_pos (by decide)]
  rw [hf, e1]
  exact Br.mk (fun _ => ⟨rfl, x05⟩) (fun q => by simp at q)
 ·have e1 : atE T.2 c = if c.2.1 < 0 then 1 else kAt e.1 e.2.1 c := by unfold atE; rw [hf, if_neg (by omega), Int.toNat_natCast, hk]; rfl
  rw [hf, e1]
  refine Br.mk (fun q => by simp at q; omega) (fun _ => Br.mk (fun q => ?_) (fun q => ?_))
  ·rw [if_pos (by simpa using q)]; exact ⟨rfl, x05⟩
  ·have q : ¬ c.2.1 < 0 := by simpa using q
   rw [if_neg q]
   have hpe : e.1 = pos c := by simpa using he
   refine Br.mk (fun q2 => ?_) (fun q2 => ?_)
   ·have q2 : c.2.1 > 31 := by simpa using q2
    have : inK e.1 c = false := by
     cases hq : inK e.1 c with
     | false => rfl
     | true => have := ((inK_iff _ _).1 hq).1; unfold inY at this; omega
    have e2 : kAt e.1 e.2.1 c = 0 := by unfold kAt; rw [this]; rfl
    rw [e2]; exact ⟨rfl, x05⟩
   ·have q2 : ¬ c.2.1 > 31 := by simpa using q2
    have hK : inK e.1 c = true := (inK_iff _ _).2 ⟨by unfold inY; omega, hpe.symm⟩
    have xd5 := Ext.dr w5
    obtain ⟨y, hy, hyr, hin, hso, hld, -⟩ := (h.ext (x05.tr xd5)).l.at hk
    subst hy
    refine ⟨hin, nnP hso ⟨y.1.1.1, y.1.1.2, y.2, LoadL_of fun j v hj => ?_, (rAt_spec (p := y.1.1) hyr.r (ho.g _ (List.mem_of_getElem? hk)).1 c hc).mono ?_⟩⟩
    ·rw [Nat.zero_add, padd_zero]
     refine hld j v ?_
     match j, hj with
     | 0, hj => exact hj
     | 1, hj => exact hj
     | 2, hj => exact hj
    ·rintro e' w10 ⟨rfl, x10⟩
     have zd5 : w5.drew.heap.size = w5.heap.size := rfl
     have e2 : rkAt y.1.1 y.1.2.1 c = kAt y.1.1 y.1.2.1 c := by unfold rkAt kAt; rw [hK]; rfl
     rw [e2]
     exact ⟨_, rfl, x10.heap (by omega), x10.heap (by omega), ((rt2.ext x5).ext (xd5.tr x10)).loadL (fun j hj => by simp at hj; subst hj; rfl), rfl, x05.tr (xd5.tr x10)⟩
end
end Go.Proofs.YtbnmglonbhdcbaaGreatDoor
namespace Go.Proofs.YtbnmglonbhdcbaaGreatDoor
open Go Go.Vc Go.RowKit Go.Proofs Go.Chk Go.Runs Go.Code
def mD (d : Dk) : Nat := d.safe.length + d.l.length
theorem mD_few {d : Dk} {n : Nat} (h : mD d ≤ n) : Few8 d n := by unfold mD at h; exact ⟨by omega, by omega⟩
theorem mD_put (D : Dk) (k : Int) (b : List Int) : mD (putD D k b).1 ≤ mD D + 1 := by
 have h1 := put_l D k b
 have h2 := put_safe D k b
 unfold mD; rw [h2]; omega
theorem mD_sync (D : Dk) : mD (syncD D).1 ≤ mD D := by
 obtain ⟨a1, a2, -⟩ := askD_safe D
 unfold syncD mD
 split
 ·simp only [a1, a2]; omega
 ·have := fold_len D.l D.safe
  show (nowD D).length + ([] : List Wr1).length ≤ _
  unfold nowD
  simp only [List.length_nil]; omega
theorem mD_save (D : Dk) (id : Int) (b : List Int) : mD (svS D id b).1 ≤ mD D + 1 := by
 unfold svS
 split
 ·split
  ·simp only; omega
  ·split
   ·exact mD_put _ _ _
   ·exact Nat.le_trans (mD_sync _) (mD_put _ _ _)
 ·simp only; omega
theorem mD_saveE (D : Dk) (e : En) : mD (saveE D e).1 ≤ mD D + 1 := by
 unfold saveE
 split
 ·exact mD_save _ _ _
 ·simp only; omega
theorem dkOk_saveE {D : Dk} (h : DkOk D) (e : En) : DkOk (saveE D e).1 := by
 unfold saveE
 split
 ·exact h.save _ _
 ·exact h
theorem saveE_en (D : Dk) (e : En) : (saveE D e).2.1.1 = e.1 ∧ (saveE D e).2.1.2.1 = e.2.1 ∧ (saveE D e).2.1.2.2.2 = e.2.2.2 := by
 unfold saveE
 split <;> exact ⟨rfl, rfl, rfl⟩
section
variable {P P' : Nat → Prop} {w w' v v' : World} {s s1 s2 s3 : Sl} {T : Tb} {seed cap : Int}
theorem rSetP_spec {p : Po} {C : List Int} (hs : RR P w s (ofC C)) (hP : Fw P w) (hl : C.length = 8192) (c : Ce) (hc : okC c) (b : Int) :
  Calls Tryz.prog n_ref11_Set #[kv p s, cev c, .int .i64 b] w fun e w' => (∃ s', e = .returned (.tuple #[kv p s', .int .i64 (kSet p C c b).2]) ∧ RR P w' s' (ofC (kSet p C c b).1)) ∧ Ext w w' := by
 apply ref11_Set.vc
 intro w0 e0 w1 e1 w2 e2
 have z0 : w0.heap.size = w.heap.size + 1 := by rw [e0]; simp
 have z1 : w1.heap.size = w.heap.size + 2 := by rw [e1]; simp [z0]
 have z2 : w2.heap.size = w.heap.size + 3 := by rw [e2]; simp [z1]
 have x2 : Ext w w2 := (((Ext.rfl' w).of_alloc e0).of_alloc e1).of_alloc e2
 refine (rIndex_spec p s c hc w2).mono ?_
 rintro e w3 ⟨rfl, x3⟩
 have z3 := x3.size
 have x03 := x2.tr x3
 refine ⟨_, rfl, x3.heap (by omega), x3.heap (by omega), x3.heap (by omega), ?_⟩
 cases hk : inK p c with
 | false =>
   have e : kSet p C c b = (C, 5) := by unfold kSet; rw [if_pos hk]
   rw [e]
   refine Br.mk (fun _ => fun w5 e5 => ?_) (fun h => by simp at h)
   have x5 := x03.of_setRow e5 (by omega)
   exact ⟨⟨s, rfl, hs.ext x5⟩, x5⟩
 | true =>
   have hidx := idx_in ((inK_iff p c).1 hk).1
   refine Br.mk (fun h => by simp at h; omega) (fun _ => ?_)
   refine (ref04_May_spec b w3).mono ?_
   rintro e w6 ⟨rfl, e6⟩
   have x6 : Ext w3 w6 := by rw [e6]; exact Ext.rfl' _
   clear e6
   have z6 := x6.size
   refine ⟨_, rfl, x6.heap (by omega), x6.heap (by omega), x6.heap (by omega), Br.mk (fun hb2 => ?_) (fun hb2 => ?_)⟩
   ·have hf : bMay b = false := by simpa using hb2
    have e : kSet p C c b = (C, 1) := by unfold kSet; rw [if_neg (by simp [hk]), if_pos hf]
    rw [e]
    intro w8 e8
    have x8 := (x03.tr x6).of_setRow e8 (by omega)
    exact ⟨⟨s, rfl, hs.ext x8⟩, x8⟩
   ·have hm : bMay b = true := by simpa using hb2
    have e : kSet p C c b = (C.set (idx c).toNat b, 0) := by unfold kSet; rw [if_neg (by simp [hk]), if_neg (by simp [hm])]
    have h6 := hs.ext (x03.tr x6)
    rw [e]
    refine (ref05_Set_spec s C (idx c) b w6 h6.r (by rw [hl]; decide)).mono ?_
    rintro e9 w9 ⟨s10, rfl, ho9, x9⟩
    have hs : setC C (idx c) b = C.set (idx c).toNat b := by unfold setC; rw [if_pos ⟨hm, hidx.1, by rw [hl]; omega⟩]
    rw [hs] at ho9
    refine ⟨s10, rfl, x9.heap (by omega), x9.heap (by omega), x9.heap (by omega), fun w11 e11 w12 e12 => ?_⟩
    have x12 := (((x03.tr x6).tr x9).of_setRow e11 (Nat.le_refl _)).of_setRow e12 (by omega)
    have hlow := fun b (hb : s10.blk = some b) => (ho9.own.lt hb).1
    refine ⟨⟨s10, rfl, RR.own (B := w6.heap.size) (OwnK.keep ho9 fun b hb => ?_) fun i hi => hP i (by omega)⟩, x12⟩
    have := hlow b hb
    rw [e12, setRow_other _ _ _ _ (by omega), e11, setRow_other _ _ _ _ (by omega)]
theorem rReadP_spec (p : Po) (s : Sl) (b : List Int) (w : World) (hs : RdY w s b) (hb : InY b) (hc : s.n ≤ s.c) (hl : b.length ≤ 1099511627776) :
  Calls Tryz.prog n_ref11_Read #[pv p, .slice s.a s.n s.c] w fun e w' => (∃ (x y : Int) (sr : Sl), e = .returned (.tuple #[.agg #[.int .i64 x, .int .i64 y, .slice sr.a sr.n sr.c], .int .i64 (readB bMay b 8192).2]) ∧ ((readB bMay b 8192).2 = 0 → x = p.1 ∧ y = p.2 ∧ OwR w.heap.size w' sr (readB bMay b 8192).1)) ∧ Ext w w' := by
 apply ref11_Read.vc
 intro w0 e0 w1 e1
 have z0 : w0.heap.size = w.heap.size + 1 := by rw [e0]; simp
 have z1 : w1.heap.size = w.heap.size + 2 := by rw [e1]; simp [z0]
 have x1 : Ext w w1 := ((Ext.rfl' w).of_alloc e0).of_alloc e1
 clear e0 e1
 refine (ref06_Read_spec s b 8192 w1 (RdK.ext hs x1) hb hl hc (by decide) (by unfold inI; omega)).mono ?_
 rintro e w2 ⟨⟨s3, rfl, ho⟩, x2⟩
 have z2 := x2.size
 refine ⟨s3, _, rfl, x2.heap (by omega), x2.heap (by omega), Br.mk (fun hne => fun w5 e5 => ?_) (fun hne => fun w6 e6 => ?_)⟩
 ·have h0 : (readB bMay b 8192).2 ≠ 0 := by simpa using hne
  exact ⟨⟨0, 0, ⟨none, 0, 0⟩, rfl, fun h => absurd h h0⟩, (x1.tr x2).of_setRow e5 (by omega)⟩
 ·have h0 : (readB bMay b 8192).2 = 0 := by simpa using hne
  refine ⟨⟨p.1, p.2, s3, by rw [h0], fun _ => ⟨rfl, rfl, ?_⟩⟩, (x1.tr x2).of_setRow e6 (by omega)⟩
  refine OwnK.low (OwnK.keep ho fun j hj => ?_) (show w.heap.size ≤ w1.heap.size by omega)
  have := (ho.own.lt hj).1
  rw [e6]; exact setRow_other _ _ _ _ (by omega)
end
end Go.Proofs.YtbnmglonbhdcbaaGreatDoor
namespace Go.Proofs.YtbnmglonbhdcbaaGreatDoor
open Go Go.Vc Go.RowKit Go.Proofs Go.Chk Go.Runs Go.Code
section
variable {P P' : Nat → Prop} {w w' v v' : World} {s s1 s2 s3 : Sl} {T : Tb} {seed cap : Int}
set_option maxRecDepth 100000 in
theorem rSet12_spec (h : RT P w T s1 s2 s3) (hP : Fw P w) (ho : Okt T) (c : Ce) (hc : okC c) (b : Int) :
  Calls Tryz.prog n_ref12_Set #[tvR seed cap T.1 s1 s2 s3, cev c, .int .i64 b] w (TbRes2 P w seed cap ((T.1, (setE T.2 c b).1), (setE T.2 c b).2)) := by
 apply (ref12_Set.vc (a0_5 := s1) (a0_6 := s2) (a0_7 := s3))
 intro w0 e0 w1 e1 w2 e2
 have x2 : Ext w w2 := (((Ext.rfl' _).of_alloc e0).of_alloc e1).of_alloc e2
 have z0 : w0.heap.size = w.heap.size + 1 := by rw [e0]; simp
 have z1 : w1.heap.size = w.heap.size + 2 := by rw [e1]; simp [z0]
 have z2 : w2.heap.size = w.heap.size + 3 := by rw [e2]; simp [z1]
 have rt2 : Row w2 w.heap.size [.int .i64 seed, .int .i64 cap, .int .i64 T.1.room, .int .i64 T.1.fails, .int .i64 T.1.wait, .slice s1.a s1.n s1.c, .slice s2.a s2.n s2.c, .slice s3.a s3.n s3.c] 90 := (by rw [e0]; exact Row.new w [_, _, _, _, _, _, _, _] _ : Row w0 w.heap.size _ 90).ext (((Ext.rfl' _).of_alloc e1).of_alloc e2)
 clear e0 e1 e2
 have xd := Ext.dr w2
 have zd : w2.drew.heap.size = w2.heap.size := rfl
 refine (rChunk3_spec c hc w2.drew).mono ?_
 rintro e w3 ⟨rfl, x3⟩
 have z3 := x3.size
 have x03 := x2.tr (xd.tr x3)
 refine ⟨_, _, rfl, x3.heap (by omega), x3.heap (by omega), x3.heap (by omega), (rt2.ext (xd.tr x3)).loadL (fun j hj => by rw [Nat.zero_add]), (rFind_spec (seed := seed) (cap := cap) (h.ext x03) ho.l (pos c)).mono ?_⟩
 rintro e w6 ⟨rfl, x6⟩
 have z6 := x6.size
 have x06 := x03.tr x6
 refine ⟨_, rfl, x6.heap (by omega), x6.heap (by omega), x6.heap (by omega), (ref04_May_spec b w6).mono ?_⟩
 rintro e w8 ⟨rfl, hw⟩
 have x8 : Ext w6 w8 := by rw [hw]; exact Ext.rfl' _
 clear hw
 have z8 := x8.size
 have x08 := x06.tr x8
 refine ⟨_, rfl, x8.heap (by omega), x8.heap (by omega), x8.heap (by omega), ?_⟩
 have bad : ∀ {n : Int}, setE T.2 c b = (T.2, n) → ∀ w5 c', w5 = w8.setRow w1.heap.size c' → TbRes2 P w seed cap ((T.1, (setE T.2 c b).1), (setE T.2 c b).2) (.returned (.tuple #[tvR seed cap T.1 s1 s2 s3, .int .i64 n])) w5 := by
  intro n e w5 c' e5
  have x5 := x08.of_setRow e5 (by omega)
  rw [e]
  exact ⟨s1, s2, s3, rfl, h.ext x5, x5⟩
 rcases firstI_cases (fun e : En => e.1 == pos c) T.2 with ⟨hf, hno⟩ | ⟨k, e, hk, he, hf, -⟩
 ·rw [hf]
  exact Br.mk (fun _ => fun w5 e5 => bad (by unfold setE; rw [hf, if_pos (by decide)]) w5 _ e5) (fun q => by simp at q)
 rw [hf]
 have hpe : e.1 = pos c := by simpa using he
 have hkl := (List.getElem?_eq_some_iff.1 hk).1
 refine Br.mk (fun q => by simp at q; omega) (fun _ => Br.mk (fun q => fun w5 e5 => bad (by unfold setE; rw [hf, if_neg (by omega), if_pos (by unfold inY; simp at q; omega)]) w5 _ e5) (fun q1 => Br.mk (fun q => fun w5 e5 => bad (by unfold setE; rw [hf, if_neg (by omega), if_pos (by unfold inY; simp at q; omega)]) w5 _ e5) (fun q2 => ?_)))
 have hy : inY c := by unfold inY; simp at q1 q2; omega
 cases hb : bMay b with
 | false => exact Br.mk (fun q => fun w5 e5 => bad (by unfold setE; rw [hf, if_neg (by omega), if_neg (by simpa using hy), if_pos hb]) w5 _ e5) (fun q => by simp at q)
 | true =>
 refine Br.mk (fun q => by simp at q) (fun _ => ?_)
 have hB := h.into x08 (w8.heap.size + 1)
 obtain ⟨y, hy1, hyr, hin, hso, hld, hll⟩ := hB.l.at hk
 subst hy1
 have hset : setE T.2 c b = (T.2.eraseIdx k ++ [(y.1.1, (kSet y.1.1 y.1.2.1 c b).1, y.1.2.2.1 || (kAt y.1.1 y.1.2.1 c != b), y.1.2.2.2)], 0) := by
  unfold setE
  rw [hf, if_neg (by omega), if_neg (by simpa using hy), if_neg (by rw [hb]; decide), Int.toNat_natCast, hk]; rfl
 rw [hset]
 obtain ⟨g1, g2⟩ := ho.g _ (List.mem_of_getElem? hk)
 have hC : inK y.1.1 c = true := (inK_iff _ _).2 ⟨hy, hpe.symm⟩
 have eAt : rkAt y.1.1 y.1.2.1 c = kAt y.1.1 y.1.2.1 c := by unfold rkAt kAt; rw [hC]; rfl
 refine ⟨hin, y.1.1.1, y.1.1.2, y.2, y.1.2.2.1, y.1.2.2.2, hll, fun w19 e19 w20 e20 => ?_⟩
 have x20 : Ext w8 w20 := ((Ext.rfl' _).of_alloc e19).of_setRow e20 (Nat.le_refl _)
 have z20 : w20.heap.size = w8.heap.size + 1 := by rw [e20, e19]; simp
 have r20 : Row w20 w8.heap.size [.int .i64 y.1.1.1, .int .i64 y.1.1.2, .slice y.2.a y.2.n y.2.c, .bool y.1.2.2.1, .int .i64 y.1.2.2.2] 148 := by rw [e20]; exact Row.set (by rw [e19]; exact Row.new w8 [_, _, _, _, _] _) _
 clear e19 e20
 have x020 := x08.tr x20
 have fin : ∀ {v v0 : World} {d : Bool} {c0 : Array Value}, Ext w20 v0 → v = v0.setRow w8.heap.size c0 → d = (y.1.2.2.1 || (kAt y.1.1 y.1.2.1 c != b)) → c0 = #[.int .i64 y.1.1.1, .int .i64 y.1.1.2, .slice y.2.a y.2.n y.2.c, .bool d, .int .i64 y.1.2.2.2] →
   Calls Tryz.prog 131 #[.agg #[.int .i64 y.1.1.1, .int .i64 y.1.1.2, .slice y.2.a y.2.n y.2.c], .agg #[.int .i64 c.1, .int .i64 c.2.1, .int .i64 c.2.2], .int .i64 b] v (fun e w22 => ∃ (x23 : Int) (x24 : Int) (s25 : Sl) (x26 : Int), e = .returned (.tuple #[.agg #[.int .i64 x23, .int .i64 x24, .slice s25.a s25.n s25.c], .int .i64 x26]) ∧ w22.heap[w.heap.size]? = v.heap[w.heap.size]? ∧ w22.heap[w0.heap.size]? = v.heap[w0.heap.size]? ∧ w22.heap[w1.heap.size]? = v.heap[w1.heap.size]? ∧ w22.heap[w8.heap.size]? = v.heap[w8.heap.size]? ∧
   ∀ w27 : World, w27 = w22.alloc (.cells #[.int .i64 0, .int .i64 0, .slice none 0 0] 146) →
   ∀ w28 : World, w28 = w27.setRow w22.heap.size #[.int .i64 x23, .int .i64 x24, .slice s25.a s25.n s25.c] →
   ∀ w29 : World, w29 = w28.setRow w8.heap.size #[.int .i64 x23, .int .i64 x24, .slice s25.a s25.n s25.c, .bool d, .int .i64 y.1.2.2.2] →
   Calls Tryz.prog n_ref12_without #[tvR seed cap T.1 s1 s2 s3, .int .i64 (k : Int)] w29.drew (fun e w30 => ∃ (x31 : Int) (x32 : Int) (x33 : Int) (x34 : Int) (x35 : Int) (s36 : Sl) (s37 : Sl) (s38 : Sl), e = .returned (.agg #[.int .i64 x31, .int .i64 x32, .int .i64 x33, .int .i64 x34, .int .i64 x35, .slice s36.a s36.n s36.c, .slice s37.a s37.n s37.c, .slice s38.a s38.n s38.c]) ∧ w30.heap[w.heap.size]? = w29.drew.heap[w.heap.size]? ∧ w30.heap[w0.heap.size]? = w29.drew.heap[w0.heap.size]? ∧ w30.heap[w1.heap.size]? = w29.drew.heap[w1.heap.size]? ∧ w30.heap[w8.heap.size]? = w29.drew.heap[w8.heap.size]? ∧ w30.heap[w22.heap.size]? = w29.drew.heap[w22.heap.size]? ∧
   LoadL w30 (some ⟨w8.heap.size, 0, none⟩) 0 [.int .i64 x23, .int .i64 x24, .slice s25.a s25.n s25.c, .bool d, .int .i64 y.1.2.2.2] ∧ Calls Tryz.prog n_ref12_last #[.agg #[.int .i64 x31, .int .i64 x32, .int .i64 x33, .int .i64 x34, .int .i64 x35, .slice s36.a s36.n s36.c, .slice s37.a s37.n s37.c, .slice s38.a s38.n s38.c], .agg #[.int .i64 x23, .int .i64 x24, .slice s25.a s25.n s25.c, .bool d, .int .i64 y.1.2.2.2]] w30 (fun e w39 => ∃ (x40 : Int) (x41 : Int) (x42 : Int) (x43 : Int) (x44 : Int) (s45 : Sl) (s46 : Sl) (s47 : Sl), e = .returned (.agg #[.int .i64 x40, .int .i64 x41, .int .i64 x42, .int .i64 x43, .int .i64 x44, .slice s45.a s45.n s45.c, .slice s46.a s46.n s46.c, .slice s47.a s47.n s47.c]) ∧ w39.heap[w.heap.size]? = w30.heap[w.heap.size]? ∧ w39.heap[w0.heap.size]? = w30.heap[w0.heap.size]? ∧ w39.heap[w1.heap.size]? = w30.heap[w1.heap.size]? ∧ w39.heap[w8.heap.size]? = w30.heap[w8.heap.size]? ∧ w39.heap[w22.heap.size]? = w30.heap[w22.heap.size]? ∧
   ∀ w48 : World, w48 = w39.setRow w1.heap.size #[.int .i64 x40, .int .i64 x41, .int .i64 x42, .int .i64 x43, .int .i64 x44, .slice s45.a s45.n s45.c, .slice s46.a s46.n s46.c, .slice s47.a s47.n s47.c] →
   TbRes2 P w seed cap ((T.1, T.2.eraseIdx k ++ [(y.1.1, (kSet y.1.1 y.1.2.1 c b).1, y.1.2.2.1 || (kAt y.1.1 y.1.2.1 c != b), y.1.2.2.2)]), 0) (.returned (.tuple #[.agg #[.int .i64 x40, .int .i64 x41, .int .i64 x42, .int .i64 x43, .int .i64 x44, .slice s45.a s45.n s45.c, .slice s46.a s46.n s46.c, .slice s47.a s47.n s47.c], .int .i64 0])) w48))) := by
  intro v v0 d c0 xv0 ev hd hc0
  have rv : Row v w8.heap.size [.int .i64 y.1.1.1, .int .i64 y.1.1.2, .slice y.2.a y.2.n y.2.c, .bool d, .int .i64 y.1.2.2.2] 148 := by rw [ev, hc0]; exact Row.set (r20.ext xv0) _
  have xv8 : Ext w8 v := (x20.tr xv0).of_setRow ev (Nat.le_refl _)
  have zv0 := xv0.size
  have zv : v.heap.size = v0.heap.size := by rw [ev]; simp
  have xv := x08.tr xv8
  clear ev hc0
  refine (rSetP_spec (P := Bx P w.heap.size (w8.heap.size + 1)) (p := y.1.1) (hyr.ext xv8) (hP.bx xv (by omega)) g1 c hc b).mono ?_
  rintro e w22 ⟨⟨s25, rfl, h25⟩, x22⟩
  have z22 := x22.size
  refine ⟨_, _, s25, _, rfl, x22.heap (by omega), x22.heap (by omega), x22.heap (by omega), x22.heap (by omega), fun w27 e27 w28 e28 w29 e29 => ?_⟩
  have x28 : Ext w22 w28 := ((Ext.rfl' _).of_alloc e27).of_setRow e28 (Nat.le_refl _)
  have z28 : w28.heap.size = w22.heap.size + 1 := by rw [e28, e27]; simp
  clear e27 e28
  have r29 : Row w29 w8.heap.size [.int .i64 y.1.1.1, .int .i64 y.1.1.2, .slice s25.a s25.n s25.c, .bool d, .int .i64 y.1.2.2.2] 148 := by rw [e29]; exact Row.set (rv.ext (x22.tr x28)) _
  have z29 : w29.heap.size = w28.heap.size := by rw [e29]; simp
  have x029 := (xv.tr (x22.tr x28)).of_setRow e29 (by omega)
  have h25' : RR (Bx P w.heap.size (w8.heap.size + 1)) w29 s25 (ofC (kSet y.1.1 y.1.2.1 c b).1) := (h25.ext x28).same fun i hp _ => ⟨by rw [e29, setRow_other _ _ _ _ (by have := hp.2; omega)], hp⟩
  have hT29 := h.into x029 (w8.heap.size + 1)
  clear e29
  have xd29 := Ext.dr w29
  have zd29 : w29.drew.heap.size = w29.heap.size := rfl
  refine (rWithout_spec (seed := seed) (cap := cap) (hT29.ext xd29) (hP.bx (x029.tr xd29) (by omega)) ho.l (i := k) hkl).mono ?_
  rintro e w30 ⟨sa, sb, sc, rfl, h30, x30⟩
  have z30 := x30.size
  refine ⟨_, _, _, _, _, sa, sb, sc, rfl, x30.heap (by omega), x30.heap (by omega), x30.heap (by omega), x30.heap (by omega), x30.heap (by omega), (r29.ext (xd29.tr x30)).loadL (fun j hj => by rw [Nat.zero_add]), ?_⟩
  have x030 := x029.tr (xd29.tr x30)
  have hel : (T.2.eraseIdx k).length ≤ 1000000 := by rw [List.length_eraseIdx]; split <;> (have := ho.l; omega)
  refine (rLast_spec (seed := seed) (cap := cap) h30 (hP.bx x030 (by omega)) hel ((y.1.1, (kSet y.1.1 y.1.2.1 c b).1, d, y.1.2.2.2), s25) ((h25'.ext xd29).ext x30)).mono ?_
  rintro e w39 ⟨sa', sb', sc', rfl, h39, x39⟩
  refine ⟨_, _, _, _, _, sa', sb', sc', rfl, x39.heap (by omega), x39.heap (by omega), x39.heap (by omega), x39.heap (by omega), x39.heap (by omega), fun w48 e48 => ?_⟩
  rw [← hd]
  exact ⟨sa', sb', sc', rfl, (h39.box e48 ⟨by omega, by omega⟩).out, (x030.tr x39).of_setRow e48 (by omega)⟩
 refine Br.mk (fun q => fun w21 e21 => fin (Ext.rfl' _) e21 (by rw [q]; rfl) rfl) (fun q => (rAt_spec (p := y.1.1) (hyr.ext x20).r g1 c hc).mono ?_)
 rintro e w49 ⟨rfl, x49⟩
 rw [eAt]
 exact ⟨_, rfl, x49.heap (by omega), x49.heap (by omega), x49.heap (by omega), x49.heap (by omega), fun w51 e51 => fin x49 e51 (by rw [q]; rfl) rfl⟩
end
end Go.Proofs.YtbnmglonbhdcbaaGreatDoor
namespace Go.Proofs.YtbnmglonbhdcbaaGreatDoor
open Go Go.Vc Go.RowKit Go.Proofs Go.Chk Go.Runs Go.Code
section
variable {P P' : Nat → Prop} {w w' v v' : World} {s s1 s2 s3 : Sl} {T : Tb} {seed cap : Int}
theorem ldS_bd {D : Dk} (h : DkOk D) (id : Int) : (ldS D id).1.length ≤ 1048576 := by
 have h0 := getD_le h (2 * id)
 have h1 := getD_le h (2 * id + 1)
 have r0 := rdS_le (getD D (2 * id))
 have r1 := rdS_le (getD D (2 * id + 1))
 unfold ldS
 split
 ·rw [ofS_ref]
  split
  ·split <;> simp only [List.length_nil] <;> omega
  ·split
   ·simp only; omega
   ·split <;> simp only <;> omega
 ·simp
set_option maxRecDepth 100000 in
theorem rLoad12_spec (h : RT P w T s1 s2 s3) (hP : Fw P w) (ho : Okt T) (hm : mD T.1 ≤ 500000) (hcap : inI cap) (p : Po) :
  Calls Tryz.prog n_ref12_Load #[tvR seed cap T.1 s1 s2 s3, pv p] w (TbRes2 P w seed cap (ldE seed cap T.1 T.2 p)) := by
 apply (ref12_Load.vc (a0_5 := s1) (a0_6 := s2) (a0_7 := s3))
 intro w0 e0 w1 e1 w2 e2
 have x2 : Ext w w2 := (((Ext.rfl' _).of_alloc e0).of_alloc e1).of_alloc e2
 have z0 : w0.heap.size = w.heap.size + 1 := by rw [e0]; simp
 have z1 : w1.heap.size = w.heap.size + 2 := by rw [e1]; simp [z0]
 have z2 : w2.heap.size = w.heap.size + 3 := by rw [e2]; simp [z1]
 clear e0 e1 e2
 refine (rId_spec p w2).mono ?_
 rintro e w3 ⟨rfl, x3⟩
 have z3 := x3.size
 have x03 := x2.tr x3
 refine ⟨_, rfl, x3.heap (by omega), x3.heap (by omega), x3.heap (by omega), ?_⟩
 have hid0 : ¬ inT p → idK p = 0 := idK_out
 have hid1 : inT p → 1 ≤ idK p ∧ idK p ≤ 1099511627776 := fun q => idK_pos q
 refine Br.mk (fun q => fun w5 e5 => ?_) (fun q => ?_)
 ·have hin : ¬ inT p := fun hh => by have := hid1 hh; simp at q; omega
  have e1 : ldE seed cap T.1 T.2 p = ((T.1, T.2), 5) := by unfold ldE; rw [if_pos hin]
  have x5 := x03.of_setRow e5 (by omega)
  rw [e1]
  exact ⟨s1, s2, s3, rfl, h.ext x5, x5⟩
 have hin : inT p := by
  by_cases hh : inT p
  ·exact hh
  ·have := hid0 hh; simp [this] at q
 have hid := hid1 hin
 refine (rFind_spec (seed := seed) (cap := cap) (h.ext x03) ho.l p).mono ?_
 rintro e w6 ⟨rfl, x6⟩
 have z6 := x6.size
 have x06 := x03.tr x6
 refine ⟨_, rfl, x6.heap (by omega), x6.heap (by omega), x6.heap (by omega), ?_⟩
 have hl := ho.l
 have leaf : ∀ {v : World} {T' : Tb} {sa sb sc : Sl} (y : Ci), Ext w v → w.heap.size + 3 ≤ v.heap.size → RT (Bx P w.heap.size (w.heap.size + 3)) v T' sa sb sc → RR (Bx P w.heap.size (w.heap.size + 3)) v y.2 (ofC y.1.2.1) → T'.2.length ≤ 1000000 →
   Calls Tryz.prog n_ref12_last #[tvR seed cap T'.1 sa sb sc, .agg #[.int .i64 y.1.1.1, .int .i64 y.1.1.2, .slice y.2.a y.2.n y.2.c, .bool y.1.2.2.1, .int .i64 y.1.2.2.2]] v fun e w' => ∃ sa' sb' sc' : Sl, e = .returned (tvR seed cap T'.1 sa' sb' sc') ∧ Ext v w' ∧ ∀ w1' c, w1' = w'.setRow w1.heap.size c → TbRes2 P w seed cap ((T'.1, T'.2 ++ [y.1]), 0) (.returned (.tuple #[tvR seed cap T'.1 sa' sb' sc', .int .i64 0])) w1' := by
  intro v T' sa sb sc y xv zv hT hy hl'
  refine (rLast_spec (seed := seed) (cap := cap) hT (hP.bx xv zv) hl' y hy).mono ?_
  rintro e w' ⟨sa', sb', sc', rfl, h', x'⟩
  exact ⟨sa', sb', sc', rfl, x', fun w1' c e1 => ⟨sa', sb', sc', rfl, (h'.box e1 ⟨by omega, by omega⟩).out, (xv.tr x').of_setRow e1 (by omega)⟩⟩
 have hRd : ∀ {b : List Int}, Bys b → (readB bMay b 8192).2 = 0 → ofC (cellsR (readB bMay b 8192).1) = (readB bMay b 8192).1 ∧ cellsB seed p b = cellsR (readB bMay b 8192).1 := fun {b} hb h0 => by
  obtain ⟨f1, f2, f3⟩ := readB_again (b := b) (n := 8192) hb (by decide) h0
  have hmy : mayR bMay (readB bMay b 8192).1 8192 = true := by
   have := f2.mayR (by omega)
   rw [f3] at this; exact this
  exact ⟨(mayR_inv hmy).1, by unfold cellsB; rw [if_pos h0]⟩
 have hRn : ∀ {b : List Int}, (readB bMay b 8192).2 ≠ 0 → cellsB seed p b = made seed p := fun {b} h0 => by unfold cellsB; rw [if_neg h0]
 rcases (firstI_cases (fun e : En => e.1 == p) T.2).symm with ⟨k, e, hk, he, hf, -⟩ | ⟨hf, hno⟩
 ·rw [hf]
  have e1 : ldE seed cap T.1 T.2 p = ((T.1, T.2.eraseIdx k ++ [e]), 0) := by unfold ldE; rw [if_neg (by simpa using hin), hf, if_pos (by omega), Int.toNat_natCast, hk]; rfl
  have hkl := (List.getElem?_eq_some_iff.1 hk).1
  have h6 := h.into x06 (w.heap.size + 3)
  obtain ⟨y, hy, hyr, hin2, hso, hld, hll⟩ := h6.l.at hk
  subst hy
  refine Br.mk (fun _ => ⟨hin2, y.1.1.1, y.1.1.2, y.2, y.1.2.2.1, y.1.2.2.2, hll, fun w13 e13 w14 e14 => ?_⟩) (fun q => by simp at q)
  have x14 : Ext w6 w14 := ((Ext.rfl' _).of_alloc e13).of_setRow e14 (Nat.le_refl _)
  have z14 : w14.heap.size = w6.heap.size + 1 := by rw [e14, e13]; simp
  have r14 : Row w14 w6.heap.size [.int .i64 y.1.1.1, .int .i64 y.1.1.2, .slice y.2.a y.2.n y.2.c, .bool y.1.2.2.1, .int .i64 y.1.2.2.2] 148 := by rw [e14]; exact Row.set (by rw [e13]; exact Row.new w6 [_, _, _, _, _] _) _
  clear e13 e14
  have xd := Ext.dr w14
  have zd : w14.drew.heap.size = w14.heap.size := rfl
  have x014 := x06.tr (x14.tr xd)
  refine (rWithout_spec (seed := seed) (cap := cap) (h6.ext (x14.tr xd)) (hP.bx x014 (by omega)) hl (i := k) hkl).mono ?_
  rintro e w15 ⟨sa, sb, sc, rfl, h15, x15⟩
  have z15 := x15.size
  refine ⟨_, _, _, _, _, sa, sb, sc, rfl, x15.heap (by omega), x15.heap (by omega), x15.heap (by omega), x15.heap (by omega), (r14.ext (xd.tr x15)).loadL (fun j hj => by rw [Nat.zero_add]), ?_⟩
  have hel : (T.2.eraseIdx k).length ≤ 1000000 := by rw [List.length_eraseIdx]; split <;> omega
  refine (leaf y (x014.tr x15) (by omega) h15 ((hyr.ext (x14.tr xd)).ext x15) hel).mono ?_
  rintro e w24 ⟨sa', sb', sc', rfl, x24, fin⟩
  rw [e1]
  exact ⟨_, _, _, _, _, sa', sb', sc', rfl, x24.heap (by omega), x24.heap (by omega), x24.heap (by omega), x24.heap (by omega), fun w33 e33 => fin w33 _ e33⟩
 rw [hf]
 have e1 : ldE seed cap T.1 T.2 p = if (roomE cap T.1 T.2).2 ≠ 0 then roomE cap T.1 T.2 else (((roomE cap T.1 T.2).1.1, (roomE cap T.1 T.2).1.2 ++ [(p, cellsB seed p (ldS (roomE cap T.1 T.2).1.1 (idK p)).1, false, 0)]), 0) := by
  unfold ldE
  rw [if_neg (by simpa using hin), hf, if_neg (by decide)]
 obtain ⟨its, hits, hms⟩ := h.l
 have hn := hits.n
 have hil : its.length = T.2.length := by rw [← hms, List.length_map]
 refine Br.mk (fun q => by simp at q) (fun _ => Br.mk (fun hfull => ?_) (fun hfree => ?_))
 ·have hfull : ¬ ((T.2.length : Nat) : Int) < cap := by rw [← hil, ← hn]; simpa using hfull
  have eR : roomE cap T.1 T.2 = if firstI (fun e : En => e.2.2.2 == 0) T.2 < 0 then ((T.1, T.2), 8) else goE T.1 T.2 (firstI (fun e : En => e.2.2.2 == 0) T.2).toNat := by unfold roomE; rw [if_neg hfull]
  have wl : IntKind.wrap .i64 (((s3.n : Nat) : Int) - 1) = ((T.2.length : Nat) : Int) - 1 := by rw [wrap_in (by unfold inI; omega)]; omega
  rw [wl]
  refine ⟨fun n i fr wr => i = (n : Int) - 1 ∧ n ≤ T.2.length ∧ wr = w6 ∧ ((fr = -1 ∧ ∀ m, n ≤ m → ∀ y, T.2[m]? = some y → (y.2.2.2 == 0) = false) ∨ ∃ (k : Nat) (y : En), n ≤ k ∧ T.2[k]? = some y ∧ (y.2.2.2 == 0) = true ∧ fr = k ∧ ∀ m, n ≤ m → m < k → ∀ y, T.2[m]? = some y → (y.2.2.2 == 0) = false), ⟨T.2.length, rfl, rfl, rfl, rfl, Nat.le_refl _, rfl, .inl ⟨rfl, fun m hm' y hy => by have := (List.getElem?_eq_some_iff.1 hy).1; omega⟩⟩, ?_⟩
  rintro n us i fr w39 ⟨rfl, hnl, rfl, hfr⟩
  refine Br.mk (fun hc => ?_) (fun hc => ?_)
  ·simp only [ge_iff_le, decide_eq_true_eq] at hc
   obtain ⟨j, rfl⟩ : ∃ j, n = j + 1 := ⟨n - 1, by omega⟩
   have ej : (((j + 1 : Nat) : Int) - 1) = (j : Int) := by omega
   rw [ej]
   obtain ⟨e, he⟩ := get_lt (l := T.2) (i := j) (by omega)
   obtain ⟨y, hy, -, hin2, hso, hld, -⟩ := (h.ext x06).l.at he
   subst hy
   have wj : IntKind.wrap .i64 ((j : Int) - 1) = (j : Int) - 1 := wrap_in (by unfold inI; omega)
   refine ⟨hin2, nnP hso ⟨y.1.2.2.2, hld 4 _ rfl, Br.mk (fun q => ⟨j, by omega, rfl, rfl, rfl, wj, by omega, rfl, .inr ⟨j, y.1, Nat.le_refl _, he, q, rfl, fun m h1 h2 => by omega⟩⟩) (fun q => ⟨j, by omega, rfl, rfl, rfl, wj, by omega, rfl, ?_⟩)⟩⟩
   have ext1 : ∀ {k : Nat}, (∀ m, j + 1 ≤ m → m < k → ∀ y, T.2[m]? = some y → (y.2.2.2 == 0) = false) → ∀ m, j ≤ m → m < k → ∀ y, T.2[m]? = some y → (y.2.2.2 == 0) = false := fun hh m h1 h2 y' hy' => by
    rcases Nat.lt_or_ge j m with q3 | q3
    ·exact hh m (by omega) h2 y' hy'
    ·have : m = j := by omega
     subst this
     rw [he] at hy'; cases hy'; exact q
   rcases hfr with ⟨f1, f2⟩ | ⟨k, y', f1, f2, f3, f4, f5⟩
   ·refine .inl ⟨f1, fun m h1 y' hy' => ?_⟩
    exact ext1 (k := m + 1) (fun m' h1 _ => f2 m' h1) m h1 (by omega) y' hy'
   ·exact .inr ⟨k, y', by omega, f2, f3, f4, ext1 f5⟩
  ·simp only [ge_iff_le, decide_eq_false_iff_not] at hc
   have hn0 : n = 0 := by omega
   subst hn0
   rcases hfr with ⟨rfl, f2⟩ | ⟨k, e, -, hk, hek, rfl, f5⟩
   ·refine Br.mk (fun _ => fun w42 e42 => ?_) (fun q => by simp at q)
    have hfi : firstI (fun e : En => e.2.2.2 == 0) T.2 = -1 := firstI_none fun y hy => by
     obtain ⟨m, hm'⟩ := List.getElem?_of_mem hy
     exact f2 m (Nat.zero_le _) y hm'
    rw [hfi, if_pos (by decide)] at eR
    rw [e1, eR, if_pos (by simp)]
    have x42 := x06.of_setRow e42 (by omega)
    exact ⟨s1, s2, s3, rfl, h.ext x42, x42⟩
   ·have hfi : firstI (fun e : En => e.2.2.2 == 0) T.2 = k := firstI_at hk hek fun m hm' y hy => f5 m (Nat.zero_le _) hm' y hy
    rw [hfi, if_neg (by omega), Int.toNat_natCast, svT_go hk] at eR
    have hkl := (List.getElem?_eq_some_iff.1 hk).1
    refine Br.mk (fun q => by simp at q; omega) (fun _ => (rSave12_spec (h.into x06 (w.heap.size + 3)) (hP.bx x06 (by omega)) ho.d ho.f ho.g hl hk).mono ?_)
    rintro e' w43 ⟨sa, sb, sc, rfl, h43, x43⟩
    have z43 := x43.size
    have hsl : (svT T k e).1.2.length = T.2.length := by unfold svT; simp
    have hmD : mD (svT T k e).1.1 ≤ mD T.1 + 1 := mD_saveE _ _
    have hDk : DkOk (svT T k e).1.1 := dkOk_saveE ho.d _
    generalize svT T k e = R at *
    have x043 := x06.tr x43
    refine ⟨_, _, _, _, _, sa, sb, sc, _, rfl, x43.heap (by omega), x43.heap (by omega), x43.heap (by omega), fun w53 e53 w54 e54 => ?_⟩
    have x54 : Ext w43 w54 := ((Ext.rfl' _).of_alloc e53).of_setRow e54 (Nat.le_refl _)
    have z54 : w54.heap.size = w43.heap.size + 1 := by rw [e54, e53]; simp
    clear e53 e54
    have x054 := x043.tr x54
    refine Br.mk (fun q => fun w55 e55 => ?_) (fun q => ?_)
    ·have q : ¬ R.2 = 0 := by simpa using q
     rw [if_neg q] at eR
     rw [e1, eR, if_pos q]
     exact ⟨sa, sb, sc, rfl, ((h43.ext x54).box e55 ⟨by omega, by omega⟩).out, x054.of_setRow e55 (by omega)⟩
    ·have q : R.2 = 0 := by simpa using q
     rw [if_pos q] at eR
     rw [e1, eR, if_neg (by simp)]
     refine (rWithout_spec (seed := seed) (cap := cap) (h43.ext x54) (hP.bx x054 (by omega)) (by omega) (i := k) (by omega)).mono ?_
     rintro e' w56 ⟨sa, sb, sc, rfl, h56, x56⟩
     have z56 := x56.size
     refine ⟨_, _, _, _, _, sa, sb, sc, rfl, x56.heap (by omega), x56.heap (by omega), x56.heap (by omega), x56.heap (by omega), fun w65 e65 => ?_⟩
     have h65 := h56.box e65 ⟨Nat.le_refl _, by omega⟩
     have x065 := (x054.tr x56).of_setRow e65 (Nat.le_refl _)
     have z65 : w65.heap.size = w56.heap.size := by rw [e65]; simp
     clear e65
     have hel : (R.1.2.eraseIdx k).length ≤ 1000000 := by rw [List.length_eraseIdx]; split <;> omega
     refine (rLoad9_spec h65.d (hP.bx x065 (by omega)) hDk (mD_few (by simp only; omega)) (idK p)).mono ?_
     rintro e' w66 ⟨s67, rfl, h67, x66⟩
     have z66 := x66.size
     refine ⟨s67, _, _, rfl, x66.heap (by omega), x66.heap (by omega), x66.heap (by omega), x66.heap (by omega), (rReadP_spec p s67 _ w66 h67.r h67.y h67.c (by have := ldS_bd hDk (idK p); simp only; omega)).mono ?_⟩
     rintro e' w70 ⟨⟨x71, x72, s73, rfl, h70⟩, x70⟩
     have z70 := x70.size
     refine ⟨x71, x72, s73, _, rfl, x70.heap (by omega), x70.heap (by omega), x70.heap (by omega), x70.heap (by omega), fun w75 e75 w76 e76 => ?_⟩
     have x76 : Ext w70 w76 := ((Ext.rfl' _).of_alloc e75).of_setRow e76 (Nat.le_refl _)
     have z76 : w76.heap.size = w70.heap.size + 1 := by rw [e76, e75]; simp
     clear e75 e76
     have x076 := x065.tr (x66.tr (x70.tr x76))
     generalize hbb : (ldS R.1.1 (idK p)).1 = bb at *
     refine Br.mk (fun q2 => (rMake_spec seed p (inT_okP hin) w76).mono ?_) (fun q2 => ?_)
     ·rintro e' w77 ⟨s80, rfl, ho80, x77⟩
      have q2 : (readB bMay bb 8192).2 ≠ 0 := by simpa using q2
      have z77 := x77.size
      refine ⟨_, _, s80, rfl, x77.heap (by omega), x77.heap (by omega), x77.heap (by omega), x77.heap (by omega), x77.heap (by omega), fun w81 e81 => ?_⟩
      have z81 : w81.heap.size = w77.heap.size := by rw [e81]; simp
      have x081 := (x076.tr x77).of_setRow e81 (by have := x065.size; omega)
      have h81 : RT (Bx P w.heap.size (w.heap.size + 3)) w81 (R.1.1, R.1.2.eraseIdx k) sa sb sc := (h65.ext (x66.tr x70)).same fun i hp hi => ⟨by rw [e81, setRow_other _ _ _ _ (by omega)]; exact (x76.tr x77).heap (by omega), hp⟩
      have hr81 : RR (Bx P w.heap.size (w.heap.size + 3)) w81 s80 (ofC (made seed p)) := by
       refine RR.own (B := w76.heap.size) (OwnK.keep ho80 fun j hj => ?_) (fun i hi => ⟨hP i (by have := x076.size; omega), .inr (by have := x065.size; omega)⟩)
       have := (ho80.own.lt hj).1
       rw [e81, setRow_other _ _ _ _ (by omega)]
      clear e81
      refine (leaf ((p, made seed p, false, 0), s80) x081 (by have := x065.size; omega) h81 hr81 hel).mono ?_
      rintro e' w82 ⟨sa', sb', sc', rfl, x82, fin⟩
      rw [hRn q2]
      exact ⟨_, _, _, _, _, sa', sb', sc', rfl, x82.heap (by omega), x82.heap (by omega), x82.heap (by omega), x82.heap (by omega), x82.heap (by omega), fun w91 e91 => fin w91 _ e91⟩
     ·have q2 : (readB bMay bb 8192).2 = 0 := by simpa using q2
      obtain ⟨rfl, rfl, ho73⟩ := h70 q2
      obtain ⟨hc1, hc2⟩ := hRd h67.y q2
      rw [← hc1] at ho73
      have hr76 : RR (Bx P w.heap.size (w.heap.size + 3)) w76 s73 (ofC (cellsR (readB bMay bb 8192).1)) := RR.ext (RR.own ho73 fun i hi => ⟨hP i (by have := x065.size; omega), .inr (by have := x065.size; omega)⟩) x76
      refine (leaf ((p, cellsR (readB bMay bb 8192).1, false, 0), s73) x076 (by have := x065.size; omega) (h65.ext (x66.tr (x70.tr x76))) hr76 hel).mono ?_
      rintro e' w92 ⟨sa', sb', sc', rfl, x92, fin⟩
      rw [hc2]
      exact ⟨_, _, _, _, _, sa', sb', sc', rfl, x92.heap (by omega), x92.heap (by omega), x92.heap (by omega), x92.heap (by omega), x92.heap (by omega), fun w101 e101 => fin w101 _ e101⟩
 ·have hfree : ((T.2.length : Nat) : Int) < cap := by rw [← hil, ← hn]; simpa using hfree
  have eR : roomE cap T.1 T.2 = ((T.1, T.2), 0) := by unfold roomE; rw [if_pos hfree]
  rw [e1, eR, if_neg (by simp)]
  have h6 := h.into x06 (w.heap.size + 3)
  refine (rLoad9_spec h6.d (hP.bx x06 (by omega)) ho.d (mD_few (by omega)) (idK p)).mono ?_
  rintro e' w66 ⟨s67, rfl, h67, x66⟩
  have z66 := x66.size
  refine ⟨s67, _, _, rfl, x66.heap (by omega), x66.heap (by omega), x66.heap (by omega), (rReadP_spec p s67 _ w66 h67.r h67.y h67.c (by have := ldS_bd ho.d (idK p); omega)).mono ?_⟩
  rintro e' w70 ⟨⟨x71, x72, s73, rfl, h70⟩, x70⟩
  have z70 := x70.size
  refine ⟨x71, x72, s73, _, rfl, x70.heap (by omega), x70.heap (by omega), x70.heap (by omega), fun w75 e75 w76 e76 => ?_⟩
  have x76 : Ext w70 w76 := ((Ext.rfl' _).of_alloc e75).of_setRow e76 (Nat.le_refl _)
  have z76 : w76.heap.size = w70.heap.size + 1 := by rw [e76, e75]; simp
  clear e75 e76
  have x076 := x06.tr (x66.tr (x70.tr x76))
  generalize hbb : (ldS T.1 (idK p)).1 = bb at *
  refine Br.mk (fun q2 => (rMake_spec seed p (inT_okP hin) w76).mono ?_) (fun q2 => ?_)
  ·rintro e' w77 ⟨s80, rfl, ho80, x77⟩
   have q2 : (readB bMay bb 8192).2 ≠ 0 := by simpa using q2
   have z77 := x77.size
   refine ⟨_, _, s80, rfl, x77.heap (by omega), x77.heap (by omega), x77.heap (by omega), x77.heap (by omega), fun w81 e81 => ?_⟩
   have z81 : w81.heap.size = w77.heap.size := by rw [e81]; simp
   have x081 := (x076.tr x77).of_setRow e81 (by omega)
   have h81 : RT (Bx P w.heap.size (w.heap.size + 3)) w81 T s1 s2 s3 := (h6.ext (x66.tr x70)).same fun i hp hi => ⟨by rw [e81, setRow_other _ _ _ _ (by omega)]; exact (x76.tr x77).heap (by omega), hp⟩
   have hr81 : RR (Bx P w.heap.size (w.heap.size + 3)) w81 s80 (ofC (made seed p)) := by
    refine RR.own (B := w76.heap.size) (OwnK.keep ho80 fun j hj => ?_) (fun i hi => ⟨hP i (by omega), .inr (by omega)⟩)
    have := (ho80.own.lt hj).1
    rw [e81, setRow_other _ _ _ _ (by omega)]
   clear e81
   refine (leaf ((p, made seed p, false, 0), s80) x081 (by omega) h81 hr81 hl).mono ?_
   rintro e' w82 ⟨sa', sb', sc', rfl, x82, fin⟩
   rw [hRn q2]
   exact ⟨_, _, _, _, _, sa', sb', sc', rfl, x82.heap (by omega), x82.heap (by omega), x82.heap (by omega), x82.heap (by omega), fun w91 e91 => fin w91 _ e91⟩
  ·have q2 : (readB bMay bb 8192).2 = 0 := by simpa using q2
   obtain ⟨rfl, rfl, ho73⟩ := h70 q2
   obtain ⟨hc1, hc2⟩ := hRd h67.y q2
   rw [← hc1] at ho73
   have hr76 : RR (Bx P w.heap.size (w.heap.size + 3)) w76 s73 (ofC (cellsR (readB bMay bb 8192).1)) := RR.ext (RR.own ho73 fun i hi => ⟨hP i (by omega), .inr (by omega)⟩) x76
   refine (leaf ((p, cellsR (readB bMay bb 8192).1, false, 0), s73) x076 (by omega) (h6.ext (x66.tr (x70.tr x76))) hr76 hl).mono ?_
   rintro e' w92 ⟨sa', sb', sc', rfl, x92, fin⟩
   rw [hc2]
   exact ⟨_, _, _, _, _, sa', sb', sc', rfl, x92.heap (by omega), x92.heap (by omega), x92.heap (by omega), x92.heap (by omega), fun w101 e101 => fin w101 _ e101⟩
end
end Go.Proofs.YtbnmglonbhdcbaaGreatDoor
