import Derived.Test.YtalpkjfpmdpbiaaGreatDoorRA
set_option linter.all false
namespace Go.Proofs.YtalpkjfpmdpbiaaGreatDoor
open Go Go.Vc Go.RowKit Go.Proofs Go.Chk Go.Runs Go.Code
abbrev Ci := En × Sl
abbrev cw (y : Ci) : List Value := [.int .i64 y.1.1.1, .int .i64 y.1.1.2, .slice y.2.a y.2.n y.2.c, .bool y.1.2.2.1, .int .i64 y.1.2.2.2]
abbrev tRC : TypeId := 110
structure RR (P : Nat → Prop) (w : World) (s : Sl) (l : List Rn) : Prop where
 r : RdR w s l
 p : l ≠ [] → ∀ g, s.blk = some g → P g
structure RCi (P : Nat → Prop) (w : World) (s : Sl) (its : List Ci) : Prop where
 r : RdK w s 5 (its.map cw)
 y : ∀ y ∈ its, RR P w y.2 (ofC y.1.2.1)
 p : its ≠ [] → ∀ g, s.blk = some g → P g
 c : s.n ≤ s.c
theorem one_c (y : Ci) : One (cw y) := by
 intro v hv; simp at hv; rcases hv with rfl | rfl | rfl | rfl | rfl <;> rfl
section
variable {P P' : Nat → Prop} {w w' : World} {s : Sl} {its : List Ci}
theorem RR.ext {l : List Rn} (h : RR P w s l) (x : Ext w w') : RR P w' s l := ⟨RdK.ext h.r x, h.p⟩
theorem RR.same {l : List Rn} (h : RR P w s l) (hk : ∀ i, P i → i < w.heap.size → w'.heap[i]? = w.heap[i]? ∧ P' i) : RR P' w' s l := by
 have hb : l.map rv ≠ [] → l ≠ [] := fun q e => q (by rw [e]; rfl)
 have hb' : l ≠ [] → l.map rv ≠ [] := fun q e => q (by simpa using e)
 exact ⟨RdK.same' h.r fun hne g hg => (hk g (h.p (hb hne) g hg) (RdK.blk_lt h.r (by decide) hne hg)).1, fun hne g hg => (hk g (h.p hne g hg) (RdK.blk_lt h.r (by decide) (hb' hne) hg)).2⟩
theorem RR.own {l : List Rn} {B : Nat} (h : OwR B w s l) (hP : ∀ i, B ≤ i → P i) : RR P w s l := ⟨OwR.rdr h, fun _ g hg => hP g (h.own.lt hg).1⟩
theorem RCi.ext (h : RCi P w s its) (x : Ext w w') : RCi P w' s its := ⟨h.r.ext x, fun y hy => (h.y y hy).ext x, h.p, h.c⟩
theorem RCi.same (h : RCi P w s its) (hk : ∀ i, P i → i < w.heap.size → w'.heap[i]? = w.heap[i]? ∧ P' i) : RCi P' w' s its := by
 have hb : its.map cw ≠ [] → its ≠ [] := fun q e => q (by rw [e]; rfl)
 have hb' : its ≠ [] → its.map cw ≠ [] := fun q e => q (by simpa using e)
 exact ⟨RdK.same' h.r fun hne g hg => (hk g (h.p (hb hne) g hg) (RdK.blk_lt h.r (by decide) hne hg)).1, fun y hy => (h.y y hy).same hk, fun hne g hg => (hk g (h.p hne g hg) (RdK.blk_lt h.r (by decide) (hb' hne) hg)).2, h.c⟩
theorem RCi.nil : RCi P w ⟨none, 0, 0⟩ [] := ⟨⟨rfl, (fun r hr => by cases hr), fun i r hi => by simp at hi⟩, (fun y hy => by cases hy), fun h => absurd rfl h, Nat.le_refl _⟩
theorem RCi.n (h : RCi P w s its) : s.n = its.length := by have := h.r.n; rwa [List.length_map] at this
theorem RCi.at (h : RCi P w s its) {k : Nat} {y : Ci} (hk : its[k]? = some y) : InB s.a (k : Int) s.n ∧ (padd s.a (((k : Nat) : Int).toNat * 5)).isSome = true ∧ ∀ j v, (cw y)[j]? = some v → ld w (padd (padd s.a (((k : Nat) : Int).toNat * 5)) j) = some v := by
 have hl := (List.getElem?_eq_some_iff.1 hk).1
 have hn := h.n
 have hin := RdK.inB h.r (by decide) (i := (k : Int)) (by omega) (by omega)
 have hr : (its.map cw)[k]? = some (cw y) := by rw [List.getElem?_map, hk]; rfl
 exact ⟨hin, by rw [padd_isSome]; exact hin.1, fun j v hj => h.r.at hr hj⟩
theorem RCi.load (h : RCi P w s its) {k : Nat} {y : Ci} (hk : its[k]? = some y) : LoadL w (padd s.a (((k : Nat) : Int).toNat * 5)) 0 (cw y) :=
 LoadL_of fun j v hj => by rw [Nat.zero_add]; exact (h.at hk).2.2 j v hj
theorem RCi.own {B : Nat} (h : OwnK B tRC 5 w s (its.map cw)) (hy : ∀ y ∈ its, RR P w y.2 (ofC y.1.2.1)) (hP : ∀ i, B ≤ i → P i) : RCi P w s its := ⟨OwnK.rd h (by decide), hy, (fun _ g hg => hP g (h.own.lt hg).1), OwnK.le h⟩
end
def RC (P : Nat → Prop) (w : World) (s : Sl) (l : List En) : Prop := ∃ its, RCi P w s its ∧ its.map (·.1) = l
abbrev tvR (seed cap : Int) (d : Dk) (s1 s2 s3 : Sl) : Value := .agg #[.int .i64 seed, .int .i64 cap, .int .i64 d.room, .int .i64 d.fails, .int .i64 d.wait, .slice s1.a s1.n s1.c, .slice s2.a s2.n s2.c, .slice s3.a s3.n s3.c]
structure RT (P : Nat → Prop) (w : World) (T : Tb) (s1 s2 s3 : Sl) : Prop where
 d : RDk P w T.1 s1 s2
 l : RC P w s3 T.2
abbrev Bx (P : Nat → Prop) (a b : Nat) : Nat → Prop := fun i => P i ∧ (i < a ∨ b ≤ i)
section
variable {P P' : Nat → Prop} {w w' v v' : World} {s s1 s2 s3 : Sl} {T : Tb} {seed cap : Int}
theorem RC.ext {l : List En} (h : RC P w s l) (x : Ext w w') : RC P w' s l := by obtain ⟨its, h1, h2⟩ := h; exact ⟨its, h1.ext x, h2⟩
theorem RC.same {l : List En} (h : RC P w s l) (hk : ∀ i, P i → i < w.heap.size → w'.heap[i]? = w.heap[i]? ∧ P' i) : RC P' w' s l := by obtain ⟨its, h1, h2⟩ := h; exact ⟨its, h1.same hk, h2⟩
theorem RC.nil : RC P w ⟨none, 0, 0⟩ [] := ⟨[], RCi.nil, rfl⟩
theorem RT.ext (h : RT P w T s1 s2 s3) (x : Ext w w') : RT P w' T s1 s2 s3 := ⟨h.d.ext x, h.l.ext x⟩
theorem RT.same (h : RT P w T s1 s2 s3) (hk : ∀ i, P i → i < w.heap.size → w'.heap[i]? = w.heap[i]? ∧ P' i) : RT P' w' T s1 s2 s3 := ⟨h.d.same hk, h.l.same hk⟩
theorem RT.into (h : RT P w T s1 s2 s3) (x : Ext w v) (b : Nat) : RT (Bx P w.heap.size b) v T s1 s2 s3 := h.same fun _ hp hi => ⟨x.heap hi, hp, .inl hi⟩
theorem RT.box {a b g : Nat} {c : Array Value} (h : RT (Bx P a b) v T s1 s2 s3) (e : v' = v.setRow g c) (hg : a ≤ g ∧ g < b) : RT (Bx P a b) v' T s1 s2 s3 := h.same fun i hp _ => ⟨by rw [e, setRow_other _ _ _ _ (by have := hp.2; omega)], hp⟩
theorem RT.out {a b : Nat} (h : RT (Bx P a b) v T s1 s2 s3) : RT P v T s1 s2 s3 := h.same fun _ hp _ => ⟨rfl, hp.1⟩
theorem Fw.bx {b : Nat} (hP : Fw P w) (x : Ext w v) (hb : b ≤ v.heap.size) : Fw (Bx P w.heap.size b) v := fun i hi => ⟨hP i (by have := x.size; omega), .inr (by omega)⟩
theorem rFind_spec (h : RT P w T s1 s2 s3) (hl : T.2.length ≤ 1000000) (p : Po) :
  Calls Tryz.prog n_ref12_Find #[tvR seed cap T.1 s1 s2 s3, pv p] w fun e w' => e = .returned (.int .i64 (firstI (fun e : En => e.1 == p) T.2)) ∧ Ext w w' := by
 apply (ref12_Find.vc (a0_5 := s1) (a0_6 := s2) (a0_7 := s3))
 intro w0 e0 w1 e1
 have x1 : Ext w w1 := ((Ext.rfl' _).of_alloc e0).of_alloc e1
 clear e0 e1
 obtain ⟨its, hits, hm⟩ := h.l
 have hn := hits.n
 have hTl : T.2.length = its.length := by rw [← hm, List.length_map]
 refine ⟨fun n i wr => ∃ j : Nat, i = j ∧ j + n = its.length ∧ (∀ m, m < j → ∀ y, T.2[m]? = some y → (y.1 == p) = false) ∧ Ext w wr, ⟨its.length, rfl, rfl, 0, rfl, by omega, (fun m hm => absurd hm (Nat.not_lt_zero m)), x1⟩, ?_⟩
 rintro n us i wr ⟨j, rfl, hj, hno, xr⟩
 refine Br.mk (fun hc => ?_) (fun hc => ?_)
 ·simp only [decide_eq_true_eq] at hc
  obtain ⟨y, hy⟩ := get_lt (l := its) (i := j) (by omega)
  have hyT : T.2[j]? = some y.1 := by rw [← hm, List.getElem?_map, hy]; rfl
  have xd := xr.tr (Ext.dr wr)
  obtain ⟨hin, hso, hld⟩ := (hits.ext xd).at hy
  have p0 : padd (padd (padd s3.a (((j : Nat) : Int).toNat * 5)) 0) 0 = padd s3.a (((j : Nat) : Int).toNat * 5) := by rw [padd_zero, padd_zero]
  refine ⟨hin, nnP hso (nnP (by rw [padd_isSome]; exact hso) ⟨y.1.1.1, y.1.1.2, ?_, Br.mk (fun hq => ?_) (fun hq => ?_)⟩)⟩
  ·rw [p0]
   refine LoadL_of fun q v hq => ?_
   rw [Nat.zero_add]
   refine hld q v ?_
   match q, hq with
   | 0, hq => exact hq
   | 1, hq => exact hq
  ·have : (y.1.1 == p) = true := by
    simp only [Bool.and_eq_true, beq_iff_eq] at hq ⊢
    exact Prod.ext hq.1 hq.2
   rw [firstI_at hyT this hno]
   exact ⟨rfl, xd⟩
  ·refine ⟨n - 1, by omega, rfl, rfl, j + 1, by rw [wrap_in (by unfold inI; omega)]; omega, by omega, fun m hm' y' hy' => ?_, xd⟩
   rcases Nat.lt_or_ge m j with q | q
   ·exact hno m q y' hy'
   ·have : m = j := by omega
    subst this
    rw [hyT] at hy'; cases hy'
    cases hb : (y.1.1 == p) with
    | false => rfl
    | true =>
      have : y.1.1 = p := by simpa using hb
      rw [← this] at hq; simp at hq
 ·simp only [decide_eq_false_iff_not] at hc
  have : firstI (fun e : En => e.1 == p) T.2 = -1 := firstI_none fun y hy => by
   obtain ⟨m, hm'⟩ := List.getElem?_of_mem hy
   have hml := (List.getElem?_eq_some_iff.1 hm').1
   have hTl : T.2.length = its.length := by rw [← hm, List.length_map]
   exact hno m (by omega) y hm'
  rw [this]
  exact ⟨rfl, xr⟩
abbrev TbRes (P : Nat → Prop) (w : World) (seed cap : Int) (T : Tb) (e : Ending) (w' : World) : Prop := ∃ s1' s2' s3' : Sl, e = .returned (tvR seed cap T.1 s1' s2' s3') ∧ RT P w' T s1' s2' s3' ∧ Ext w w'
abbrev TbRes2 (P : Nat → Prop) (w : World) (seed cap : Int) (T : Tb × Int) (e : Ending) (w' : World) : Prop := ∃ s1' s2' s3' : Sl, e = .returned (.tuple #[tvR seed cap T.1.1 s1' s2' s3', .int .i64 T.2]) ∧ RT P w' T.1 s1' s2' s3' ∧ Ext w w'
theorem rLast_spec (h : RT P w T s1 s2 s3) (hP : Fw P w) (hl : T.2.length ≤ 1000000) (y : Ci) (hy : RR P w y.2 (ofC y.1.2.1)) :
  Calls Tryz.prog n_ref12_last #[tvR seed cap T.1 s1 s2 s3, .agg #[.int .i64 y.1.1.1, .int .i64 y.1.1.2, .slice y.2.a y.2.n y.2.c, .bool y.1.2.2.1, .int .i64 y.1.2.2.2]] w (TbRes P w seed cap (T.1, T.2 ++ [y.1])) := by
 apply (ref12_last.vc (a0_5 := s1) (a0_6 := s2) (a0_7 := s3) (a1_2 := y.2))
 intro w0 e0 w1 e1 w2 e2
 have x2 : Ext w w2 := (((Ext.rfl' _).of_alloc e0).of_alloc e1).of_alloc e2
 have z0 : w0.heap.size = w.heap.size + 1 := by rw [e0]; simp
 have z1 : w1.heap.size = w.heap.size + 2 := by rw [e1]; simp [z0]
 have z2 : w2.heap.size = w.heap.size + 3 := by rw [e2]; simp [z1]
 clear e0 e1 e2
 obtain ⟨its, hits, hm⟩ := h.l
 have hn := hits.n
 have hTl : T.2.length = its.length := by rw [← hm, List.length_map]
 have hits2 := hits.ext x2
 have h0 : OwnK w2.heap.size tRC 5 w2 ⟨none, 0, 0⟩ [] := OwnK.nil
 have ha := h0.appN (bytes := 56) (more := its.map cw) (Nat.le_refl _) (fun r hr => by obtain ⟨y, -, rfl⟩ := List.mem_map.1 hr; rfl) (fun r hr => by obtain ⟨y, -, rfl⟩ := List.mem_map.1 hr; exact one_c y) (by simp only [List.length_map]; omega) (by simp only [List.length_map]; omega)
 rw [List.length_map, ← hn] at ha
 obtain ⟨hp, hres⟩ := ha
 refine ⟨(its.map cw).flatten, RdK.flat hits2.r (by decide), hp, fun s4 w5 hr5 => ?_⟩
 obtain ⟨ho5, hn5, x5, -, -⟩ := hres s4 w5 hr5
 have x5 : Ext w2 w5 := x5
 have z5 := x5.size
 have hn4 : s4.n = its.length := by have := (OwnK.rd ho5 (by decide)).n; simpa using this
 refine ⟨x5.heap (by omega), x5.heap (by omega), x5.heap (by omega), fun w6 e6 => ?_⟩
 subst e6
 obtain ⟨hp8, hres8⟩ := ho5.app1 (bytes := 56) (news := cw y) (.cells #[.int .i64 y.1.1.1, .int .i64 y.1.1.2, .slice y.2.a y.2.n y.2.c, .bool y.1.2.2.1, .int .i64 y.1.2.2.2] 110) z5 rfl (one_c y) (by omega) (by omega)
 refine ⟨hp8, fun s7 w8 hr8 => ?_⟩
 obtain ⟨f8, ho8, hn8, x8, -, -⟩ := hres8 s7 w8 hr8
 have xa := Ext.al w5 (.cells #[.int .i64 y.1.1.1, .int .i64 y.1.1.2, .slice y.2.a y.2.n y.2.c, .bool y.1.2.2.1, .int .i64 y.1.2.2.2] 110)
 have x8w : Ext w w8 := Below.trans x2 (Below.trans (Below.mono x5 x2.size) (Below.mono x8 x2.size))
 have kp : ∀ j, j < w2.heap.size → w8.heap[j]? = (w5.alloc (.cells #[.int .i64 y.1.1.1, .int .i64 y.1.1.2, .slice y.2.a y.2.n y.2.c, .bool y.1.2.2.1, .int .i64 y.1.2.2.2] 110)).heap[j]? := fun j hj => by rw [x8.block j hj, xa.heap (by omega)]
 refine ⟨kp _ (by omega), kp _ (by omega), kp _ (by omega), f8, fun w9 e9 w10 e10 => ?_⟩
 have x10 := (x8w.of_setRow e9 (Nat.le_refl _)).of_setRow e10 (by omega)
 have ho10 : OwnK w2.heap.size tRC 5 w10 s7 ((its ++ [y]).map cw) := by
  refine OwnK.keep (rows := (its ++ [y]).map cw) (by rw [List.map_append]; simpa using ho8) fun j hj => ?_
  have hjB := (ho8.own.lt hj).1
  rw [e10, setRow_other _ _ _ _ (by omega), e9, setRow_other _ _ _ _ (by omega)]
 refine ⟨s1, s2, s7, rfl, ⟨h.d.ext x10, its ++ [y], RCi.own ho10 (fun z hz => ?_) (fun i hi => hP i (by omega)), by rw [List.map_append, hm]; rfl⟩, x10⟩
 rcases List.mem_append.1 hz with hz | hz
 ·exact (hits.y z hz).ext x10
 ·simp only [List.mem_singleton] at hz
  subst hz; exact hy.ext x10
end
end Go.Proofs.YtalpkjfpmdpbiaaGreatDoor
namespace Go.Proofs.YtalpkjfpmdpbiaaGreatDoor
open Go Go.Vc Go.RowKit Go.Proofs Go.Chk Go.Runs Go.Code
section
variable {P P' : Nat → Prop} {w w' v v' : World} {s s1 s2 s3 : Sl} {T : Tb} {seed cap : Int}
theorem RC.at {l : List En} {i : Nat} {e : En} (h : RC P w s l) (hi : l[i]? = some e) : ∃ y : Ci, y.1 = e ∧ RR P w y.2 (ofC e.2.1) ∧ InB s.a (i : Int) s.n ∧ (padd s.a (((i : Nat) : Int).toNat * 5)).isSome = true ∧ (∀ j v, (cw y)[j]? = some v → ld w (padd (padd s.a (((i : Nat) : Int).toNat * 5)) j) = some v) ∧ LoadL w (padd s.a (((i : Nat) : Int).toNat * 5)) 0 (cw y) := by
 obtain ⟨its, h1, hm⟩ := h
 rw [← hm, List.getElem?_map] at hi
 obtain ⟨y, hy, e1⟩ := Option.map_eq_some_iff.1 hi
 obtain ⟨a, b, c⟩ := h1.at hy
 exact ⟨y, e1, by rw [← e1]; exact h1.y y (List.mem_of_getElem? hy), a, b, c, h1.load hy⟩
end
end Go.Proofs.YtalpkjfpmdpbiaaGreatDoor
namespace Go.Proofs.YtalpkjfpmdpbiaaGreatDoor
open Go Go.Vc Go.RowKit Go.Proofs Go.Chk Go.Runs Go.Code
section
variable {P P' : Nat → Prop} {w w' v v' : World} {s s1 s2 s3 : Sl} {T : Tb} {seed cap : Int}
structure Okt (T : Tb) : Prop where
 d : DkOk T.1
 f : Few8 T.1 1000000
 g : goodL T.2
 l : T.2.length ≤ 1000000
theorem rNew12_spec (seed limit room : Int) (w : World) : Calls Tryz.prog n_ref12_New #[.int .i64 seed, .int .i64 limit, .int .i64 room] w (TbRes P w seed (min (max limit 1) 16) (dk0 room, [])) := by
 apply ref12_New.vc
 intro w0 e0
 have x0 : Ext w w0 := (Ext.rfl' _).of_alloc e0
 have z0 : w0.heap.size = w.heap.size + 1 := by rw [e0]; simp
 clear e0
 refine (rNew8_spec (P := P) room w0).mono ?_
 rintro e w1 ⟨rfl, h1, x1⟩
 have ec : (if 16 < (if 1 > limit then 1 else limit) then 16 else (if 1 > limit then 1 else limit)) = min (max limit 1) 16 := by split <;> split <;> omega
 refine ⟨_, _, _, ⟨none, 0, 0⟩, ⟨none, 0, 0⟩, rfl, x1.heap (by omega), fun w7 e7 => ?_⟩
 have x7 := (x0.tr x1).of_setRow e7 (Nat.le_refl _)
 rw [ec]
 exact ⟨⟨none, 0, 0⟩, ⟨none, 0, 0⟩, ⟨none, 0, 0⟩, rfl, ⟨⟨RW.nil, RW.nil⟩, RC.nil⟩, x7⟩
theorem rAt12_spec (h : RT P w T s1 s2 s3) (ho : Okt T) (c : Ce) (hc : okC c) :
  Calls Tryz.prog n_ref12_At #[tvR seed cap T.1 s1 s2 s3, cev c] w fun e w' => e = .returned (.int .i64 (atE T.2 c)) ∧ Ext w w' := by
 apply (ref12_At.vc (a0_5 := s1) (a0_6 := s2) (a0_7 := s3))
 intro w0 e0 w1 e1
 have x1 : Ext w w1 := ((Ext.rfl' _).of_alloc e0).of_alloc e1
 have z0 : w0.heap.size = w.heap.size + 1 := by rw [e0]; simp
 have z1 : w1.heap.size = w.heap.size + 2 := by rw [e1]; simp [z0]
 have rt1 : Row w1 w.heap.size [.int .i64 seed, .int .i64 cap, .int .i64 T.1.room, .int .i64 T.1.fails, .int .i64 T.1.wait, .slice s1.a s1.n s1.c, .slice s2.a s2.n s2.c, .slice s3.a s3.n s3.c] 30 := (by rw [e0]; exact Row.new w [_, _, _, _, _, _, _, _] _ : Row w0 w.heap.size _ 30).ext ((Ext.rfl' _).of_alloc e1)
 clear e0 e1
 have xd := Ext.dr w1
 have zd : w1.drew.heap.size = w1.heap.size := rfl
 refine (rChunk3_spec c hc w1.drew).mono ?_
 rintro e w2 ⟨rfl, x2⟩
 have z2 := x2.size
 have x02 := x1.tr (xd.tr x2)
 have rt2 := rt1.ext (xd.tr x2)
 refine ⟨_, _, rfl, x2.heap (by omega), x2.heap (by omega), rt2.loadL (fun j hj => by rw [Nat.zero_add]), (rFind_spec (seed := seed) (cap := cap) (h.ext x02) ho.l (pos c)).mono ?_⟩
 rintro e w5 ⟨rfl, x5⟩
 have z5 := x5.size
 have x05 := x02.tr x5
 refine ⟨_, rfl, x5.heap (by omega), x5.heap (by omega), ?_⟩
 rcases firstI_cases (fun e : En => e.1 == pos c) T.2 with ⟨hf, hno⟩ | ⟨k, e, hk, he, hf, -⟩
 ·have e1 : atE T.2 c = -1 := by unfold atE; rw [hf, if_pos (by decide)]
  rw [hf, e1]
  exact Br.mk (fun _ => ⟨rfl, x05⟩) (fun q => by simp at q)
 ·have e1 : atE T.2 c = if c.2.1 < 0 then 1 else kAt e.1 e.2.1 c := by unfold atE; rw [hf, if_neg (by omega), Int.toNat_natCast, hk]; rfl
  rw [hf, e1]
  refine Br.mk (fun q => by simp at q; omega) (fun _ => Br.mk (fun q => ?_) (fun q => ?_))
  ·rw [if_pos (by simpa using q)]; exact ⟨rfl, x05⟩
  ·have q : ¬ c.2.1 < 0 := by simpa using q
   rw [if_neg q]
   have hpe : e.1 = pos c := by simpa using he
   refine Br.mk (fun q2 => ?_) (fun q2 => ?_)
   ·have q2 : c.2.1 > 31 := by simpa using q2
    have : inK e.1 c = false := by
     cases hq : inK e.1 c with
     | false => rfl
     | true => have := ((inK_iff _ _).1 hq).1; unfold inY at this; omega
    have e2 : kAt e.1 e.2.1 c = 0 := by unfold kAt; rw [this]; rfl
    rw [e2]; exact ⟨rfl, x05⟩
   ·have q2 : ¬ c.2.1 > 31 := by simpa using q2
    have hK : inK e.1 c = true := (inK_iff _ _).2 ⟨by unfold inY; omega, hpe.symm⟩
    have xd5 := Ext.dr w5
    obtain ⟨y, hy, hyr, hin, hso, hld, -⟩ := (h.ext (x05.tr xd5)).l.at hk
    subst hy
    refine ⟨hin, nnP hso ⟨y.1.1.1, y.1.1.2, y.2, LoadL_of fun j v hj => ?_, (rAt_spec (p := y.1.1) hyr.r (ho.g _ (List.mem_of_getElem? hk)).1 c hc).mono ?_⟩⟩
    ·rw [Nat.zero_add, padd_zero]
     refine hld j v ?_
     match j, hj with
     | 0, hj => exact hj
     | 1, hj => exact hj
     | 2, hj => exact hj
    ·rintro e' w10 ⟨rfl, x10⟩
     have zd5 : w5.drew.heap.size = w5.heap.size := rfl
     have e2 : rkAt y.1.1 y.1.2.1 c = kAt y.1.1 y.1.2.1 c := by unfold rkAt kAt; rw [hK]; rfl
     rw [e2]
     exact ⟨_, rfl, x10.heap (by omega), x10.heap (by omega), ((rt2.ext x5).ext (xd5.tr x10)).loadL (fun j hj => by simp at hj; subst hj; rfl), rfl, x05.tr (xd5.tr x10)⟩
end
end Go.Proofs.YtalpkjfpmdpbiaaGreatDoor
namespace Go.Proofs.YtalpkjfpmdpbiaaGreatDoor
open Go Go.Vc Go.RowKit Go.Proofs Go.Chk Go.Runs Go.Code
def mD (d : Dk) : Nat := d.safe.length + d.l.length
theorem mD_few {d : Dk} {n : Nat} (h : mD d ≤ n) : Few8 d n := by unfold mD at h; exact ⟨by omega, by omega⟩
section
variable {P P' : Nat → Prop} {w w' v v' : World} {s s1 s2 s3 : Sl} {T : Tb} {seed cap : Int}
theorem rReadP_spec (p : Po) (s : Sl) (b : List Int) (w : World) (hs : RdY w s b) (hb : InY b) (hc : s.n ≤ s.c) (hl : b.length ≤ 1099511627776) :
  Calls Tryz.prog n_ref11_Read #[pv p, .slice s.a s.n s.c] w fun e w' => (∃ (x y : Int) (sr : Sl), e = .returned (.tuple #[.agg #[.int .i64 x, .int .i64 y, .slice sr.a sr.n sr.c], .int .i64 (readB bMay b 8192).2]) ∧ ((readB bMay b 8192).2 = 0 → x = p.1 ∧ y = p.2 ∧ OwR w.heap.size w' sr (readB bMay b 8192).1)) ∧ Ext w w' := by
 apply ref11_Read.vc
 intro w0 e0 w1 e1
 have z0 : w0.heap.size = w.heap.size + 1 := by rw [e0]; simp
 have z1 : w1.heap.size = w.heap.size + 2 := by rw [e1]; simp [z0]
 have x1 : Ext w w1 := ((Ext.rfl' w).of_alloc e0).of_alloc e1
 clear e0 e1
 refine (ref06_Read_spec s b 8192 w1 (RdK.ext hs x1) hb hl hc (by decide) (by unfold inI; omega)).mono ?_
 rintro e w2 ⟨⟨s3, rfl, ho⟩, x2⟩
 have z2 := x2.size
 refine ⟨s3, _, rfl, x2.heap (by omega), x2.heap (by omega), Br.mk (fun hne => fun w5 e5 => ?_) (fun hne => fun w6 e6 => ?_)⟩
 ·have h0 : (readB bMay b 8192).2 ≠ 0 := by simpa using hne
  exact ⟨⟨0, 0, ⟨none, 0, 0⟩, rfl, fun h => absurd h h0⟩, (x1.tr x2).of_setRow e5 (by omega)⟩
 ·have h0 : (readB bMay b 8192).2 = 0 := by simpa using hne
  refine ⟨⟨p.1, p.2, s3, by rw [h0], fun _ => ⟨rfl, rfl, ?_⟩⟩, (x1.tr x2).of_setRow e6 (by omega)⟩
  refine OwnK.low (OwnK.keep ho fun j hj => ?_) (show w.heap.size ≤ w1.heap.size by omega)
  have := (ho.own.lt hj).1
  rw [e6]; exact setRow_other _ _ _ _ (by omega)
end
end Go.Proofs.YtalpkjfpmdpbiaaGreatDoor
namespace Go.Proofs.YtalpkjfpmdpbiaaGreatDoor
open Go Go.Vc Go.RowKit Go.Proofs Go.Chk Go.Runs Go.Code
section
variable {P P' : Nat → Prop} {w w' v v' : World} {s s1 s2 s3 : Sl} {T : Tb} {seed cap : Int}
end
end Go.Proofs.YtalpkjfpmdpbiaaGreatDoor
namespace Go.Proofs.YtalpkjfpmdpbiaaGreatDoor
open Go Go.Vc Go.RowKit Go.Proofs Go.Chk Go.Runs Go.Code
section
variable {P P' : Nat → Prop} {w w' v v' : World} {s s1 s2 s3 : Sl} {T : Tb} {seed cap : Int}
theorem ldS_bd {D : Dk} (h : DkOk D) (id : Int) : (ldS D id).1.length ≤ 1048576 := by
 have h0 := getD_le h (2 * id)
 have h1 := getD_le h (2 * id + 1)
 have r0 := rdS_le (getD D (2 * id))
 have r1 := rdS_le (getD D (2 * id + 1))
 unfold ldS
 split
 ·rw [ofS_ref]
  split
  ·split <;> simp only [List.length_nil] <;> omega
  ·split
   ·simp only; omega
   ·split <;> simp only <;> omega
 ·simp
end
end Go.Proofs.YtalpkjfpmdpbiaaGreatDoor
namespace Go.Proofs.YtalpkjfpmdpbiaaGreatDoor
open Go Go.Vc Go.RowKit Go.Proofs Go.Chk Go.Runs Go.Code
section
variable {P P' : Nat → Prop} {w w' v v' : World} {s s1 s2 s3 : Sl} {T : Tb} {seed cap : Int}
set_option maxRecDepth 100000 in
theorem rLoadFew_spec (h : RT P w T s1 s2 s3) (hP : Fw P w) (ho : Okt T) (hm : mD T.1 ≤ 500000) (hcap : inI cap) (p : Po) (hfew : ((T.2.length : Nat) : Int) < cap) (hnew : ∀ e ∈ T.2, e.1 ≠ p) :
  Calls Tryz.prog n_ref12_Load #[tvR seed cap T.1 s1 s2 s3, pv p] w (TbRes2 P w seed cap (ldE seed cap T.1 T.2 p)) := by
 apply (ref12_Load.vc (a0_5 := s1) (a0_6 := s2) (a0_7 := s3))
 intro w0 e0 w1 e1 w2 e2
 have x2 : Ext w w2 := (((Ext.rfl' _).of_alloc e0).of_alloc e1).of_alloc e2
 have z0 : w0.heap.size = w.heap.size + 1 := by rw [e0]; simp
 have z1 : w1.heap.size = w.heap.size + 2 := by rw [e1]; simp [z0]
 have z2 : w2.heap.size = w.heap.size + 3 := by rw [e2]; simp [z1]
 clear e0 e1 e2
 refine (rId_spec p w2).mono ?_
 rintro e w3 ⟨rfl, x3⟩
 have z3 := x3.size
 have x03 := x2.tr x3
 refine ⟨_, rfl, x3.heap (by omega), x3.heap (by omega), x3.heap (by omega), ?_⟩
 have hid0 : ¬ inT p → idK p = 0 := idK_out
 have hid1 : inT p → 1 ≤ idK p ∧ idK p ≤ 1099511627776 := fun q => idK_pos q
 refine Br.mk (fun q => fun w5 e5 => ?_) (fun q => ?_)
 ·have hin : ¬ inT p := fun hh => by have := hid1 hh; simp at q; omega
  have e1 : ldE seed cap T.1 T.2 p = ((T.1, T.2), 5) := by unfold ldE; rw [if_pos hin]
  have x5 := x03.of_setRow e5 (by omega)
  rw [e1]
  exact ⟨s1, s2, s3, rfl, h.ext x5, x5⟩
 have hin : inT p := by
  by_cases hh : inT p
  ·exact hh
  ·have := hid0 hh; simp [this] at q
 have hid := hid1 hin
 refine (rFind_spec (seed := seed) (cap := cap) (h.ext x03) ho.l p).mono ?_
 rintro e w6 ⟨rfl, x6⟩
 have z6 := x6.size
 have x06 := x03.tr x6
 refine ⟨_, rfl, x6.heap (by omega), x6.heap (by omega), x6.heap (by omega), ?_⟩
 have hl := ho.l
 have leaf : ∀ {v : World} {T' : Tb} {sa sb sc : Sl} (y : Ci), Ext w v → w.heap.size + 3 ≤ v.heap.size → RT (Bx P w.heap.size (w.heap.size + 3)) v T' sa sb sc → RR (Bx P w.heap.size (w.heap.size + 3)) v y.2 (ofC y.1.2.1) → T'.2.length ≤ 1000000 →
   Calls Tryz.prog n_ref12_last #[tvR seed cap T'.1 sa sb sc, .agg #[.int .i64 y.1.1.1, .int .i64 y.1.1.2, .slice y.2.a y.2.n y.2.c, .bool y.1.2.2.1, .int .i64 y.1.2.2.2]] v fun e w' => ∃ sa' sb' sc' : Sl, e = .returned (tvR seed cap T'.1 sa' sb' sc') ∧ Ext v w' ∧ ∀ w1' c, w1' = w'.setRow w1.heap.size c → TbRes2 P w seed cap ((T'.1, T'.2 ++ [y.1]), 0) (.returned (.tuple #[tvR seed cap T'.1 sa' sb' sc', .int .i64 0])) w1' := by
  intro v T' sa sb sc y xv zv hT hy hl'
  refine (rLast_spec (seed := seed) (cap := cap) hT (hP.bx xv zv) hl' y hy).mono ?_
  rintro e w' ⟨sa', sb', sc', rfl, h', x'⟩
  exact ⟨sa', sb', sc', rfl, x', fun w1' c e1 => ⟨sa', sb', sc', rfl, (h'.box e1 ⟨by omega, by omega⟩).out, (xv.tr x').of_setRow e1 (by omega)⟩⟩
 have hRd : ∀ {b : List Int}, Bys b → (readB bMay b 8192).2 = 0 → ofC (cellsR (readB bMay b 8192).1) = (readB bMay b 8192).1 ∧ cellsB seed p b = cellsR (readB bMay b 8192).1 := fun {b} hb h0 => by
  obtain ⟨f1, f2, f3⟩ := readB_again (b := b) (n := 8192) hb (by decide) h0
  have hmy : mayR bMay (readB bMay b 8192).1 8192 = true := by
   have := f2.mayR (by omega)
   rw [f3] at this; exact this
  exact ⟨(mayR_inv hmy).1, by unfold cellsB; rw [if_pos h0]⟩
 have hRn : ∀ {b : List Int}, (readB bMay b 8192).2 ≠ 0 → cellsB seed p b = made seed p := fun {b} h0 => by unfold cellsB; rw [if_neg h0]
 rcases (firstI_cases (fun e : En => e.1 == p) T.2).symm with ⟨k, e, hk, he, hf, -⟩ | ⟨hf, hno⟩
 ·exact absurd (by simpa using he) (hnew _ (List.mem_of_getElem? hk))
 rw [hf]
 have e1 : ldE seed cap T.1 T.2 p = if (roomE cap T.1 T.2).2 ≠ 0 then roomE cap T.1 T.2 else (((roomE cap T.1 T.2).1.1, (roomE cap T.1 T.2).1.2 ++ [(p, cellsB seed p (ldS (roomE cap T.1 T.2).1.1 (idK p)).1, false, 0)]), 0) := by
  unfold ldE
  rw [if_neg (by simpa using hin), hf, if_neg (by decide)]
 obtain ⟨its, hits, hms⟩ := h.l
 have hn := hits.n
 have hil : its.length = T.2.length := by rw [← hms, List.length_map]
 refine Br.mk (fun q => by simp at q) (fun _ => Br.mk (fun hfull => ?_) (fun hfree => ?_))
 ·have hfull : ¬ ((T.2.length : Nat) : Int) < cap := by rw [← hil, ← hn]; simpa using hfull
  exact absurd hfew hfull
 ·have hfree : ((T.2.length : Nat) : Int) < cap := by rw [← hil, ← hn]; simpa using hfree
  have eR : roomE cap T.1 T.2 = ((T.1, T.2), 0) := by unfold roomE; rw [if_pos hfree]
  rw [e1, eR, if_neg (by simp)]
  have h6 := h.into x06 (w.heap.size + 3)
  refine (rLoad9_spec h6.d (hP.bx x06 (by omega)) ho.d (mD_few (by omega)) (idK p)).mono ?_
  rintro e' w66 ⟨s67, rfl, h67, x66⟩
  have z66 := x66.size
  refine ⟨s67, _, _, rfl, x66.heap (by omega), x66.heap (by omega), x66.heap (by omega), (rReadP_spec p s67 _ w66 h67.r h67.y h67.c (by have := ldS_bd ho.d (idK p); omega)).mono ?_⟩
  rintro e' w70 ⟨⟨x71, x72, s73, rfl, h70⟩, x70⟩
  have z70 := x70.size
  refine ⟨x71, x72, s73, _, rfl, x70.heap (by omega), x70.heap (by omega), x70.heap (by omega), fun w75 e75 w76 e76 => ?_⟩
  have x76 : Ext w70 w76 := ((Ext.rfl' _).of_alloc e75).of_setRow e76 (Nat.le_refl _)
  have z76 : w76.heap.size = w70.heap.size + 1 := by rw [e76, e75]; simp
  clear e75 e76
  have x076 := x06.tr (x66.tr (x70.tr x76))
  generalize hbb : (ldS T.1 (idK p)).1 = bb at *
  refine Br.mk (fun q2 => (rMake_spec seed p (inT_okP hin) w76).mono ?_) (fun q2 => ?_)
  ·rintro e' w77 ⟨s80, rfl, ho80, x77⟩
   have q2 : (readB bMay bb 8192).2 ≠ 0 := by simpa using q2
   have z77 := x77.size
   refine ⟨_, _, s80, rfl, x77.heap (by omega), x77.heap (by omega), x77.heap (by omega), x77.heap (by omega), fun w81 e81 => ?_⟩
   have z81 : w81.heap.size = w77.heap.size := by rw [e81]; simp
   have x081 := (x076.tr x77).of_setRow e81 (by omega)
   have h81 : RT (Bx P w.heap.size (w.heap.size + 3)) w81 T s1 s2 s3 := (h6.ext (x66.tr x70)).same fun i hp hi => ⟨by rw [e81, setRow_other _ _ _ _ (by omega)]; exact (x76.tr x77).heap (by omega), hp⟩
   have hr81 : RR (Bx P w.heap.size (w.heap.size + 3)) w81 s80 (ofC (made seed p)) := by
    refine RR.own (B := w76.heap.size) (OwnK.keep ho80 fun j hj => ?_) (fun i hi => ⟨hP i (by omega), .inr (by omega)⟩)
    have := (ho80.own.lt hj).1
    rw [e81, setRow_other _ _ _ _ (by omega)]
   clear e81
   refine (leaf ((p, made seed p, false, 0), s80) x081 (by omega) h81 hr81 hl).mono ?_
   rintro e' w82 ⟨sa', sb', sc', rfl, x82, fin⟩
   rw [hRn q2]
   exact ⟨_, _, _, _, _, sa', sb', sc', rfl, x82.heap (by omega), x82.heap (by omega), x82.heap (by omega), x82.heap (by omega), fun w91 e91 => fin w91 _ e91⟩
  ·have q2 : (readB bMay bb 8192).2 = 0 := by simpa using q2
   obtain ⟨rfl, rfl, ho73⟩ := h70 q2
   obtain ⟨hc1, hc2⟩ := hRd h67.y q2
   rw [← hc1] at ho73
   have hr76 : RR (Bx P w.heap.size (w.heap.size + 3)) w76 s73 (ofC (cellsR (readB bMay bb 8192).1)) := RR.ext (RR.own ho73 fun i hi => ⟨hP i (by omega), .inr (by omega)⟩) x76
   refine (leaf ((p, cellsR (readB bMay bb 8192).1, false, 0), s73) x076 (by omega) (h6.ext (x66.tr (x70.tr x76))) hr76 hl).mono ?_
   rintro e' w92 ⟨sa', sb', sc', rfl, x92, fin⟩
   rw [hc2]
   exact ⟨_, _, _, _, _, sa', sb', sc', rfl, x92.heap (by omega), x92.heap (by omega), x92.heap (by omega), x92.heap (by omega), fun w101 e101 => fin w101 _ e101⟩
end
end Go.Proofs.YtalpkjfpmdpbiaaGreatDoor
