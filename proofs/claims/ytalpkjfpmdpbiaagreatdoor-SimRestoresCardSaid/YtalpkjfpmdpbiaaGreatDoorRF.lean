import Derived.Test.YtalpkjfpmdpbiaaGreatDoorRA
set_option linter.all false
namespace Go.Proofs.YtalpkjfpmdpbiaaGreatDoor
open Go Go.Vc Go.RowKit Go.Proofs Go.bY Go.aD Go.Code
abbrev Ci:=En × Sl
abbrev cw(y:Ci):List Value:=[.int .i64 y.1.1.1,.int .i64 y.1.1.2,.slice y.2.a y.2.n y.2.c,.bool y.1.2.2.1,.int .i64 y.1.2.2.2]
abbrev KU:TypeId:=110
structure RR(P:Nat->Prop)(w:World)(s:Sl)(l:List Rn):Prop where
 r:cU w s l
 p:l≠ []->∀g,s.ay=some g->P g
structure zg (P : Nat → Prop) (w : World) (s : Sl) (its : List Ci) : Prop where
 r : RdK w s 5 (its.map cw)
 y : ∀ y ∈ its, RR P w y.2 (bk y.1.2.1)
 p : its ≠ [] → ∀ g, s.ay = some g → P g
 c : s.n ≤ s.c
theorem Ha (y : Ci) : One (cw y) := by
 intro v hv; simp at hv; rcases hv with rfl | rfl | rfl | rfl | rfl <;> rfl
section
variable{P P':Nat->Prop}{w w':World}{s:Sl}{its:List Ci}
theorem RR.ext{l:List Rn}(h:RR P w s l)(x:Ext w w'):RR P w' s l:=⟨RdK.ext h.r x,h.p⟩
theorem RR.same {l : List Rn} (h : RR P w s l) (hk : ∀ i, P i → i < w.heap.size → w'.heap[i]? = w.heap[i]? ∧ P' i) : RR P' w' s l := by
 have hb : l.map rv ≠ [] → l ≠ [] := fun q e => q (by rw [e]; rfl)
 have hb' : l ≠ [] → l.map rv ≠ [] := fun q e => q (by simpa using e)
 exact ⟨RdK.zh h.r fun hne g hg => (hk g (h.p (hb hne) g hg) (RdK.jP h.r (by decide) hne hg)).1, fun hne g hg => (hk g (h.p hne g hg) (RdK.jP h.r (by decide) (hb' hne) hg)).2⟩
theorem RR.own {l : List Rn} {B : Nat} (h : jX B w s l) (hP : ∀ i, B ≤ i → P i) : RR P w s l := ⟨jX.qy h, fun _ g hg => hP g (h.own.lt hg).1⟩
theorem zg.ext (h : zg P w s its) (x : Ext w w') : zg P w' s its := ⟨h.r.ext x, fun y hy => (h.y y hy).ext x, h.p, h.c⟩
theorem zg.same (h : zg P w s its) (hk : ∀ i, P i → i < w.heap.size → w'.heap[i]? = w.heap[i]? ∧ P' i) : zg P' w' s its := by
 have hb : its.map cw ≠ [] → its ≠ [] := fun q e => q (by rw [e]; rfl)
 have hb' : its ≠ [] → its.map cw ≠ [] := fun q e => q (by simpa using e)
 exact ⟨RdK.zh h.r fun hne g hg => (hk g (h.p (hb hne) g hg) (RdK.jP h.r (by decide) hne hg)).1, fun y hy => (h.y y hy).same hk, fun hne g hg => (hk g (h.p hne g hg) (RdK.jP h.r (by decide) (hb' hne) hg)).2, h.c⟩
theorem zg.nil : zg P w ⟨none, 0, 0⟩ [] := ⟨⟨rfl, (fun r hr => by cases hr), fun i r hi => by simp at hi⟩, (fun y hy => by cases hy), fun h => absurd rfl h, Nat.le_refl _⟩
theorem zg.n (h : zg P w s its) : s.n = its.length := by have := h.r.n; rwa [List.length_map] at this
theorem zg.at (h : zg P w s its) {k : Nat} {y : Ci} (hk : its[k]? = some y) : bA s.a (k : Int) s.n ∧ (ab s.a (((k : Nat) : Int).toNat * 5)).isSome = true ∧ ∀ j v, (cw y)[j]? = some v → ld w (ab (ab s.a (((k : Nat) : Int).toNat * 5)) j) = some v := by
 have hl := (List.getElem?_eq_some_iff.1 hk).1
 have hn := h.n
 have hin := RdK.ee h.r (by decide) (i := (k : Int)) (by omega) (by omega)
 have hr : (its.map cw)[k]? = some (cw y) := by rw [List.getElem?_map, hk]; rfl
 exact ⟨hin, by rw [cF]; exact hin.1, fun j v hj => h.r.at hr hj⟩
theorem zg.load (h : zg P w s its) {k : Nat} {y : Ci} (hk : its[k]? = some y) : ah w (ab s.a (((k : Nat) : Int).toNat * 5)) 0 (cw y) :=
 dp fun j v hj => by rw [Nat.zero_add]; exact (h.at hk).2.2 j v hj
theorem zg.own {B : Nat} (h : ag B KU 5 w s (its.map cw)) (hy : ∀ y ∈ its, RR P w y.2 (bk y.1.2.1)) (hP : ∀ i, B ≤ i → P i) : zg P w s its := ⟨ag.rd h (by decide), hy, (fun _ g hg => hP g (h.own.lt hg).1), ag.le h⟩
end
def RC (P : Nat → Prop) (w : World) (s : Sl) (l : List En) : Prop := ∃ its, zg P w s its ∧ its.map (·.1) = l
abbrev ER(ae cap:Int)(d:Dk)(s1 s2 s3:Sl):Value:=.agg #[ae,cap,d.room,d.cS,d.wait,s1,s2,s3]
structure RT(P:Nat->Prop)(w:World)(T:Tb)(s1 s2 s3:Sl):Prop where
 d:FT P w T.1 s1 s2
 l:RC P w s3 T.2
abbrev Bx(P:Nat->Prop)(a b:Nat):Nat->Prop:=fun i=>P i/\(i<a\/b<=i)
section
variable{P P':Nat->Prop}{w w' v v':World}{s s1 s2 s3:Sl}{T:Tb}{ae cap:Int}
theorem RC.ext{l:List En}(h:RC P w s l)(x:Ext w w'):RC P w' s l:=by obtain⟨its,h1,h2⟩:=h;exact⟨its,h1.ext x,h2⟩
theorem RC.same{l:List En}(h:RC P w s l)(hk:∀i,P i->i<w.heap.size->w'.heap[i]? =w.heap[i]?/\P' i):RC P' w' s l:=by obtain⟨its,h1,h2⟩:=h;exact⟨its,h1.same hk,h2⟩
theorem RC.nil : RC P w ⟨none, 0, 0⟩ [] := ⟨[], zg.nil, rfl⟩
theorem RT.ext(h:RT P w T s1 s2 s3)(x:Ext w w'):RT P w' T s1 s2 s3:=⟨h.d.ext x,h.l.ext x⟩
theorem RT.same(h:RT P w T s1 s2 s3)(hk:∀i,P i->i<w.heap.size->w'.heap[i]? =w.heap[i]?/\P' i):RT P' w' T s1 s2 s3:=⟨h.d.same hk,h.l.same hk⟩
theorem RT.Bi (h : RT P w T s1 s2 s3) (x : Ext w v) (b : Nat) : RT (Bx P w.heap.size b) v T s1 s2 s3 := h.same fun _ hp hi => ⟨x.heap hi, hp, .inl hi⟩
theorem RT.box {a b g : Nat} {c : Array Value} (h : RT (Bx P a b) v T s1 s2 s3) (e : v' = v.setRow g c) (hg : a ≤ g ∧ g < b) : RT (Bx P a b) v' T s1 s2 s3 := h.same fun i hp _ => ⟨by rw [e, setRow_other _ _ _ _ (by have := hp.2; omega)], hp⟩
theorem RT.out {a b : Nat} (h : RT (Bx P a b) v T s1 s2 s3) : RT P v T s1 s2 s3 := h.same fun _ hp _ => ⟨rfl, hp.1⟩
theorem Fw.bx {b : Nat} (hP : Fw P w) (x : Ext w v) (hb : b ≤ v.heap.size) : Fw (Bx P w.heap.size b) v := fun i hi => ⟨hP i (by have := x.size; omega), .inr (by omega)⟩
theorem gA (h : RT P w T s1 s2 s3) (hl : T.2.length ≤ 1000000) (p : Po) :
  Calls Tryz.prog fR #[ER ae cap T.1 s1 s2 s3, pv p] w fun e w' => e = .returned (.int .i64 (aU (fun e : En => e.1 == p) T.2)) ∧ Ext w w' := by
 apply (qX.vc (a0_5 := s1) (a0_6 := s2) (a0_7 := s3))
 intro w0 e0 w1 e1
 have x1 : Ext w w1 := ((Ext.ao _).aa e0).aa e1
 clear e0 e1
 obtain ⟨its, hits, hm⟩ := h.l
 have hn := hits.n
 have hTl : T.2.length = its.length := by rw [← hm, List.length_map]
 refine ⟨fun n i wr => ∃ j : Nat, i = j ∧ j + n = its.length ∧ (∀ m, m < j → ∀ y, T.2[m]? = some y → (y.1 == p) = false) ∧ Ext w wr, ⟨its.length, rfl, rfl, 0, rfl, by omega, (fun m hm => absurd hm (Nat.not_lt_zero m)), x1⟩, ?_⟩
 rintro n us i wr ⟨j, rfl, hj, hno, xr⟩
 refine Br.mk (fun hc => ?_) (fun hc => ?_)
 ·replace hc := dj hc
  obtain ⟨y, hy⟩ := aI (l := its) (i := j) (by omega)
  have hyT : T.2[j]? = some y.1 := by rw [← hm, List.getElem?_map, hy]; rfl
  have xd := xr.tr (Ext.dr wr)
  obtain ⟨hin, hso, hld⟩ := (hits.ext xd).at hy
  have p0 : ab (ab (ab s3.a (((j : Nat) : Int).toNat * 5)) 0) 0 = ab s3.a (((j : Nat) : Int).toNat * 5) := by rw [ba, ba]
  refine ⟨hin, Cu hso (Cu (by rw [cF]; exact hso) ⟨y.1.1.1, y.1.1.2, ?_, Br.mk (fun hq => ?_) (fun hq => ?_)⟩)⟩
  ·rw [p0]
   refine dp fun q v hq => ?_
   rw [Nat.zero_add]
   refine hld q v ?_
   match q, hq with
   | 0, hq => exact hq
   | 1, hq => exact hq
  ·have : (y.1.1 == p) = true := by
    simp only [Bool.and_eq_true, beq_iff_eq] at hq ⊢
    exact Prod.ext hq.1 hq.2
   rw [pz hyT this hno]
   exact ⟨rfl, xd⟩
  ·refine ⟨n - 1, by omega, rfl, rfl, j + 1, by rw [wI]; omega, by omega, fun m hm' y' hy' => ?_, xd⟩
   rcases Nat.lt_or_ge m j with q | q
   ·exact hno m q y' hy'
   ·have : m = j := by omega
    subst this
    rw [hyT] at hy'; cases hy'
    cases hb : (y.1.1 == p) with
    | false => rfl
    | true =>
      have : y.1.1 = p := by simpa using hb
      rw [← this] at hq; simp at hq
 ·replace hc := dH hc
  have : aU (fun e : En => e.1 == p) T.2 = -1 := g9 fun y hy => by
   obtain ⟨m, hm'⟩ := List.getElem?_of_mem hy
   have hml := (List.getElem?_eq_some_iff.1 hm').1
   have hTl : T.2.length = its.length := by rw [← hm, List.length_map]
   exact hno m (by omega) y hm'
  rw [this]
  exact ⟨rfl, xr⟩
abbrev GK (P : Nat → Prop) (w : World) (ae cap : Int) (T : Tb) (e : Ending) (w' : World) : Prop := ∃ s1' s2' s3' : Sl, e = .returned (ER ae cap T.1 s1' s2' s3') ∧ RT P w' T s1' s2' s3' ∧ Ext w w'
abbrev xi (P : Nat → Prop) (w : World) (ae cap : Int) (T : Tb × Int) (e : Ending) (w' : World) : Prop := ∃ s1' s2' s3' : Sl, e = .returned (.tuple #[ER ae cap T.1.1 s1' s2' s3', T.2]) ∧ RT P w' T.1 s1' s2' s3' ∧ Ext w w'
theorem xj (h : RT P w T s1 s2 s3) (hP : Fw P w) (hl : T.2.length ≤ 1000000) (y : Ci) (hy : RR P w y.2 (bk y.1.2.1)) :
  Calls Tryz.prog bt #[ER ae cap T.1 s1 s2 s3, .agg #[y.1.1.1, y.1.1.2, .slice y.2.a y.2.n y.2.c, .bool y.1.2.2.1, y.1.2.2.2]] w (GK P w ae cap (T.1, T.2 ++ [y.1])) := by
 apply (qY.vc (a0_5 := s1) (a0_6 := s2) (a0_7 := s3) (a1_2 := y.2))
 intro w0 e0 w1 e1 w2 e2
 have x2 : Ext w w2 := (((Ext.ao _).aa e0).aa e1).aa e2
 have z0 := cL e0
 have z1 : w1.heap.size = w.heap.size + 2 := by rw [e1]; simp [z0]
 have z2 : w2.heap.size = w.heap.size + 3 := by rw [e2]; simp [z1]
 clear e0 e1 e2
 obtain ⟨its, hits, hm⟩ := h.l
 have hn := hits.n
 have hTl : T.2.length = its.length := by rw [← hm, List.length_map]
 have hits2 := hits.ext x2
 have h0 : ag w2.heap.size KU 5 w2 ⟨none, 0, 0⟩ [] := ag.nil
 have ha := h0.np (bytes := 56) (more := its.map cw) (Nat.le_refl _) (fun r hr => by obtain ⟨y, -, rfl⟩ := List.mem_map.1 hr; rfl) (fun r hr => by obtain ⟨y, -, rfl⟩ := List.mem_map.1 hr; exact Ha y) (by simp only [List.length_map]; omega) (by simp only [List.length_map]; omega)
 rw [List.length_map, ← hn] at ha
 obtain ⟨hp, hres⟩ := ha
 refine ⟨(its.map cw).flatten, RdK.flat hits2.r (by decide), hp, fun s4 w5 hr5 => ?_⟩
 obtain ⟨ho5, hn5, x5, -, -⟩ := hres s4 w5 hr5
 have x5 : Ext w2 w5 := x5
 have z5 := x5.size
 have hn4 : s4.n = its.length := by have := (ag.rd ho5 (by decide)).n; simpa using this
 refine ⟨x5.k, x5.k, x5.k, fun w6 e6 => ?_⟩
 subst e6
 obtain ⟨hp8, hres8⟩ := ho5.ly (bytes := 56) (news := cw y) (.cells #[y.1.1.1, y.1.1.2, .slice y.2.a y.2.n y.2.c, .bool y.1.2.2.1, y.1.2.2.2] 110) z5 rfl (Ha y) (by omega) (by omega)
 refine ⟨hp8, fun s7 w8 hr8 => ?_⟩
 obtain ⟨f8, ho8, hn8, x8, -, -⟩ := hres8 s7 w8 hr8
 have xa := Ext.al w5 (.cells #[y.1.1.1, y.1.1.2, .slice y.2.a y.2.n y.2.c, .bool y.1.2.2.1, y.1.2.2.2] 110)
 have x8w : Ext w w8 := Below.trans x2 (Below.trans (Below.mono x5 x2.size) (Below.mono x8 x2.size))
 have kp : ∀ j, j < w2.heap.size → w8.heap[j]? = (w5.alloc (.cells #[y.1.1.1, y.1.1.2, .slice y.2.a y.2.n y.2.c, .bool y.1.2.2.1, y.1.2.2.2] 110)).heap[j]? := fun j hj => by rw [x8.block j hj, xa.k]
 refine ⟨kp _ (by omega), kp _ (by omega), kp _ (by omega), f8, fun w9 e9 w10 e10 => ?_⟩
 have x10 := (x8w.af e9 (Nat.le_refl _)).af e10 (by omega)
 have ho10 : ag w2.heap.size KU 5 w10 s7 ((its ++ [y]).map cw) := by
  refine ag.aW (rows := (its ++ [y]).map cw) (by rw [List.map_append]; simpa using ho8) fun j hj => ?_
  have hjB := (ho8.own.lt hj).1
  rw [e10, setRow_other _ _ _ _ (by omega), e9, setRow_other _ _ _ _ (by omega)]
 refine ⟨s1, s2, s7, rfl, ⟨h.d.ext x10, its ++ [y], zg.own ho10 (fun z hz => ?_) (fun i hi => hP i (by omega)), by rw [List.map_append, hm]; rfl⟩, x10⟩
 rcases List.mem_append.1 hz with hz | hz
 ·exact (hits.y z hz).ext x10
 ·simp only [List.mem_singleton] at hz
  subst hz; exact hy.ext x10
theorem yC (h : RT P w T s1 s2 s3) (hP : Fw P w) (hl : T.2.length ≤ 1000000) {i : Nat} (hi : i < T.2.length) :
  Calls Tryz.prog bR #[ER ae cap T.1 s1 s2 s3, .int .i64 (i : Int)] w (GK P w ae cap (T.1, T.2.eraseIdx i)) := by
 apply (k7.vc (a0_5 := s1) (a0_6 := s2) (a0_7 := s3))
 intro w0 e0 w1 e1
 have x1 : Ext w w1 := ((Ext.ao _).aa e0).aa e1
 have z0 := cL e0
 have z1 : w1.heap.size = w.heap.size + 2 := by rw [e1]; simp [z0]
 clear e0 e1
 obtain ⟨its, hits, hm⟩ := h.l
 have hn := hits.n
 have hTl : T.2.length = its.length := by rw [← hm, List.length_map]
 have hits1 := hits.ext x1
 have hc3 := hits.c
 have wi : IntKind.wrap .i64 ((i : Int) + 1) = ((i + 1 : Nat) : Int) := by rw [wI]; omega
 rw [wi]
 have wdc : ∀ {l : List Ci}, ∀ r ∈ l.map cw, r.length = 5 := fun r hr => by obtain ⟨y, -, rfl⟩ := List.mem_map.1 hr; rfl
 have onc : ∀ {l : List Ci}, ∀ r ∈ l.map cw, One r := fun r hr => by obtain ⟨y, -, rfl⟩ := List.mem_map.1 hr; exact Ha y
 have c1 := RdK.cut (c' := s3.c) (c'' := s3.c) hits1.r (m := i) (by rw [List.length_map]; omega)
 rw [← List.map_take] at c1
 have h0 : ag w1.heap.size KU 5 w1 ⟨none, 0, 0⟩ [] := ag.nil
 have ha := h0.np (bytes := 56) (more := (its.take i).map cw) (Nat.le_refl _) wdc onc (by simp only [List.length_map, List.length_take]; omega) (by simp only [List.length_map, List.length_take]; omega)
 rw [List.length_map, List.length_take, Nat.min_eq_left (by omega)] at ha
 obtain ⟨hp, hres⟩ := ha
 refine ⟨by omega, by omega, ((its.take i).map cw).flatten, RdK.flat c1 (by decide), hp, fun s3' w4 hr4 => ?_⟩
 obtain ⟨ho4, hn4, x4, -, -⟩ := hres s3' w4 hr4
 have x4 : Ext w1 w4 := x4
 have z4 := x4.size
 have hn3 : s3'.n = i := by have := (ag.rd ho4 (by decide)).n; simp at this; omega
 have c2 := RdK.rest (hits1.r.ext x4) (l := i + 1) (m := s3.c) (n' := its.length - (i + 1)) (c' := s3.c) (by rw [List.length_map]) (by rw [List.length_map]; omega)
 rw [← List.map_drop] at c2
 have hb := ho4.np (bytes := 56) (more := (its.drop (i + 1)).map cw) z4 wdc onc (by simp only [List.length_map, List.length_drop]; omega) (by simp only [List.length_map, List.length_drop]; omega)
 rw [List.length_map, List.length_drop] at hb
 obtain ⟨hp7, hres7⟩ := hb
 have en : s3.n - (((i + 1 : Nat) : Int)).toNat = its.length - (i + 1) := by omega
 rw [en]
 refine ⟨x4.k, x4.k, by omega, by omega, ((its.drop (i + 1)).map cw).flatten, RdK.flat c2 (by decide), hp7, fun s6 w7 hr7 => ?_⟩
 obtain ⟨ho7, hn7, x7, -, -⟩ := hres7 s6 w7 hr7
 have x7w : Ext w w7 := Below.trans x1 (Below.trans (Below.mono x4 x1.size) (Below.mono x7 x1.size))
 refine ⟨x7.block _ (by omega), x7.block _ (by omega), fun w8 e8 w9 e9 => ?_⟩
 have x9 := (x7w.af e8 (Nat.le_refl _)).af e9 (by omega)
 have ho9 : ag w1.heap.size KU 5 w9 s6 ((its.eraseIdx i).map cw) := by
  refine ag.aW (rows := (its.eraseIdx i).map cw) (by rw [List.eraseIdx_eq_take_drop_succ, List.map_append]; simpa using ho7) fun j hj => ?_
  have hjB := (ho7.own.lt hj).1
  rw [e9, setRow_other _ _ _ _ (by omega), e8, setRow_other _ _ _ _ (by omega)]
 refine ⟨s1, s2, s6, rfl, ⟨h.d.ext x9, its.eraseIdx i, zg.own ho9 (fun z hz => (hits.y z ((List.eraseIdx_sublist ..).subset hz)).ext x9) (fun i hi => hP i (by omega)), by rw [← hm, List.eraseIdx_eq_take_drop_succ, List.eraseIdx_eq_take_drop_succ, List.map_append, List.map_take, List.map_drop]⟩, x9⟩
end
end Go.Proofs.YtalpkjfpmdpbiaaGreatDoor
namespace Go.Proofs.YtalpkjfpmdpbiaaGreatDoor
open Go Go.Vc Go.RowKit Go.Proofs Go.bY Go.aD Go.Code
section
variable{P P':Nat->Prop}{w w' v v':World}{s s1 s2 s3:Sl}{T:Tb}{ae cap:Int}
theorem RC.at {l : List En} {i : Nat} {e : En} (h : RC P w s l) (hi : l[i]? = some e) : ∃ y : Ci, y.1 = e ∧ RR P w y.2 (bk e.2.1) ∧ bA s.a (i : Int) s.n ∧ (ab s.a (((i : Nat) : Int).toNat * 5)).isSome = true ∧ (∀ j v, (cw y)[j]? = some v → ld w (ab (ab s.a (((i : Nat) : Int).toNat * 5)) j) = some v) ∧ ah w (ab s.a (((i : Nat) : Int).toNat * 5)) 0 (cw y) := by
 obtain ⟨its, h1, hm⟩ := h
 rw [← hm, List.getElem?_map] at hi
 obtain ⟨y, hy, e1⟩ := Option.map_eq_some_iff.1 hi
 obtain ⟨a, b, c⟩ := h1.at hy
 exact ⟨y, e1, by rw [← e1]; exact h1.y y (List.mem_of_getElem? hy), a, b, c, h1.load hy⟩
end
end Go.Proofs.YtalpkjfpmdpbiaaGreatDoor
namespace Go.Proofs.YtalpkjfpmdpbiaaGreatDoor
open Go Go.Vc Go.RowKit Go.Proofs Go.bY Go.aD Go.Code
section
variable{P P':Nat->Prop}{w w' v v':World}{s s1 s2 s3:Sl}{T:Tb}{ae cap:Int}
structure Ex(T:Tb):Prop where
 d:kZ T.1
 f:ID T.1 1000000
 g:yZ T.2
 l:T.2.length<=1000000
theorem Bw (ae limit room : Int) (w : World) : Calls Tryz.prog uZ #[ae, limit, room] w (GK P w ae (min (max limit 1) 16) (fW room, [])) := by
 apply tY.vc
 intro w0 e0
 have x0 : Ext w w0 := (Ext.ao _).aa e0
 have z0 := cL e0
 clear e0
 refine (CW (P := P) room w0).mono ?_
 rintro e w1 ⟨rfl, h1, x1⟩
 have ec : (if 16 < (if 1 > limit then 1 else limit) then 16 else (if 1 > limit then 1 else limit)) = min (max limit 1) 16 := by split <;> split <;> omega
 refine ⟨_, _, _, ⟨none, 0, 0⟩, ⟨none, 0, 0⟩, rfl, x1.k, fun w7 e7 => ?_⟩
 have x7 := (x0.tr x1).af e7 (Nat.le_refl _)
 rw [ec]
 exact ⟨⟨none, 0, 0⟩, ⟨none, 0, 0⟩, ⟨none, 0, 0⟩, rfl, ⟨⟨RW.nil, RW.nil⟩, RC.nil⟩, x7⟩
theorem wF (h : RT P w T s1 s2 s3) (ho : Ex T) (c : Ce) (hc : lx c) :
  Calls Tryz.prog wZ #[ER ae cap T.1 s1 s2 s3, iR c] w fun e w' => e = .returned (.int .i64 (cW T.2 c)) ∧ Ext w w' := by
 apply (xc.vc (a0_5 := s1) (a0_6 := s2) (a0_7 := s3))
 intro w0 e0 w1 e1
 have x1 : Ext w w1 := ((Ext.ao _).aa e0).aa e1
 have z0 := cL e0
 have z1 : w1.heap.size = w.heap.size + 2 := by rw [e1]; simp [z0]
 have rt1 : Row w1 w.heap.size [ae, cap, T.1.room, T.1.cS, T.1.wait, s1, s2, s3] 30 := (by rw [e0]; exact Row.new w [_, _, _, _, _, _, _, _] _ : Row w0 w.heap.size _ 30).ext ((Ext.ao _).aa e1)
 clear e0 e1
 have xd := Ext.dr w1
 have zd : w1.drew.heap.size = w1.heap.size := rfl
 refine (lW c hc w1.drew).mono ?_
 rintro e w2 ⟨rfl, x2⟩
 have z2 := x2.size
 have x02 := x1.tr (xd.tr x2)
 have rt2 := rt1.ext (xd.tr x2)
 refine ⟨_, _, rfl, x2.k, x2.k, rt2.aL (fun j hj => by rw [Nat.zero_add]), (gA (ae := ae) (cap := cap) (h.ext x02) ho.l (pos c)).mono ?_⟩
 rintro e w5 ⟨rfl, x5⟩
 have z5 := x5.size
 have x05 := x02.tr x5
 refine ⟨_, rfl, x5.k, x5.k, ?_⟩
 rcases bZ (fun e : En => e.1 == pos c) T.2 with ⟨hf, hno⟩ | ⟨k, e, hk, he, hf, -⟩
 ·have e1 : cW T.2 c = -1 := by unfold cW; rw [hf, if_pos (by decide)]
  rw [hf, e1]
  exact Br.mk (fun _ => ⟨rfl, x05⟩) (fun q => by simp at q)
 ·have e1 : cW T.2 c = if c.2.1 < 0 then 1 else rA e.1 e.2.1 c := by unfold cW; rw [hf, if_neg (by omega), Int.toNat_natCast, hk]; rfl
  rw [hf, e1]
  refine Br.mk (fun q => by simp at q; omega) (fun _ => Br.mk (fun q => ?_) (fun q => ?_))
  ·rw [if_pos (by simpa using q)]; exact ⟨rfl, x05⟩
  ·have q : ¬ c.2.1 < 0 := by simpa using q
   rw [if_neg q]
   have hpe : e.1 = pos c := by simpa using he
   refine Br.mk (fun q2 => ?_) (fun q2 => ?_)
   ·have q2 : c.2.1 > 31 := by simpa using q2
    have : oK e.1 c = false := by
     cases hq : oK e.1 c with
     | false => rfl
     | true => have := ((ct _ _).1 hq).1; unfold ig at this; omega
    have e2 : rA e.1 e.2.1 c = 0 := by unfold rA; rw [this]; rfl
    rw [e2]; exact ⟨rfl, x05⟩
   ·have q2 : ¬ c.2.1 > 31 := by simpa using q2
    have hK : oK e.1 c = true := (ct _ _).2 ⟨by unfold ig; omega, hpe.symm⟩
    have xd5 := Ext.dr w5
    obtain ⟨y, hy, hyr, hin, hso, hld, -⟩ := (h.ext (x05.tr xd5)).l.at hk
    subst hy
    refine ⟨hin, Cu hso ⟨y.1.1.1, y.1.1.2, y.2, dp fun j v hj => ?_, (Bq (p := y.1.1) hyr.r (ho.g _ (List.mem_of_getElem? hk)).1 c hc).mono ?_⟩⟩
    ·rw [Nat.zero_add, ba]
     refine hld j v ?_
     match j, hj with
     | 0, hj => exact hj
     | 1, hj => exact hj
     | 2, hj => exact hj
    ·rintro e' w10 ⟨rfl, x10⟩
     have zd5 : w5.drew.heap.size = w5.heap.size := rfl
     have e2 : EF y.1.1 y.1.2.1 c = rA y.1.1 y.1.2.1 c := by unfold EF rA; rw [hK]; rfl
     rw [e2]
     exact ⟨_, rfl, x10.k, x10.k, ((rt2.ext x5).ext (xd5.tr x10)).aL (fun j hj => by simp at hj; subst hj; rfl), rfl, x05.tr (xd5.tr x10)⟩
end
end Go.Proofs.YtalpkjfpmdpbiaaGreatDoor
namespace Go.Proofs.YtalpkjfpmdpbiaaGreatDoor
open Go Go.Vc Go.RowKit Go.Proofs Go.bY Go.aD Go.Code
def mD(d:Dk):Nat:=d.safe.length+d.l.length
theorem GX{d:Dk}{n:Nat}(h:mD d<=n):ID d n:=by unfold mD at h;exact⟨by omega,by omega⟩
section
variable{P P':Nat->Prop}{w w' v v':World}{s s1 s2 s3:Sl}{T:Tb}{ae cap:Int}
theorem Dn {p : Po} {C : List Int} (hs : RR P w s (bk C)) (hP : Fw P w) (hl : C.length = 8192) (c : Ce) (hc : lx c) (b : Int) :
  Calls Tryz.prog uW #[kv p s, iR c, .int .i64 b] w fun e w' => (∃ s', e = .returned (.tuple #[kv p s', .int .i64 (dc p C c b).2]) ∧ RR P w' s' (bk (dc p C c b).1)) ∧ Ext w w' := by
 apply tM.vc
 intro w0 e0 w1 e1 w2 e2
 have z0 := cL e0
 have z1 : w1.heap.size = w.heap.size + 2 := by rw [e1]; simp [z0]
 have z2 : w2.heap.size = w.heap.size + 3 := by rw [e2]; simp [z1]
 have x2 : Ext w w2 := (((Ext.ao w).aa e0).aa e1).aa e2
 refine (uX p s c hc w2).mono ?_
 rintro e w3 ⟨rfl, x3⟩
 have z3 := x3.size
 have x03 := x2.tr x3
 refine ⟨_, rfl, x3.k, x3.k, x3.k, ?_⟩
 cases hk : oK p c with
 | false =>
   have e : dc p C c b = (C, 5) := by unfold dc; rw [if_pos hk]
   rw [e]
   refine Br.mk (fun _ => fun w5 e5 => ?_) (fun h => by simp at h)
   have x5 := x03.af e5 (by omega)
   exact ⟨⟨s, rfl, hs.ext x5⟩, x5⟩
 | true =>
   have hidx := mC ((ct p c).1 hk).1
   refine Br.mk (fun h => by simp at h; omega) (fun _ => ?_)
   refine (fH b w3).mono ?_
   rintro e w6 ⟨rfl, e6⟩
   have x6 : Ext w3 w6 := by rw [e6]; exact Ext.ao _
   clear e6
   have z6 := x6.size
   refine ⟨_, rfl, x6.k, x6.k, x6.k, Br.mk (fun hb2 => ?_) (fun hb2 => ?_)⟩
   ·have hf : aE b = false := by simpa using hb2
    have e : dc p C c b = (C, 1) := by unfold dc; rw [if_neg (by simp [hk]), if_pos hf]
    rw [e]
    intro w8 e8
    have x8 := (x03.tr x6).af e8 (by omega)
    exact ⟨⟨s, rfl, hs.ext x8⟩, x8⟩
   ·have hm : aE b = true := by simpa using hb2
    have e : dc p C c b = (C.set (idx c).toNat b, 0) := by unfold dc; rw [if_neg (by simp [hk]), if_neg (by simp [hm])]
    have h6 := hs.ext (x03.tr x6)
    rw [e]
    refine (wy s C (idx c) b w6 h6.r (by rw [hl]; decide)).mono ?_
    rintro e9 w9 ⟨s10, rfl, ho9, x9⟩
    have hs : qA C (idx c) b = C.set (idx c).toNat b := by unfold qA; rw [if_pos ⟨hm, hidx.1, by rw [hl]; omega⟩]
    rw [hs] at ho9
    refine ⟨s10, rfl, x9.k, x9.k, x9.k, fun w11 e11 w12 e12 => ?_⟩
    have x12 := (((x03.tr x6).tr x9).af e11 (Nat.le_refl _)).af e12 (by omega)
    have hlow := fun b (hb : s10.ay = some b) => (ho9.own.lt hb).1
    refine ⟨⟨s10, rfl, RR.own (B := w6.heap.size) (ag.aW ho9 fun b hb => ?_) fun i hi => hP i (by omega)⟩, x12⟩
    have := hlow b hb
    rw [e12, setRow_other _ _ _ _ (by omega), e11, setRow_other _ _ _ _ (by omega)]
theorem BC (p : Po) (s : Sl) (b : List Int) (w : World) (hs : cX w s b) (hb : H3 b) (hc : s.n ≤ s.c) (hl : b.length ≤ 1099511627776) :
  Calls Tryz.prog rZ #[pv p, s] w fun e w' => (∃ (x y : Int) (sr : Sl), e = .returned (.tuple #[.agg #[x, y, sr], .int .i64 (bj aE b 8192).2]) ∧ ((bj aE b 8192).2 = 0 → x = p.1 ∧ y = p.2 ∧ jX w.heap.size w' sr (bj aE b 8192).1)) ∧ Ext w w' := by
 apply qR.vc
 intro w0 e0 w1 e1
 have z0 := cL e0
 have z1 : w1.heap.size = w.heap.size + 2 := by rw [e1]; simp [z0]
 have x1 : Ext w w1 := ((Ext.ao w).aa e0).aa e1
 clear e0 e1
 refine (vy s b 8192 w1 (RdK.ext hs x1) hb hl hc (by decide) (by unfold inI; omega)).mono ?_
 rintro e w2 ⟨⟨s3, rfl, ho⟩, x2⟩
 have z2 := x2.size
 refine ⟨s3, _, rfl, x2.k, x2.k, Br.mk (fun hne => fun w5 e5 => ?_) (fun hne => fun w6 e6 => ?_)⟩
 ·have h0 : (bj aE b 8192).2 ≠ 0 := by simpa using hne
  exact ⟨⟨0, 0, ⟨none, 0, 0⟩, rfl, fun h => absurd h h0⟩, (x1.tr x2).af e5 (by omega)⟩
 ·have h0 : (bj aE b 8192).2 = 0 := by simpa using hne
  refine ⟨⟨p.1, p.2, s3, by rw [h0], fun _ => ⟨rfl, rfl, ?_⟩⟩, (x1.tr x2).af e6 (by omega)⟩
  refine ag.low (ag.aW ho fun j hj => ?_) (show w.heap.size ≤ w1.heap.size by omega)
  have := (ho.own.lt hj).1
  rw [e6]; exact setRow_other _ _ _ _ (by omega)
end
end Go.Proofs.YtalpkjfpmdpbiaaGreatDoor
namespace Go.Proofs.YtalpkjfpmdpbiaaGreatDoor
open Go Go.Vc Go.RowKit Go.Proofs Go.bY Go.aD Go.Code
section
variable{P P':Nat->Prop}{w w' v v':World}{s s1 s2 s3:Sl}{T:Tb}{ae cap:Int}
set_option maxRecDepth 100000 in
theorem Bj (h : RT P w T s1 s2 s3) (hP : Fw P w) (ho : Ex T) (c : Ce) (hc : lx c) (b : Int) :
  Calls Tryz.prog u4 #[ER ae cap T.1 s1 s2 s3, iR c, .int .i64 b] w (xi P w ae cap ((T.1, (aX T.2 c b).1), (aX T.2 c b).2)) := by
 apply (ua.vc (a0_5 := s1) (a0_6 := s2) (a0_7 := s3))
 intro w0 e0 w1 e1 w2 e2
 have x2 : Ext w w2 := (((Ext.ao _).aa e0).aa e1).aa e2
 have z0 := cL e0
 have z1 : w1.heap.size = w.heap.size + 2 := by rw [e1]; simp [z0]
 have z2 : w2.heap.size = w.heap.size + 3 := by rw [e2]; simp [z1]
 have rt2 : Row w2 w.heap.size [.int .i64 ae, .int .i64 cap, .int .i64 T.1.room, .int .i64 T.1.cS, .int .i64 T.1.wait, .slice s1.a s1.n s1.c, .slice s2.a s2.n s2.c, .slice s3.a s3.n s3.c] 30 := (by rw [e0]; exact Row.new w [_, _, _, _, _, _, _, _] _ : Row w0 w.heap.size _ 30).ext (((Ext.ao _).aa e1).aa e2)
 clear e0 e1 e2
 have xd := Ext.dr w2
 have zd : w2.drew.heap.size = w2.heap.size := rfl
 refine (lW c hc w2.drew).mono ?_
 rintro e w3 ⟨rfl, x3⟩
 have z3 := x3.size
 have x03 := x2.tr (xd.tr x3)
 refine ⟨_, _, rfl, x3.k, x3.k, x3.k, (rt2.ext (xd.tr x3)).aL (fun j hj => by rw [Nat.zero_add]), (gA (ae := ae) (cap := cap) (h.ext x03) ho.l (pos c)).mono ?_⟩
 rintro e w6 ⟨rfl, x6⟩
 have z6 := x6.size
 have x06 := x03.tr x6
 refine ⟨_, rfl, x6.k, x6.k, x6.k, (fH b w6).mono ?_⟩
 rintro e w8 ⟨rfl, hw⟩
 have x8 : Ext w6 w8 := by rw [hw]; exact Ext.ao _
 clear hw
 have z8 := x8.size
 have x08 := x06.tr x8
 refine ⟨_, rfl, x8.k, x8.k, x8.k, ?_⟩
 have bad : ∀ {n : Int}, aX T.2 c b = (T.2, n) → ∀ w5 c', w5 = w8.setRow w1.heap.size c' → xi P w ae cap ((T.1, (aX T.2 c b).1), (aX T.2 c b).2) (.returned (.tuple #[ER ae cap T.1 s1 s2 s3, .int .i64 n])) w5 := by
  intro n e w5 c' e5
  have x5 := x08.af e5 (by omega)
  rw [e]
  exact ⟨s1, s2, s3, rfl, h.ext x5, x5⟩
 rcases bZ (fun e : En => e.1 == pos c) T.2 with ⟨hf, hno⟩ | ⟨k, e, hk, he, hf, -⟩
 ·rw [hf]
  exact Br.mk (fun _ => fun w5 e5 => bad (by unfold aX; rw [hf, if_pos (by decide)]) w5 _ e5) (fun q => by simp at q)
 rw [hf]
 have hpe : e.1 = pos c := by simpa using he
 have hkl := (List.getElem?_eq_some_iff.1 hk).1
 refine Br.mk (fun q => by simp at q; omega) (fun _ => Br.mk (fun q => fun w5 e5 => bad (by unfold aX; rw [hf, if_neg (by omega), if_pos (by unfold ig; simp at q; omega)]) w5 _ e5) (fun q1 => Br.mk (fun q => fun w5 e5 => bad (by unfold aX; rw [hf, if_neg (by omega), if_pos (by unfold ig; simp at q; omega)]) w5 _ e5) (fun q2 => ?_)))
 have hy : ig c := by unfold ig; simp at q1 q2; omega
 cases hb : aE b with
 | false => exact Br.mk (fun q => fun w5 e5 => bad (by unfold aX; rw [hf, if_neg (by omega), if_neg (by simpa using hy), if_pos hb]) w5 _ e5) (fun q => by simp at q)
 | true =>
 refine Br.mk (fun q => by simp at q) (fun _ => ?_)
 have hB := h.Bi x08 (w8.heap.size + 1)
 obtain ⟨y, hy1, hyr, hin, hso, hld, hll⟩ := hB.l.at hk
 subst hy1
 have hset : aX T.2 c b = (T.2.eraseIdx k ++ [(y.1.1, (dc y.1.1 y.1.2.1 c b).1, y.1.2.2.1 || (rA y.1.1 y.1.2.1 c != b), y.1.2.2.2)], 0) := by
  unfold aX
  rw [hf, if_neg (by omega), if_neg (by simpa using hy), if_neg (by rw [hb]; decide), Int.toNat_natCast, hk]; rfl
 rw [hset]
 obtain ⟨g1, g2⟩ := ho.g _ (List.mem_of_getElem? hk)
 have hC : oK y.1.1 c = true := (ct _ _).2 ⟨hy, hpe.symm⟩
 have eAt : EF y.1.1 y.1.2.1 c = rA y.1.1 y.1.2.1 c := by unfold EF rA; rw [hC]; rfl
 refine ⟨hin, y.1.1.1, y.1.1.2, y.2, y.1.2.2.1, y.1.2.2.2, hll, fun w19 e19 w20 e20 => ?_⟩
 have x20 : Ext w8 w20 := ((Ext.ao _).aa e19).af e20 (Nat.le_refl _)
 have z20 := rB e19 e20
 have r20 : Row w20 w8.heap.size [.int .i64 y.1.1.1, .int .i64 y.1.1.2, .slice y.2.a y.2.n y.2.c, .bool y.1.2.2.1, .int .i64 y.1.2.2.2] 110 := by rw [e20]; exact Row.set (by rw [e19]; exact Row.new w8 [_, _, _, _, _] _) _
 clear e19 e20
 have x020 := x08.tr x20
 have fin : ∀ {v v0 : World} {d : Bool} {c0 : Array Value}, Ext w20 v0 → v = v0.setRow w8.heap.size c0 → d = (y.1.2.2.1 || (rA y.1.1 y.1.2.1 c != b)) → c0 = #[.int .i64 y.1.1.1, .int .i64 y.1.1.2, .slice y.2.a y.2.n y.2.c, .bool d, .int .i64 y.1.2.2.2] →
   Calls Tryz.prog 147 #[.agg #[.int .i64 y.1.1.1, .int .i64 y.1.1.2, .slice y.2.a y.2.n y.2.c], .agg #[.int .i64 c.1, .int .i64 c.2.1, .int .i64 c.2.2], .int .i64 b] v (fun e w22 => ∃ (x23 : Int) (x24 : Int) (s25 : Sl) (x26 : Int), e = .returned (.tuple #[.agg #[.int .i64 x23, .int .i64 x24, .slice s25.a s25.n s25.c], .int .i64 x26]) ∧ w22.heap[w.heap.size]? = v.heap[w.heap.size]? ∧ w22.heap[w0.heap.size]? = v.heap[w0.heap.size]? ∧ w22.heap[w1.heap.size]? = v.heap[w1.heap.size]? ∧ w22.heap[w8.heap.size]? = v.heap[w8.heap.size]? ∧
   ∀ w27 : World, w27 = w22.alloc (.cells #[.int .i64 0, .int .i64 0, .slice none 0 0] 108) →
   ∀ w28 : World, w28 = w27.setRow w22.heap.size #[.int .i64 x23, .int .i64 x24, .slice s25.a s25.n s25.c] →
   ∀ w29 : World, w29 = w28.setRow w8.heap.size #[.int .i64 x23, .int .i64 x24, .slice s25.a s25.n s25.c, .bool d, .int .i64 y.1.2.2.2] →
   Calls Tryz.prog bR #[ER ae cap T.1 s1 s2 s3, .int .i64 (k : Int)] w29.drew (fun e w30 => ∃ (x31 : Int) (x32 : Int) (x33 : Int) (x34 : Int) (x35 : Int) (s36 : Sl) (s37 : Sl) (s38 : Sl), e = .returned (.agg #[.int .i64 x31, .int .i64 x32, .int .i64 x33, .int .i64 x34, .int .i64 x35, .slice s36.a s36.n s36.c, .slice s37.a s37.n s37.c, .slice s38.a s38.n s38.c]) ∧ w30.heap[w.heap.size]? = w29.drew.heap[w.heap.size]? ∧ w30.heap[w0.heap.size]? = w29.drew.heap[w0.heap.size]? ∧ w30.heap[w1.heap.size]? = w29.drew.heap[w1.heap.size]? ∧ w30.heap[w8.heap.size]? = w29.drew.heap[w8.heap.size]? ∧ w30.heap[w22.heap.size]? = w29.drew.heap[w22.heap.size]? ∧
   ah w30 (some ⟨w8.heap.size, 0, none⟩) 0 [.int .i64 x23, .int .i64 x24, .slice s25.a s25.n s25.c, .bool d, .int .i64 y.1.2.2.2] ∧ Calls Tryz.prog bt #[.agg #[.int .i64 x31, .int .i64 x32, .int .i64 x33, .int .i64 x34, .int .i64 x35, .slice s36.a s36.n s36.c, .slice s37.a s37.n s37.c, .slice s38.a s38.n s38.c], .agg #[.int .i64 x23, .int .i64 x24, .slice s25.a s25.n s25.c, .bool d, .int .i64 y.1.2.2.2]] w30 (fun e w39 => ∃ (x40 : Int) (x41 : Int) (x42 : Int) (x43 : Int) (x44 : Int) (s45 : Sl) (s46 : Sl) (s47 : Sl), e = .returned (.agg #[.int .i64 x40, .int .i64 x41, .int .i64 x42, .int .i64 x43, .int .i64 x44, .slice s45.a s45.n s45.c, .slice s46.a s46.n s46.c, .slice s47.a s47.n s47.c]) ∧ w39.heap[w.heap.size]? = w30.heap[w.heap.size]? ∧ w39.heap[w0.heap.size]? = w30.heap[w0.heap.size]? ∧ w39.heap[w1.heap.size]? = w30.heap[w1.heap.size]? ∧ w39.heap[w8.heap.size]? = w30.heap[w8.heap.size]? ∧ w39.heap[w22.heap.size]? = w30.heap[w22.heap.size]? ∧
   ∀ w48 : World, w48 = w39.setRow w1.heap.size #[.int .i64 x40, .int .i64 x41, .int .i64 x42, .int .i64 x43, .int .i64 x44, .slice s45.a s45.n s45.c, .slice s46.a s46.n s46.c, .slice s47.a s47.n s47.c] →
   xi P w ae cap ((T.1, T.2.eraseIdx k ++ [(y.1.1, (dc y.1.1 y.1.2.1 c b).1, y.1.2.2.1 || (rA y.1.1 y.1.2.1 c != b), y.1.2.2.2)]), 0) (.returned (.tuple #[.agg #[.int .i64 x40, .int .i64 x41, .int .i64 x42, .int .i64 x43, .int .i64 x44, .slice s45.a s45.n s45.c, .slice s46.a s46.n s46.c, .slice s47.a s47.n s47.c], .int .i64 0])) w48))) := by
  intro v v0 d c0 xv0 ev hd hc0
  have rv : Row v w8.heap.size [.int .i64 y.1.1.1, .int .i64 y.1.1.2, .slice y.2.a y.2.n y.2.c, .bool d, .int .i64 y.1.2.2.2] 110 := by rw [ev, hc0]; exact Row.set (r20.ext xv0) _
  have xv8 : Ext w8 v := (x20.tr xv0).af ev (Nat.le_refl _)
  have zv0 := xv0.size
  have zv := vj ev
  have xv := x08.tr xv8
  clear ev hc0
  refine (Dn (P := Bx P w.heap.size (w8.heap.size + 1)) (p := y.1.1) (hyr.ext xv8) (hP.bx xv (by omega)) g1 c hc b).mono ?_
  rintro e w22 ⟨⟨s25, rfl, h25⟩, x22⟩
  have z22 := x22.size
  refine ⟨_, _, s25, _, rfl, x22.k, x22.k, x22.k, x22.k, fun w27 e27 w28 e28 w29 e29 => ?_⟩
  have x28 : Ext w22 w28 := ((Ext.ao _).aa e27).af e28 (Nat.le_refl _)
  have z28 := rB e27 e28
  clear e27 e28
  have r29 : Row w29 w8.heap.size [.int .i64 y.1.1.1, .int .i64 y.1.1.2, .slice s25.a s25.n s25.c, .bool d, .int .i64 y.1.2.2.2] 110 := by rw [e29]; exact Row.set (rv.ext (x22.tr x28)) _
  have z29 := vj e29
  have x029 := (xv.tr (x22.tr x28)).af e29 (by omega)
  have h25' : RR (Bx P w.heap.size (w8.heap.size + 1)) w29 s25 (bk (dc y.1.1 y.1.2.1 c b).1) := (h25.ext x28).same fun i hp _ => ⟨by rw [e29, setRow_other _ _ _ _ (by have := hp.2; omega)], hp⟩
  have hT29 := h.Bi x029 (w8.heap.size + 1)
  clear e29
  have xd29 := Ext.dr w29
  have zd29 : w29.drew.heap.size = w29.heap.size := rfl
  refine (yC (ae := ae) (cap := cap) (hT29.ext xd29) (hP.bx (x029.tr xd29) (by omega)) ho.l (i := k) hkl).mono ?_
  rintro e w30 ⟨sa, sb, sc, rfl, h30, x30⟩
  have z30 := x30.size
  refine ⟨_, _, _, _, _, sa, sb, sc, rfl, x30.k, x30.k, x30.k, x30.k, x30.k, (r29.ext (xd29.tr x30)).aL (fun j hj => by rw [Nat.zero_add]), ?_⟩
  have x030 := x029.tr (xd29.tr x30)
  have hel : (T.2.eraseIdx k).length ≤ 1000000 := by rw [List.length_eraseIdx]; split <;> (have := ho.l; omega)
  refine (xj (ae := ae) (cap := cap) h30 (hP.bx x030 (by omega)) hel ((y.1.1, (dc y.1.1 y.1.2.1 c b).1, d, y.1.2.2.2), s25) ((h25'.ext xd29).ext x30)).mono ?_
  rintro e w39 ⟨sa', sb', sc', rfl, h39, x39⟩
  refine ⟨_, _, _, _, _, sa', sb', sc', rfl, x39.k, x39.k, x39.k, x39.k, x39.k, fun w48 e48 => ?_⟩
  rw [← hd]
  exact ⟨sa', sb', sc', rfl, (h39.box e48 ⟨by omega, by omega⟩).out, (x030.tr x39).af e48 (by omega)⟩
 refine Br.mk (fun q => fun w21 e21 => fin (Ext.ao _) e21 (by rw [q]; rfl) rfl) (fun q => (Bq (p := y.1.1) (hyr.ext x20).r g1 c hc).mono ?_)
 rintro e w49 ⟨rfl, x49⟩
 rw [eAt]
 exact ⟨_, rfl, x49.k, x49.k, x49.k, x49.k, fun w51 e51 => fin x49 e51 (by rw [q]; rfl) rfl⟩
end
end Go.Proofs.YtalpkjfpmdpbiaaGreatDoor
namespace Go.Proofs.YtalpkjfpmdpbiaaGreatDoor
open Go Go.Vc Go.RowKit Go.Proofs Go.bY Go.aD Go.Code
section
variable{P P':Nat->Prop}{w w' v v':World}{s s1 s2 s3:Sl}{T:Tb}{ae cap:Int}
theorem J3 {D : Dk} (h : kZ D) (id : Int) : (qp D id).1.length ≤ 1048576 := by
 have h0 := vD h (2 * id)
 have h1 := vD h (2 * id + 1)
 have r0 := Ds (getD D (2 * id))
 have r1 := Ds (getD D (2 * id + 1))
 unfold qp
 split
 ·rw [D4]
  split
  ·split <;> simp only [List.length_nil] <;> omega
  ·split
   ·simp only; omega
   ·split <;> simp only <;> omega
 ·simp
end
end Go.Proofs.YtalpkjfpmdpbiaaGreatDoor
namespace Go.Proofs.YtalpkjfpmdpbiaaGreatDoor
open Go Go.Vc Go.RowKit Go.Proofs Go.bY Go.aD Go.Code
section
variable{P P':Nat->Prop}{w w' v v':World}{s s1 s2 s3:Sl}{T:Tb}{ae cap:Int}
set_option maxRecDepth 100000 in
theorem qc (h : RT P w T s1 s2 s3) (hP : Fw P w) (ho : Ex T) (hm : mD T.1 ≤ 500000) (hcap : inI cap) (p : Po) (hfew : ((T.2.length : Nat) : Int) < cap) (hnew : ∀ e ∈ T.2, e.1 ≠ p) :
  Calls Tryz.prog sk #[ER ae cap T.1 s1 s2 s3, pv p] w (xi P w ae cap (y4 ae cap T.1 T.2 p)) := by
 apply (qW.vc (a0_5 := s1) (a0_6 := s2) (a0_7 := s3))
 intro w0 e0 w1 e1 w2 e2
 have x2 : Ext w w2 := (((Ext.ao _).aa e0).aa e1).aa e2
 have z0 := cL e0
 have z1 : w1.heap.size = w.heap.size + 2 := by rw [e1]; simp [z0]
 have z2 : w2.heap.size = w.heap.size + 3 := by rw [e2]; simp [z1]
 clear e0 e1 e2
 refine (GV p w2).mono ?_
 rintro e w3 ⟨rfl, x3⟩
 have z3 := x3.size
 have x03 := x2.tr x3
 refine ⟨_, rfl, x3.k, x3.k, x3.k, ?_⟩
 have hid0 : ¬ pJ p → mY p = 0 := Ab
 have hid1 : pJ p → 1 ≤ mY p ∧ mY p ≤ 1099511627776 := fun q => Ik q
 refine Br.mk (fun q => fun w5 e5 => ?_) (fun q => ?_)
 ·have hin : ¬ pJ p := fun hh => by have := hid1 hh; simp at q; omega
  have e1 : y4 ae cap T.1 T.2 p = ((T.1, T.2), 5) := by unfold y4; rw [if_pos hin]
  have x5 := x03.af e5 (by omega)
  rw [e1]
  exact ⟨s1, s2, s3, rfl, h.ext x5, x5⟩
 have hin : pJ p := by
  by_cases hh : pJ p
  ·exact hh
  ·have := hid0 hh; simp [this] at q
 have hid := hid1 hin
 refine (gA (ae := ae) (cap := cap) (h.ext x03) ho.l p).mono ?_
 rintro e w6 ⟨rfl, x6⟩
 have z6 := x6.size
 have x06 := x03.tr x6
 refine ⟨_, rfl, x6.k, x6.k, x6.k, ?_⟩
 have hl := ho.l
 have leaf : ∀ {v : World} {T' : Tb} {sa sb sc : Sl} (y : Ci), Ext w v → w.heap.size + 3 ≤ v.heap.size → RT (Bx P w.heap.size (w.heap.size + 3)) v T' sa sb sc → RR (Bx P w.heap.size (w.heap.size + 3)) v y.2 (bk y.1.2.1) → T'.2.length ≤ 1000000 →
   Calls Tryz.prog bt #[ER ae cap T'.1 sa sb sc, .agg #[y.1.1.1, y.1.1.2, .slice y.2.a y.2.n y.2.c, .bool y.1.2.2.1, y.1.2.2.2]] v fun e w' => ∃ sa' sb' sc' : Sl, e = .returned (ER ae cap T'.1 sa' sb' sc') ∧ Ext v w' ∧ ∀ w1' c, w1' = w'.setRow w1.heap.size c → xi P w ae cap ((T'.1, T'.2 ++ [y.1]), 0) (.returned (.tuple #[ER ae cap T'.1 sa' sb' sc', (0:Int)])) w1' := by
  intro v T' sa sb sc y xv zv hT hy hl'
  refine (xj (ae := ae) (cap := cap) hT (hP.bx xv zv) hl' y hy).mono ?_
  rintro e w' ⟨sa', sb', sc', rfl, h', x'⟩
  exact ⟨sa', sb', sc', rfl, x', fun w1' c e1 => ⟨sa', sb', sc', rfl, (h'.box e1 ⟨by omega, by omega⟩).out, (xv.tr x').af e1 (by omega)⟩⟩
 have hRd : ∀ {b : List Int}, lq b → (bj aE b 8192).2 = 0 → bk (aA (bj aE b 8192).1) = (bj aE b 8192).1 ∧ iF ae p b = aA (bj aE b 8192).1 := fun {b} hb h0 => by
  obtain ⟨f1, f2, f3⟩ := u9 (b := b) (n := 8192) hb (by decide) h0
  have hmy : kQ aE (bj aE b 8192).1 8192 = true := by
   have := f2.kQ (by omega)
   rw [f3] at this; exact this
  exact ⟨(xk hmy).1, by unfold iF; rw [if_pos h0]⟩
 have hRn : ∀ {b : List Int}, (bj aE b 8192).2 ≠ 0 → iF ae p b = made ae p := fun {b} h0 => by unfold iF; rw [if_neg h0]
 rcases (bZ (fun e : En => e.1 == p) T.2).symm with ⟨k, e, hk, he, hf, -⟩ | ⟨hf, hno⟩
 ·exact absurd (by simpa using he) (hnew _ (List.mem_of_getElem? hk))
 rw [hf]
 have e1 : y4 ae cap T.1 T.2 p = if (bU cap T.1 T.2).2 ≠ 0 then bU cap T.1 T.2 else (((bU cap T.1 T.2).1.1, (bU cap T.1 T.2).1.2 ++ [(p, iF ae p (qp (bU cap T.1 T.2).1.1 (mY p)).1, false, 0)]), 0) := by
  unfold y4
  rw [if_neg (by simpa using hin), hf, if_neg (by decide)]
 obtain ⟨its, hits, hms⟩ := h.l
 have hn := hits.n
 have hil : its.length = T.2.length := by rw [← hms, List.length_map]
 refine Br.mk (fun q => by simp at q) (fun _ => Br.mk (fun hfull => ?_) (fun hfree => ?_))
 ·have hfull : ¬ ((T.2.length : Nat) : Int) < cap := by rw [← hil, ← hn]; simpa using hfull
  exact absurd hfew hfull
 ·have hfree : ((T.2.length : Nat) : Int) < cap := by rw [← hil, ← hn]; simpa using hfree
  have eR : bU cap T.1 T.2 = ((T.1, T.2), 0) := by unfold bU; rw [if_pos hfree]
  rw [e1, eR, if_neg (by simp)]
  have h6 := h.Bi x06 (w.heap.size + 3)
  refine (Bu h6.d (hP.bx x06 (by omega)) ho.d (GX (by omega)) (mY p)).mono ?_
  rintro e' w66 ⟨s67, rfl, h67, x66⟩
  have z66 := x66.size
  refine ⟨s67, _, _, rfl, x66.k, x66.k, x66.k, (BC p s67 _ w66 h67.r h67.y h67.c (by have := J3 ho.d (mY p); omega)).mono ?_⟩
  rintro e' w70 ⟨⟨x71, x72, s73, rfl, h70⟩, x70⟩
  have z70 := x70.size
  refine ⟨x71, x72, s73, _, rfl, x70.k, x70.k, x70.k, fun w75 e75 w76 e76 => ?_⟩
  have x76 : Ext w70 w76 := ((Ext.ao _).aa e75).af e76 (Nat.le_refl _)
  have z76 := rB e75 e76
  clear e75 e76
  have x076 := x06.tr (x66.tr (x70.tr x76))
  generalize hbb : (qp T.1 (mY p)).1 = bb at *
  refine Br.mk (fun q2 => (C1 ae p (D3 hin) w76).mono ?_) (fun q2 => ?_)
  ·rintro e' w77 ⟨s80, rfl, ho80, x77⟩
   have q2 : (bj aE bb 8192).2 ≠ 0 := by simpa using q2
   have z77 := x77.size
   refine ⟨_, _, s80, rfl, x77.k, x77.k, x77.k, x77.k, fun w81 e81 => ?_⟩
   have z81 := vj e81
   have x081 := (x076.tr x77).af e81 (by omega)
   have h81 : RT (Bx P w.heap.size (w.heap.size + 3)) w81 T s1 s2 s3 := (h6.ext (x66.tr x70)).same fun i hp hi => ⟨by rw [e81, setRow_other _ _ _ _ (by omega)]; exact (x76.tr x77).k, hp⟩
   have hr81 : RR (Bx P w.heap.size (w.heap.size + 3)) w81 s80 (bk (made ae p)) := by
    refine RR.own (B := w76.heap.size) (ag.aW ho80 fun j hj => ?_) (fun i hi => ⟨hP i (by omega), .inr (by omega)⟩)
    have := (ho80.own.lt hj).1
    rw [e81, setRow_other _ _ _ _ (by omega)]
   clear e81
   refine (leaf ((p, made ae p, false, 0), s80) x081 (by omega) h81 hr81 hl).mono ?_
   rintro e' w82 ⟨sa', sb', sc', rfl, x82, fin⟩
   rw [hRn q2]
   exact ⟨_, _, _, _, _, sa', sb', sc', rfl, x82.k, x82.k, x82.k, x82.k, fun w91 e91 => fin w91 _ e91⟩
  ·have q2 : (bj aE bb 8192).2 = 0 := by simpa using q2
   obtain ⟨rfl, rfl, ho73⟩ := h70 q2
   obtain ⟨hc1, hc2⟩ := hRd h67.y q2
   rw [← hc1] at ho73
   have hr76 : RR (Bx P w.heap.size (w.heap.size + 3)) w76 s73 (bk (aA (bj aE bb 8192).1)) := RR.ext (RR.own ho73 fun i hi => ⟨hP i (by omega), .inr (by omega)⟩) x76
   refine (leaf ((p, aA (bj aE bb 8192).1, false, 0), s73) x076 (by omega) (h6.ext (x66.tr (x70.tr x76))) hr76 hl).mono ?_
   rintro e' w92 ⟨sa', sb', sc', rfl, x92, fin⟩
   rw [hc2]
   exact ⟨_, _, _, _, _, sa', sb', sc', rfl, x92.k, x92.k, x92.k, x92.k, fun w101 e101 => fin w101 _ e101⟩
end
end Go.Proofs.YtalpkjfpmdpbiaaGreatDoor
