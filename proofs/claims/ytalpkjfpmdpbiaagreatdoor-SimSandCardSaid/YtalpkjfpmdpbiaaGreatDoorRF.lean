import Derived.Test.YtalpkjfpmdpbiaaGreatDoorRA
set_option linter.all false
namespace Go.Proofs.YtalpkjfpmdpbiaaGreatDoor
open Go Go.Vc Go.RowKit Go.Proofs Go.bQ Go.aB Go.Code
abbrev Ci:=En × Sl
abbrev cw (y:Ci):List Value:=[.int .i64 y.1.1.1,.int .i64 y.1.1.2,.slice y.2.a y.2.n y.2.c,.bool y.1.2.2.1,.int .i64 y.1.2.2.2]
abbrev Jr:TypeId:=110
structure RR (P:Nat->Prop) (w:World) (s:Sl) (l:List Rn):Prop where
 r:dT w s l
 p:l≠ []->∀g,s.ax=some g->P g
structure zt (P:Nat->Prop) (w:World) (s:Sl) (its:List Ci):Prop where
 r:ba w s 5 (its.map cw)
 y:∀y ∈ its,RR P w y.2 (bN y.1.2.1)
 p:its≠ []->∀g,s.ax=some g->P g
 c:s.n<=s.c
theorem Hi (y:Ci):One (cw y):=by
 intro v hv;simp at hv;rcases hv with rfl|rfl|rfl|rfl|rfl<;>rfl
section
variable {P P':Nat->Prop} {w w':World} {s:Sl} {its:List Ci}
theorem RR.ext {l:List Rn} (h:RR P w s l) (x:Ext w w'):RR P w' s l:=⟨ba.ext h.r x,h.p⟩
theorem RR.same {l : List Rn} (h : RR P w s l) (hk : ∀ i, P i → i < w.heap.size → w'.heap[i]? = w.heap[i]? ∧ P' i) : RR P' w' s l := by
 have hb : l.map rv ≠ [] → l ≠ [] := fun q e => q (by rw [e]; rfl)
 have hb' : l ≠ [] → l.map rv ≠ [] := fun q e => q (by simpa using e)
 exact ⟨ba.zu h.r fun hne g hg => (hk g (h.p (hb hne) g hg) (ba.lN h.r (by decide) hne hg)).1, fun hne g hg => (hk g (h.p hne g hg) (ba.lN h.r (by decide) (hb' hne) hg)).2⟩
theorem RR.own {l:List Rn} {B:Nat} (h:jG B w s l) (hP:∀i,B<=i->P i):RR P w s l:=⟨jG.pa h,fun _ g hg=>hP g (h.own.lt hg).1⟩
theorem zt.ext (h:zt P w s its) (x:Ext w w'):zt P w' s its:=⟨h.r.ext x,fun y hy=>(h.y y hy).ext x,h.p,h.c⟩
theorem zt.same (h : zt P w s its) (hk : ∀ i, P i → i < w.heap.size → w'.heap[i]? = w.heap[i]? ∧ P' i) : zt P' w' s its := by
 have hb : its.map cw ≠ [] → its ≠ [] := fun q e => q (by rw [e]; rfl)
 have hb' : its ≠ [] → its.map cw ≠ [] := fun q e => q (by simpa using e)
 exact ⟨ba.zu h.r fun hne g hg => (hk g (h.p (hb hne) g hg) (ba.lN h.r (by decide) hne hg)).1, fun y hy => (h.y y hy).same hk, fun hne g hg => (hk g (h.p hne g hg) (ba.lN h.r (by decide) (hb' hne) hg)).2, h.c⟩
theorem zt.nil:zt P w ⟨none,0,0⟩ []:=⟨⟨rfl,(fun r hr=>by cases hr),fun i r hi=>by simp at hi⟩,(fun y hy=>by cases hy),fun h=>absurd rfl h,Nat.le_refl _⟩
theorem zt.n (h:zt P w s its):s.n=its.length:=by have:=h.r.n;rwa [List.length_map]at this
theorem zt.at (h : zt P w s its) {k : Nat} {y : Ci} (hk : its[k]? = some y) : cn s.a (k : Int) s.n ∧ (ae s.a (((k : Nat) : Int).toNat * 5)).isSome = true ∧ ∀ j v, (cw y)[j]? = some v → ld w (ae (ae s.a (((k : Nat) : Int).toNat * 5)) j) = some v := by
 have hl := (List.getElem?_eq_some_iff.1 hk).1
 have hn := h.n
 have hin := ba.eV h.r (by decide) (i := (k : Int)) (by omega) (by omega)
 have hr : (its.map cw)[k]? = some (cw y) := by rw [List.getElem?_map, hk]; rfl
 exact ⟨hin, by rw [gH]; exact hin.1, fun j v hj => h.r.at hr hj⟩
theorem zt.own {B:Nat} (h:af B Jr 5 w s (its.map cw)) (hy:∀y ∈ its,RR P w y.2 (bN y.1.2.1)) (hP:∀i,B<=i->P i):zt P w s its:=⟨af.rd h (by decide),hy,(fun _ g hg=>hP g (h.own.lt hg).1),af.le h⟩
end
def RC (P:Nat->Prop) (w:World) (s:Sl) (l:List En):Prop:=∃its,zt P w s its/\its.map (·.1)=l
abbrev Hg (aa cap:Int) (d:Dk) (s1 s2 s3:Sl):Value:=.agg #[aa,cap,d.room,d.dW,d.wait,s1,s2,s3]
structure RT (P:Nat->Prop) (w:World) (T:Tb) (s1 s2 s3:Sl):Prop where
 d:DS P w T.1 s1 s2
 l:RC P w s3 T.2
abbrev Bx (P:Nat->Prop) (a b:Nat):Nat->Prop:=fun i=>P i/\(i<a\/b<=i)
section
variable {P P':Nat->Prop} {w w' v v':World} {s s1 s2 s3:Sl} {T:Tb} {aa cap:Int}
theorem RC.ext {l:List En} (h:RC P w s l) (x:Ext w w'):RC P w' s l:=by obtain ⟨its,h1,h2⟩:=h;exact ⟨its,h1.ext x,h2⟩
theorem RC.same {l:List En} (h:RC P w s l) (hk:∀i,P i->i<w.heap.size->w'.heap[i]? =w.heap[i]?/\P' i):RC P' w' s l:=by obtain ⟨its,h1,h2⟩:=h;exact ⟨its,h1.same hk,h2⟩
theorem RC.nil:RC P w ⟨none,0,0⟩ []:=⟨[],zt.nil,rfl⟩
theorem RT.ext (h:RT P w T s1 s2 s3) (x:Ext w w'):RT P w' T s1 s2 s3:=⟨h.d.ext x,h.l.ext x⟩
theorem RT.same (h:RT P w T s1 s2 s3) (hk:∀i,P i->i<w.heap.size->w'.heap[i]? =w.heap[i]?/\P' i):RT P' w' T s1 s2 s3:=⟨h.d.same hk,h.l.same hk⟩
theorem RT.Jo (h : RT P w T s1 s2 s3) (x : Ext w v) (b : Nat) : RT (Bx P w.heap.size b) v T s1 s2 s3 := h.same fun _ hp hi => ⟨x.heap hi, hp, .inl hi⟩
theorem RT.box {a b g : Nat} {c : Array Value} (h : RT (Bx P a b) v T s1 s2 s3) (e : v' = v.setRow g c) (hg : a ≤ g ∧ g < b) : RT (Bx P a b) v' T s1 s2 s3 := h.same fun i hp _ => ⟨by rw [e, setRow_other _ _ _ _ (by have := hp.2; omega)], hp⟩
theorem RT.out {a b : Nat} (h : RT (Bx P a b) v T s1 s2 s3) : RT P v T s1 s2 s3 := h.same fun _ hp _ => ⟨rfl, hp.1⟩
theorem Fw.bx {b : Nat} (hP : Fw P w) (x : Ext w v) (hb : b ≤ v.heap.size) : Fw (Bx P w.heap.size b) v := fun i hi => ⟨hP i (by have := x.size; omega), .inr (by omega)⟩
theorem A4 (h : RT P w T s1 s2 s3) (hl : T.2.length ≤ 1000000) (p : Po) :
  Calls Tryz.prog lI #[Hg aa cap T.1 s1 s2 s3, pv p] w fun e w' => e = .returned (.int .i64 (aR (fun e : En => e.1 == p) T.2)) ∧ Ext w w' := by
 apply (pH.vc (a0_5 := s1) (a0_6 := s2) (a0_7 := s3))
 intro w0 e0 w1 e1
 have x1 : Ext w w1 := ((Ext.aq _).ab e0).ab e1
 clear e0 e1
 obtain ⟨its, hits, hm⟩ := h.l
 have hn := hits.n
 have hTl : T.2.length = its.length := by rw [← hm, List.length_map]
 refine ⟨fun n i wr => ∃ j : Nat, i = j ∧ j + n = its.length ∧ (∀ m, m < j → ∀ y, T.2[m]? = some y → (y.1 == p) = false) ∧ Ext w wr, ⟨its.length, rfl, rfl, 0, rfl, by omega, (fun m hm => absurd hm (Nat.not_lt_zero m)), x1⟩, ?_⟩
 rintro n us i wr ⟨j, rfl, hj, hno, xr⟩
 refine Br.mk (fun hc => ?_) (fun hc => ?_)
 ·replace hc := eN hc
  obtain ⟨y, hy⟩ := aN (l := its) (i := j) (by omega)
  have hyT : T.2[j]? = some y.1 := by rw [← hm, List.getElem?_map, hy]; rfl
  have xd := xr.tr (Ext.dr wr)
  obtain ⟨hin, hso, hld⟩ := (hits.ext xd).at hy
  have p0 : ae (ae (ae s3.a (((j : Nat) : Int).toNat * 5)) 0) 0 = ae s3.a (((j : Nat) : Int).toNat * 5) := by rw [bf, bf]
  refine ⟨hin, HZ hso (HZ (by rw [gH]; exact hso) ⟨y.1.1.1, y.1.1.2, ?_, Br.mk (fun hq => ?_) (fun hq => ?_)⟩)⟩
  ·rw [p0]
   refine mG fun q v hq => ?_
   rw [Nat.zero_add]
   refine hld q v ?_
   match q, hq with
   | 0, hq => exact hq
   | 1, hq => exact hq
  ·have : (y.1.1 == p) = true := by
    simp only [Bool.and_eq_true, beq_iff_eq] at hq ⊢
    exact Prod.ext hq.1 hq.2
   rw [oe hyT this hno]
   exact ⟨rfl, xd⟩
  ·refine ⟨n - 1, by omega, rfl, rfl, j + 1, by rw [wI]; omega, by omega, fun m hm' y' hy' => ?_, xd⟩
   rcases Nat.lt_or_ge m j with q | q
   ·exact hno m q y' hy'
   ·have : m = j := by omega
    subst this
    rw [hyT] at hy'; cases hy'
    cases hb : (y.1.1 == p) with
    | false => rfl
    | true =>
      have : y.1.1 = p := by simpa using hb
      rw [← this] at hq; simp at hq
 ·replace hc := eO hc
  have : aR (fun e : En => e.1 == p) T.2 = -1 := gD fun y hy => by
   obtain ⟨m, hm'⟩ := List.getElem?_of_mem hy
   have hml := (List.getElem?_eq_some_iff.1 hm').1
   have hTl : T.2.length = its.length := by rw [← hm, List.length_map]
   exact hno m (by omega) y hm'
  rw [this]
  exact ⟨rfl, xr⟩
abbrev Hd (P:Nat->Prop) (w:World) (aa cap:Int) (T:Tb) (e:Ending) (w':World):Prop:=∃s1' s2' s3':Sl,e=.returned (Hg aa cap T.1 s1' s2' s3')/\RT P w' T s1' s2' s3'/\Ext w w'
abbrev EI (P:Nat->Prop) (w:World) (aa cap:Int) (T:Tb × Int) (e:Ending) (w':World):Prop:=∃s1' s2' s3':Sl,e=.returned (.tuple #[Hg aa cap T.1.1 s1' s2' s3',T.2])/\RT P w' T.1 s1' s2' s3'/\Ext w w'
theorem A5 (h : RT P w T s1 s2 s3) (hP : Fw P w) (hl : T.2.length ≤ 1000000) (y : Ci) (hy : RR P w y.2 (bN y.1.2.1)) :
  Calls Tryz.prog cm #[Hg aa cap T.1 s1 s2 s3, .agg #[y.1.1.1, y.1.1.2, .slice y.2.a y.2.n y.2.c, .bool y.1.2.2.1, y.1.2.2.2]] w (Hd P w aa cap (T.1, T.2 ++ [y.1])) := by
 apply (pI.vc (a0_5 := s1) (a0_6 := s2) (a0_7 := s3) (a1_2 := y.2))
 intro w0 e0 w1 e1 w2 e2
 have x2 : Ext w w2 := (((Ext.aq _).ab e0).ab e1).ab e2
 have z0 := dR e0
 have z1 : w1.heap.size = w.heap.size + 2 := by rw [e1]; simp [z0]
 have z2 : w2.heap.size = w.heap.size + 3 := by rw [e2]; simp [z1]
 clear e0 e1 e2
 obtain ⟨its, hits, hm⟩ := h.l
 have hn := hits.n
 have hTl : T.2.length = its.length := by rw [← hm, List.length_map]
 have hits2 := hits.ext x2
 have h0 : af w2.heap.size Jr 5 w2 ⟨none, 0, 0⟩ [] := af.nil
 have ha := h0.yQ (bytes := 56) (more := its.map cw) (Nat.le_refl _) (fun r hr => by obtain ⟨y, -, rfl⟩ := List.mem_map.1 hr; rfl) (fun r hr => by obtain ⟨y, -, rfl⟩ := List.mem_map.1 hr; exact Hi y) (by simp only [List.length_map]; omega) (by simp only [List.length_map]; omega)
 rw [List.length_map, ← hn] at ha
 obtain ⟨hp, hres⟩ := ha
 refine ⟨(its.map cw).flatten, ba.flat hits2.r (by decide), hp, fun s4 w5 hr5 => ?_⟩
 obtain ⟨ho5, hn5, x5, -, -⟩ := hres s4 w5 hr5
 have x5 : Ext w2 w5 := x5
 have z5 := x5.size
 have hn4 : s4.n = its.length := by have := (af.rd ho5 (by decide)).n; simpa using this
 refine ⟨x5.k, x5.k, x5.k, fun w6 e6 => ?_⟩
 subst e6
 obtain ⟨hp8, hres8⟩ := ho5.mB (bytes := 56) (news := cw y) (.cells #[y.1.1.1, y.1.1.2, .slice y.2.a y.2.n y.2.c, .bool y.1.2.2.1, y.1.2.2.2] 110) z5 rfl (Hi y) (by omega) (by omega)
 refine ⟨hp8, fun s7 w8 hr8 => ?_⟩
 obtain ⟨f8, ho8, hn8, x8, -, -⟩ := hres8 s7 w8 hr8
 have xa := Ext.al w5 (.cells #[y.1.1.1, y.1.1.2, .slice y.2.a y.2.n y.2.c, .bool y.1.2.2.1, y.1.2.2.2] 110)
 have x8w : Ext w w8 := Below.trans x2 (Below.trans (Below.mono x5 x2.size) (Below.mono x8 x2.size))
 have kp : ∀ j, j < w2.heap.size → w8.heap[j]? = (w5.alloc (.cells #[y.1.1.1, y.1.1.2, .slice y.2.a y.2.n y.2.c, .bool y.1.2.2.1, y.1.2.2.2] 110)).heap[j]? := fun j hj => by rw [x8.block j hj, xa.k]
 refine ⟨kp _ (by omega), kp _ (by omega), kp _ (by omega), f8, fun w9 e9 w10 e10 => ?_⟩
 have x10 := (x8w.ah e9 (Nat.le_refl _)).ah e10 (by omega)
 have ho10 : af w2.heap.size Jr 5 w10 s7 ((its ++ [y]).map cw) := by
  refine af.bC (rows := (its ++ [y]).map cw) (by rw [List.map_append]; simpa using ho8) fun j hj => ?_
  have hjB := (ho8.own.lt hj).1
  rw [e10, setRow_other _ _ _ _ (by omega), e9, setRow_other _ _ _ _ (by omega)]
 refine ⟨s1, s2, s7, rfl, ⟨h.d.ext x10, its ++ [y], zt.own ho10 (fun z hz => ?_) (fun i hi => hP i (by omega)), by rw [List.map_append, hm]; rfl⟩, x10⟩
 rcases List.mem_append.1 hz with hz | hz
 ·exact (hits.y z hz).ext x10
 ·simp only [List.mem_singleton] at hz
  subst hz; exact hy.ext x10
end
end Go.Proofs.YtalpkjfpmdpbiaaGreatDoor
namespace Go.Proofs.YtalpkjfpmdpbiaaGreatDoor
open Go Go.Vc Go.RowKit Go.Proofs Go.bQ Go.aB Go.Code
section
variable {P P':Nat->Prop} {w w' v v':World} {s s1 s2 s3:Sl} {T:Tb} {aa cap:Int}
end
end Go.Proofs.YtalpkjfpmdpbiaaGreatDoor
namespace Go.Proofs.YtalpkjfpmdpbiaaGreatDoor
open Go Go.Vc Go.RowKit Go.Proofs Go.bQ Go.aB Go.Code
section
variable {P P':Nat->Prop} {w w' v v':World} {s s1 s2 s3:Sl} {T:Tb} {aa cap:Int}
structure Jd (T:Tb):Prop where
 d:ke T.1
 f:Gr T.1 1000000
 g:wF T.2
 l:T.2.length<=1000000
theorem za (aa limit room : Int) (w : World) : Calls Tryz.prog sS #[aa, limit, room] w (Hd P w aa (min (max limit 1) 16) (eP room, [])) := by
 apply rM.vc
 intro w0 e0
 have x0 : Ext w w0 := (Ext.aq _).ab e0
 have z0 := dR e0
 clear e0
 refine (A0 (P := P) room w0).mono ?_
 rintro e w1 ⟨rfl, h1, x1⟩
 have ec : (if 16 < (if 1 > limit then 1 else limit) then 16 else (if 1 > limit then 1 else limit)) = min (max limit 1) 16 := by split <;> split <;> omega
 refine ⟨_, _, _, ⟨none, 0, 0⟩, ⟨none, 0, 0⟩, rfl, x1.k, fun w7 e7 => ?_⟩
 have x7 := (x0.tr x1).ah e7 (Nat.le_refl _)
 rw [ec]
 exact ⟨⟨none, 0, 0⟩, ⟨none, 0, 0⟩, ⟨none, 0, 0⟩, rfl, ⟨⟨RW.nil, RW.nil⟩, RC.nil⟩, x7⟩
end
end Go.Proofs.YtalpkjfpmdpbiaaGreatDoor
namespace Go.Proofs.YtalpkjfpmdpbiaaGreatDoor
open Go Go.Vc Go.RowKit Go.Proofs Go.bQ Go.aB Go.Code
def mD (d:Dk):Nat:=d.safe.length+d.l.length
theorem EK {d:Dk} {n:Nat} (h:mD d<=n):Gr d n:=by unfold mD at h;exact ⟨by omega,by omega⟩
section
variable {P P':Nat->Prop} {w w' v v':World} {s s1 s2 s3:Sl} {T:Tb} {aa cap:Int}
theorem zi (p : Po) (s : Sl) (b : List Int) (w : World) (hs : cJ w s b) (hb : FR b) (hc : s.n ≤ s.c) (hl : b.length ≤ 1099511627776) :
  Calls Tryz.prog qq #[pv p, s] w fun e w' => (∃ (x y : Int) (sr : Sl), e = .returned (.tuple #[.agg #[x, y, sr], .int .i64 (bh aC b 8192).2]) ∧ ((bh aC b 8192).2 = 0 → x = p.1 ∧ y = p.2 ∧ jG w.heap.size w' sr (bh aC b 8192).1)) ∧ Ext w w' := by
 apply pB.vc
 intro w0 e0 w1 e1
 have z0 := dR e0
 have z1 : w1.heap.size = w.heap.size + 2 := by rw [e1]; simp [z0]
 have x1 : Ext w w1 := ((Ext.aq w).ab e0).ab e1
 clear e0 e1
 refine (tw s b 8192 w1 (ba.ext hs x1) hb hl hc (by decide) (by unfold inI; omega)).mono ?_
 rintro e w2 ⟨⟨s3, rfl, ho⟩, x2⟩
 have z2 := x2.size
 refine ⟨s3, _, rfl, x2.k, x2.k, Br.mk (fun hne => fun w5 e5 => ?_) (fun hne => fun w6 e6 => ?_)⟩
 ·have h0 : (bh aC b 8192).2 ≠ 0 := by simpa using hne
  exact ⟨⟨0, 0, ⟨none, 0, 0⟩, rfl, fun h => absurd h h0⟩, (x1.tr x2).ah e5 (by omega)⟩
 ·have h0 : (bh aC b 8192).2 = 0 := by simpa using hne
  refine ⟨⟨p.1, p.2, s3, by rw [h0], fun _ => ⟨rfl, rfl, ?_⟩⟩, (x1.tr x2).ah e6 (by omega)⟩
  refine af.low (af.bC ho fun j hj => ?_) (show w.heap.size ≤ w1.heap.size by omega)
  have := (ho.own.lt hj).1
  rw [e6]; exact setRow_other _ _ _ _ (by omega)
end
end Go.Proofs.YtalpkjfpmdpbiaaGreatDoor
namespace Go.Proofs.YtalpkjfpmdpbiaaGreatDoor
open Go Go.Vc Go.RowKit Go.Proofs Go.bQ Go.aB Go.Code
section
variable {P P':Nat->Prop} {w w' v v':World} {s s1 s2 s3:Sl} {T:Tb} {aa cap:Int}
end
end Go.Proofs.YtalpkjfpmdpbiaaGreatDoor
namespace Go.Proofs.YtalpkjfpmdpbiaaGreatDoor
open Go Go.Vc Go.RowKit Go.Proofs Go.bQ Go.aB Go.Code
section
variable {P P':Nat->Prop} {w w' v v':World} {s s1 s2 s3:Sl} {T:Tb} {aa cap:Int}
theorem HT {D:Dk} (h:ke D) (id:Int):(oU D id).1.length<=1048576:=by
 have h0:=tD h (2*id)
 have h1:=tD h (2*id+1)
 have r0:=Bt (getD D (2*id))
 have r1:=Bt (getD D (2*id+1))
 unfold oU
 split
 ·rw [BX]
  split
  ·split<;>simp only [List.length_nil]<;>omega
  ·split
   ·simp only;omega
   ·split<;>simp only<;>omega
 ·simp
end
end Go.Proofs.YtalpkjfpmdpbiaaGreatDoor
namespace Go.Proofs.YtalpkjfpmdpbiaaGreatDoor
open Go Go.Vc Go.RowKit Go.Proofs Go.bQ Go.aB Go.Code
section
variable {P P':Nat->Prop} {w w' v v':World} {s s1 s2 s3:Sl} {T:Tb} {aa cap:Int}
set_option maxRecDepth 100000 in
theorem oL (h : RT P w T s1 s2 s3) (hP : Fw P w) (ho : Jd T) (hm : mD T.1 ≤ 500000) (hcap : inI cap) (p : Po) (hfew : ((T.2.length : Nat) : Int) < cap) (hnew : ∀ e ∈ T.2, e.1 ≠ p) :
  Calls Tryz.prog qB #[Hg aa cap T.1 s1 s2 s3, pv p] w (EI P w aa cap (wJ aa cap T.1 T.2 p)) := by
 apply (pG.vc (a0_5 := s1) (a0_6 := s2) (a0_7 := s3))
 intro w0 e0 w1 e1 w2 e2
 have x2 : Ext w w2 := (((Ext.aq _).ab e0).ab e1).ab e2
 have z0 := dR e0
 have z1 : w1.heap.size = w.heap.size + 2 := by rw [e1]; simp [z0]
 have z2 : w2.heap.size = w.heap.size + 3 := by rw [e2]; simp [z1]
 clear e0 e1 e2
 refine (EJ p w2).mono ?_
 rintro e w3 ⟨rfl, x3⟩
 have z3 := x3.size
 have x03 := x2.tr x3
 refine ⟨_, rfl, x3.k, x3.k, x3.k, ?_⟩
 have hid0 : ¬ ow p → l8 p = 0 := xL
 have hid1 : ow p → 1 ≤ l8 p ∧ l8 p ≤ 1099511627776 := fun q => Ge q
 refine Br.mk (fun q => fun w5 e5 => ?_) (fun q => ?_)
 ·have hin : ¬ ow p := fun hh => by have := hid1 hh; simp at q; omega
  have e1 : wJ aa cap T.1 T.2 p = ((T.1, T.2), 5) := by unfold wJ; rw [if_pos hin]
  have x5 := x03.ah e5 (by omega)
  rw [e1]
  exact ⟨s1, s2, s3, rfl, h.ext x5, x5⟩
 have hin : ow p := by
  by_cases hh : ow p
  ·exact hh
  ·have := hid0 hh; simp [this] at q
 have hid := hid1 hin
 refine (A4 (aa := aa) (cap := cap) (h.ext x03) ho.l p).mono ?_
 rintro e w6 ⟨rfl, x6⟩
 have z6 := x6.size
 have x06 := x03.tr x6
 refine ⟨_, rfl, x6.k, x6.k, x6.k, ?_⟩
 have hl := ho.l
 have leaf : ∀ {v : World} {T' : Tb} {sa sb sc : Sl} (y : Ci), Ext w v → w.heap.size + 3 ≤ v.heap.size → RT (Bx P w.heap.size (w.heap.size + 3)) v T' sa sb sc → RR (Bx P w.heap.size (w.heap.size + 3)) v y.2 (bN y.1.2.1) → T'.2.length ≤ 1000000 →
   Calls Tryz.prog cm #[Hg aa cap T'.1 sa sb sc, .agg #[y.1.1.1, y.1.1.2, .slice y.2.a y.2.n y.2.c, .bool y.1.2.2.1, y.1.2.2.2]] v fun e w' => ∃ sa' sb' sc' : Sl, e = .returned (Hg aa cap T'.1 sa' sb' sc') ∧ Ext v w' ∧ ∀ w1' c, w1' = w'.setRow w1.heap.size c → EI P w aa cap ((T'.1, T'.2 ++ [y.1]), 0) (.returned (.tuple #[Hg aa cap T'.1 sa' sb' sc', (0:Int)])) w1' := by
  intro v T' sa sb sc y xv zv hT hy hl'
  refine (A5 (aa := aa) (cap := cap) hT (hP.bx xv zv) hl' y hy).mono ?_
  rintro e w' ⟨sa', sb', sc', rfl, h', x'⟩
  exact ⟨sa', sb', sc', rfl, x', fun w1' c e1 => ⟨sa', sb', sc', rfl, (h'.box e1 ⟨by omega, by omega⟩).out, (xv.tr x').ah e1 (by omega)⟩⟩
 have hRd : ∀ {b : List Int}, ks b → (bh aC b 8192).2 = 0 → bN (aH (bh aC b 8192).1) = (bh aC b 8192).1 ∧ gZ aa p b = aH (bh aC b 8192).1 := fun {b} hb h0 => by
  obtain ⟨f1, f2, f3⟩ := sV (b := b) (n := 8192) hb (by decide) h0
  have hmy : j3 aC (bh aC b 8192).1 8192 = true := by
   have := f2.j3 (by omega)
   rw [f3] at this; exact this
  exact ⟨(uQ hmy).1, by unfold gZ; rw [if_pos h0]⟩
 have hRn : ∀ {b : List Int}, (bh aC b 8192).2 ≠ 0 → gZ aa p b = made aa p := fun {b} h0 => by unfold gZ; rw [if_neg h0]
 rcases (cO (fun e : En => e.1 == p) T.2).symm with ⟨k, e, hk, he, hf, -⟩ | ⟨hf, hno⟩
 ·exact absurd (by simpa using he) (hnew _ (List.mem_of_getElem? hk))
 rw [hf]
 have e1 : wJ aa cap T.1 T.2 p = if (bK cap T.1 T.2).2 ≠ 0 then bK cap T.1 T.2 else (((bK cap T.1 T.2).1.1, (bK cap T.1 T.2).1.2 ++ [(p, gZ aa p (oU (bK cap T.1 T.2).1.1 (l8 p)).1, false, 0)]), 0) := by
  unfold wJ
  rw [if_neg (by simpa using hin), hf, if_neg (by decide)]
 obtain ⟨its, hits, hms⟩ := h.l
 have hn := hits.n
 have hil : its.length = T.2.length := by rw [← hms, List.length_map]
 refine Br.mk (fun q => by simp at q) (fun _ => Br.mk (fun hfull => ?_) (fun hfree => ?_))
 ·have hfull : ¬ ((T.2.length : Nat) : Int) < cap := by rw [← hil, ← hn]; simpa using hfull
  exact absurd hfew hfull
 ·have hfree : ((T.2.length : Nat) : Int) < cap := by rw [← hil, ← hn]; simpa using hfree
  have eR : bK cap T.1 T.2 = ((T.1, T.2), 0) := by unfold bK; rw [if_pos hfree]
  rw [e1, eR, if_neg (by simp)]
  have h6 := h.Jo x06 (w.heap.size + 3)
  refine (y8 h6.d (hP.bx x06 (by omega)) ho.d (EK (by omega)) (l8 p)).mono ?_
  rintro e' w66 ⟨s67, rfl, h67, x66⟩
  have z66 := x66.size
  refine ⟨s67, _, _, rfl, x66.k, x66.k, x66.k, (zi p s67 _ w66 h67.r h67.y h67.c (by have := HT ho.d (l8 p); omega)).mono ?_⟩
  rintro e' w70 ⟨⟨x71, x72, s73, rfl, h70⟩, x70⟩
  have z70 := x70.size
  refine ⟨x71, x72, s73, _, rfl, x70.k, x70.k, x70.k, fun w75 e75 w76 e76 => ?_⟩
  have x76 : Ext w70 w76 := ((Ext.aq _).ab e75).ah e76 (Nat.le_refl _)
  have z76 := yA e75 e76
  clear e75 e76
  have x076 := x06.tr (x66.tr (x70.tr x76))
  generalize hbb : (oU T.1 (l8 p)).1 = bb at *
  refine Br.mk (fun q2 => (A6 aa p (BW hin) w76).mono ?_) (fun q2 => ?_)
  ·rintro e' w77 ⟨s80, rfl, ho80, x77⟩
   have q2 : (bh aC bb 8192).2 ≠ 0 := by simpa using q2
   have z77 := x77.size
   refine ⟨_, _, s80, rfl, x77.k, x77.k, x77.k, x77.k, fun w81 e81 => ?_⟩
   have z81 := Ap e81
   have x081 := (x076.tr x77).ah e81 (by omega)
   have h81 : RT (Bx P w.heap.size (w.heap.size + 3)) w81 T s1 s2 s3 := (h6.ext (x66.tr x70)).same fun i hp hi => ⟨by rw [e81, setRow_other _ _ _ _ (by omega)]; exact (x76.tr x77).k, hp⟩
   have hr81 : RR (Bx P w.heap.size (w.heap.size + 3)) w81 s80 (bN (made aa p)) := by
    refine RR.own (B := w76.heap.size) (af.bC ho80 fun j hj => ?_) (fun i hi => ⟨hP i (by omega), .inr (by omega)⟩)
    have := (ho80.own.lt hj).1
    rw [e81, setRow_other _ _ _ _ (by omega)]
   clear e81
   refine (leaf ((p, made aa p, false, 0), s80) x081 (by omega) h81 hr81 hl).mono ?_
   rintro e' w82 ⟨sa', sb', sc', rfl, x82, fin⟩
   rw [hRn q2]
   exact ⟨_, _, _, _, _, sa', sb', sc', rfl, x82.k, x82.k, x82.k, x82.k, fun w91 e91 => fin w91 _ e91⟩
  ·have q2 : (bh aC bb 8192).2 = 0 := by simpa using q2
   obtain ⟨rfl, rfl, ho73⟩ := h70 q2
   obtain ⟨hc1, hc2⟩ := hRd h67.y q2
   rw [← hc1] at ho73
   have hr76 : RR (Bx P w.heap.size (w.heap.size + 3)) w76 s73 (bN (aH (bh aC bb 8192).1)) := RR.ext (RR.own ho73 fun i hi => ⟨hP i (by omega), .inr (by omega)⟩) x76
   refine (leaf ((p, aH (bh aC bb 8192).1, false, 0), s73) x076 (by omega) (h6.ext (x66.tr (x70.tr x76))) hr76 hl).mono ?_
   rintro e' w92 ⟨sa', sb', sc', rfl, x92, fin⟩
   rw [hc2]
   exact ⟨_, _, _, _, _, sa', sb', sc', rfl, x92.k, x92.k, x92.k, x92.k, fun w101 e101 => fin w101 _ e101⟩
end
end Go.Proofs.YtalpkjfpmdpbiaaGreatDoor
