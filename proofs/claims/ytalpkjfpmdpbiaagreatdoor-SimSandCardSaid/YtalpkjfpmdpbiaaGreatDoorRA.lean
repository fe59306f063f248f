import Derived.Test.YtalpkjfpmdpbiaaGreatDoorKU
import Derived.Test.YtalpkjfpmdpbiaaGreatDoorGR
set_option linter.all false
namespace Go.Proofs.YtalpkjfpmdpbiaaGreatDoor
open Go Go.Vc Go.RowKit Go.Proofs Go.bQ Go.aB Go.Code
abbrev Fw (P:Nat->Prop) (w:World):Prop:=∀i,w.heap.size<=i->P i
theorem Fw.ext {P:Nat->Prop} {w w':World} (h:Fw P w) (x:Ext w w'):Fw P w':=fun i hi=>h i (Nat.le_trans x.size hi)
structure RY (P:Nat->Prop) (w:World) (s:Sl) (b:List Int):Prop where
 r:cJ w s b
 y:ks b
 p:b≠ []->∀g,s.ax=some g->P g
 c:s.n<=s.c
theorem RY.ext {P:Nat->Prop} {w w':World} {s:Sl} {b:List Int} (h:RY P w s b) (x:Ext w w'):RY P w' s b:=⟨ba.ext h.r x,h.y,h.p,h.c⟩
theorem RY.nil {P:Nat->Prop} {w:World}:RY P w ⟨none,0,0⟩ []:=⟨⟨rfl,(fun r hr=>by cases hr),fun i r hi=>by simp at hi⟩,(fun c hc=>by cases hc),fun h=>absurd rfl h,Nat.le_refl _⟩
theorem RY.len {P:Nat->Prop} {w:World} {s:Sl} {b:List Int} (h:RY P w s b):s.n=b.length:=cJ.n h.r
theorem RY.same {P P' : Nat → Prop} {w w' : World} {s : Sl} {b : List Int} (h : RY P w s b) (hk : ∀ i, P i → i < w.heap.size → w'.heap[i]? = w.heap[i]? ∧ P' i) : RY P' w' s b := by
 have hb : b.map yv ≠ [] → b ≠ [] := fun q e => q (by rw [e]; rfl)
 have hb' : b ≠ [] → b.map yv ≠ [] := fun q e => q (by simpa using e)
 refine ⟨ba.zu h.r fun hne g hg => (hk g (h.p (hb hne) g hg) (ba.lN h.r (by decide) hne hg)).1, h.y, fun hne g hg => (hk g (h.p hne g hg) (ba.lN h.r (by decide) (hb' hne) hg)).2, h.c⟩
theorem vq {s:Sl} {l m k n c:Nat} {g:Nat} (h:Sl.ax ⟨ai s.a l m k,n,c⟩=some g):s.ax=some g:=by
 obtain ⟨a,n',c'⟩:=s
 cases a with
 |none=>simp [Sl.ax,ai]at h
 |some a=>
  simp only [Sl.ax,ai]at h ⊢
  split at h
  ·exact h
  ·simp at h ⊢;rw [<-h];unfold Addr.add;split<;>rfl
theorem RY.cut {P : Nat → Prop} {w : World} {s : Sl} {b : List Int} (h : RY P w s b) {m c' c'' : Nat} (hm : m ≤ b.length) (hc : m ≤ c'') : RY P w ⟨ai s.a 0 c' 1, m, c''⟩ (b.take m) := by
 have h1 := ba.cut (c' := c') (c'' := c'') h.r (m := m) (by rw [List.length_map]; exact hm)
 rw [← List.map_take] at h1
 exact ⟨h1, fun c hc => h.y c (List.mem_of_mem_take hc), fun hne g hg => h.p (fun e => hne (by rw [e]; exact List.take_nil)) g (vq hg), hc⟩
def Io:Nat->eU->eU
 |0,c=>c
 |n+1,c=>yn (Io n c)
theorem Ip (n:Nat) (c:eU):0<=cI (Io n c)/\cI (Io n c)<65536:=nR _
theorem DM (s : Sl) (b : List Int) (v : eU) (w : World) (hs : cJ w s b) (hb : ks b) (hn : b.length ≤ 1099511627776) : Calls Tryz.prog nw #[.int .i64 (cI v), s] w fun e w' => e = .returned (.int .i64 (cI (oB v b))) ∧ w' = w := by
 apply (rT.vc (a1 := s))
 have hsn := cJ.n hs
 refine ⟨fun n i c wr => ∃ k : Nat, i = k ∧ k + n = b.length ∧ c = cI (oB v (b.take k)) ∧ wr = w, ⟨b.length, 0, rfl, by omega, rfl, rfl⟩, ?_⟩
 rintro n us i c wr ⟨k, rfl, hk, rfl, rfl⟩
 refine Br.mk (fun hc => ?_) (fun hc => ?_)
 ·replace hc := eN hc
  obtain ⟨x, hx⟩ := aN (l := b) (i := k) (by omega)
  have hxb := hb x (List.mem_of_getElem? hx)
  have hm : (b.map yv)[k]? = some [.int .u8 x] := by rw [List.getElem?_map, hx]; rfl
  have hld := hs.at hm (j := 0) rfl
  rw [bf] at hld
  have wk : IntKind.wrap .i64 ((k : Int) + 1) = ((k + 1 : Nat) : Int) := by rw [wI]; omega
  have e1 : IntKind.wrap .i64 ((IntKind.wrap .i64 x) * 256) = cI (gq x <<< 8) := by
   rw [ag (n := x) (by unfold inI; omega), wI, BB, yp ⟨hxb.1, by omega⟩]
   have e : (2 : Int) ^ 8 = 256 := rfl
   rw [e]; omega
  refine ⟨hs.eV (by omega), x, hld, ?_⟩
  rw [e1, FN]
  refine ⟨fun n i c wr2 => ∃ j : Nat, i = j ∧ j + n = 8 ∧ c = cI (Io j (oB v (b.take k) ^^^ (gq x <<< 8))) ∧ wr2 = wr, ⟨8, 0, rfl, rfl, rfl, rfl⟩, ?_⟩
  rintro n9 us10 i c w13 ⟨j, rfl, hj, rfl, rfl⟩
  have hbd := Ip j (oB v (b.take k) ^^^ (gq x <<< 8))
  have hst := G6 (Io j (oB v (b.take k) ^^^ (gq x <<< 8)))
  have wj : IntKind.wrap .i64 ((j : Int) + 1) = ((j + 1 : Nat) : Int) := by rw [wI]; omega
  have w2 : IntKind.wrap .i64 (cI (Io j (oB v (b.take k) ^^^ (gq x <<< 8))) * 2) = cI (Io j (oB v (b.take k) ^^^ (gq x <<< 8))) * 2 := wI
  rw [w2]
  refine Br.mk (fun hj8 => ?_) (fun hj8 => ?_)
  ·refine Br.mk (fun h => ?_) (fun h => ?_)
   ·simp only [ge_iff_le, decide_eq_true_eq] at h
    rw [if_pos h] at hst
    refine ⟨n9 - 1, by simp at hj8; omega, j + 1, wj, by simp at hj8; omega, ?_, rfl⟩
    rw [wI]; exact hst
   ·simp only [ge_iff_le, decide_eq_false_iff_not] at h
    rw [if_neg h] at hst
    exact ⟨n9 - 1, by simp at hj8; omega, j + 1, wj, by simp at hj8; omega, hst, rfl⟩
  ·have hj8 : j = 8 := by simp at hj8; omega
   subst hj8
   refine ⟨n - 1, by omega, k + 1, wk, by omega, ?_, rfl⟩
   rw [List.take_add_one, hx]
   show _ = cI (oB v (b.take k ++ [x]))
   rw [nS]; rfl
 ·replace hc := eO hc
  rw [List.take_of_length_le (by omega)]
  exact ⟨rfl, rfl⟩
theorem Fm (s : Sl) (b : List Int) (w : World) (hs : cJ w s b) (hb : ks b) (hn : b.length ≤ 1099511627776) : Calls Tryz.prog pF #[s] w fun e w' => e = .returned (.int .i64 (cI (jY b))) ∧ w' = w := by
 apply (uM.vc (a0 := s))
 refine (DM s b 0xFFFF#16 w hs hb hn).mono ?_
 rintro e w' ⟨rfl, rfl⟩
 exact ⟨_, rfl, rfl, rfl⟩
end Go.Proofs.YtalpkjfpmdpbiaaGreatDoor
namespace Go.Proofs.YtalpkjfpmdpbiaaGreatDoor
open Go Go.Vc Go.RowKit Go.Proofs Go.bQ Go.aB Go.Code
theorem Bp {P : Nat → Prop} (s : Sl) (b : List Int) (w : World) (h : RY P w s b) (hn : b.length ≤ 1000000000) : Calls Tryz.prog lJ #[s] w fun e w' => ∃ s' : Sl, e = .returned (.tuple #[s', .int .i64 (gN b).2]) ∧ RY P w' s' (gN b).1 ∧ Ext w w' := by
 apply (pK.vc (a0 := s))
 have hsn := h.len
 refine Br.mk (fun hc => ?_) (fun hc => ?_)
 ·replace hc := eN hc
  rw [wI] at hc
  have e : gN b = ([], 3) := by unfold gN; rw [if_pos (by omega)]
  rw [e]
  exact ⟨⟨none, 0, 0⟩, rfl, RY.nil, Ext.aq _⟩
 ·replace hc := eO hc
  rw [wI] at hc
  obtain ⟨m, hm⟩ : ∃ m, b.length = m + 2 := ⟨b.length - 2, by omega⟩
  have wk : IntKind.wrap .i64 (((s.n : Nat) : Int) - 2) = ((m : Nat) : Int) := by rw [wI]; omega
  have wk1 : IntKind.wrap .i64 ((m : Int) + 1) = ((m + 1 : Nat) : Int) := by rw [wI]; omega
  rw [wk, wk1]
  have hd := h.ext (Ext.dr w)
  obtain ⟨x0, hx0⟩ := aN (l := b) (i := m) (by omega)
  obtain ⟨x1, hx1⟩ := aN (l := b) (i := m + 1) (by omega)
  have b0 := h.y x0 (List.mem_of_getElem? hx0)
  have b1 := h.y x1 (List.mem_of_getElem? hx1)
  have ld0 : ld w.drew (ae s.a (((m : Nat) : Int).toNat * 1)) = some (.int .u8 x0) := by
   have := hd.r.at (show (b.map yv)[m]? = some [.int .u8 x0] by rw [List.getElem?_map, hx0]; rfl) (j := 0) rfl
   rwa [bf] at this
  have ld1 : ld w.drew (ae s.a (((m + 1 : Nat) : Int).toNat * 1)) = some (.int .u8 x1) := by
   have := hd.r.at (show (b.map yv)[m + 1]? = some [.int .u8 x1] by rw [List.getElem?_map, hx1]; rfl) (j := 0) rfl
   rwa [bf] at this
  have e : b = b.take m ++ [x0, x1] := by
   conv => lhs; rw [← List.take_append_drop m b]
   congr 1
   rw [List.drop_eq_getElem_cons (by omega), List.drop_eq_getElem_cons (by omega), List.drop_eq_nil_of_le (by omega)]
   obtain ⟨_, q0⟩ := List.getElem?_eq_some_iff.1 hx0
   obtain ⟨_, q1⟩ := List.getElem?_eq_some_iff.1 hx1
   rw [q0, q1]
  have ht := Ic e b0 b1
  have hcut : RY P w.drew ⟨ai s.a 0 s.c 1, ((m : Nat) : Int).toNat - 0, s.c - 0⟩ (b.take m) := by
   have := hd.cut (m := m) (c' := s.c) (c'' := s.c - 0) (by omega) (by have := h.c; omega)
   exact this
  have hcc := h.c
  refine ⟨h.r.eV (by omega), x0, ld0, h.r.eV (by omega), x1, ld1, by omega, by omega, (Fm ⟨ai s.a 0 s.c 1, ((m : Nat) : Int).toNat - 0, s.c - 0⟩ (b.take m) w.drew hcut.r hcut.y (by rw [List.length_take]; omega)).mono ?_⟩
  rintro e2 w2 ⟨rfl, rfl⟩
  have e3 : IntKind.wrap .i64 (IntKind.wrap .i64 (IntKind.wrap .i64 x0 * 256) + IntKind.wrap .i64 x1) = x0 * 256 + x1 := by
   rw [ag (n := x0) (by unfold inI; omega), ag (n := x1) (by unfold inI; omega), ag (n := x0 * 256) (by unfold inI; omega), wI]
  rw [e3]
  refine ⟨_, rfl, qh ld1, qh ld0, Br.mk (fun hq => ?_) (fun hq => ?_)⟩
  ·rw [if_neg (by simpa using hq)] at ht
   rw [ht]
   exact ⟨⟨none, 0, 0⟩, rfl, RY.nil, Ext.dr w⟩
  ·rw [if_pos (by simpa using hq)] at ht
   rw [ht]
   exact ⟨by omega, by omega, _, rfl, hcut, Ext.dr w⟩
theorem xe (s : Sl) (b : List Int) (w : World) (hs : cJ w s b) (hb : ks b) (hn : b.length ≤ 4) : Calls Tryz.prog jN #[s] w fun e w' => e = .returned (.int .i64 (bz b)) ∧ w' = w := by
 apply (rS.vc (a0 := s))
 have hsn := cJ.n hs
 refine ⟨fun l i n wr => ∃ k : Nat, i = k ∧ k + l = b.length ∧ n = bz (b.take k) ∧ wr = w, ⟨b.length, 0, rfl, by omega, rfl, rfl⟩, ?_⟩
 rintro l us i n wr ⟨k, rfl, hk, rfl, rfl⟩
 refine Br.mk (fun hc => ?_) (fun hc => ?_)
 ·replace hc := eN hc
  obtain ⟨x, hx⟩ := aN (l := b) (i := k) (by omega)
  have hxb := hb x (List.mem_of_getElem? hx)
  have hm : (b.map yv)[k]? = some [.int .u8 x] := by rw [List.getElem?_map, hx]; rfl
  have hld := hs.at hm (j := 0) rfl
  rw [bf] at hld
  have wk : IntKind.wrap .i64 ((k : Int) + 1) = ((k + 1 : Nat) : Int) := by rw [wI]; omega
  have hsm := vo hb (k := k) (by omega)
  refine ⟨hs.eV (by omega), x, hld, l - 1, by omega, k + 1, wk, by omega, ?_, rfl⟩
  rw [List.take_add_one, hx]
  show _ = bz (b.take k ++ [x])
  rw [vp, ag (n := x) (by unfold inI; omega), ag (n := bz (b.take k) * 256) (by unfold inI; omega), wI]
 ·replace hc := eO hc
  rw [List.take_of_length_le (by omega)]
  exact ⟨rfl, rfl⟩
theorem sR {P : Nat → Prop} (s : Sl) (b : List Int) (w : World) (h : RY P w s b) (hn : b.length ≤ 1000000000) : Calls Tryz.prog iB #[s] w fun e w' => ∃ s' : Sl, e = .returned (.tuple #[.int .i64 (dS b).1, s', .int .i64 (dS b).2.2]) ∧ RY P w' s' (dS b).2.1 ∧ Ext w w' := by
 apply (pJ.vc (a0 := s))
 refine (Bp s b w h hn).mono ?_
 rintro e w0 ⟨s1, rfl, h1, x0⟩
 have hl1 : (gN b).1.length ≤ b.length := by unfold gN; split <;> (try split) <;> simp [List.length_take] <;> omega
 refine ⟨s1, _, rfl, Br.mk (fun hq => ?_) (fun hq => ?_)⟩
 ·have hq : (gN b).2 ≠ 0 := by simpa using hq
  have e : dS b = (0, [], (gN b).2) := by unfold dS; rw [if_pos hq]
  rw [e]
  exact ⟨⟨none, 0, 0⟩, rfl, RY.nil, x0⟩
 have hq : (gN b).2 = 0 := by simpa using hq
 have dR := h1.len
 refine Br.mk (fun h7 => ?_) (fun h7 => ?_)
 ·replace h7 := eN h7
  have e : dS b = (0, [], 3) := by unfold dS; rw [if_neg (by omega), if_pos (by omega)]
  rw [e]
  exact ⟨⟨none, 0, 0⟩, rfl, RY.nil, x0⟩
 replace h7 := eO h7
 have hc1 := h1.c
 have e0 : dS b = if bz ((gN b).1.take 4) < 1 ∨ bz ((gN b).1.take 4) > 1073741824 ∨ bz (((gN b).1.drop 4).take 3) > 65536 ∨ bz (((gN b).1.drop 4).take 3) ≠ (((gN b).1.drop 7).length : Int) then (0, [], 2) else (bz ((gN b).1.take 4), (gN b).1.drop 7, 0) := by
  unfold dS; rw [if_neg (by omega), if_neg (by omega)]
 generalize (gN b).1 = a at *
 have c4 : RY P w0 ⟨ai s1.a 0 s1.c 1, (4 : Int).toNat - 0, s1.c - 0⟩ (a.take 4) := h1.cut (m := 4) (by omega) (by omega)
 have c7 : cJ w0 ⟨ai s1.a ((4 : Int).toNat) s1.c 1, (7 : Int).toNat - (4 : Int).toNat, s1.c - (4 : Int).toNat⟩ ((a.drop 4).take 3) := by
  have q := ba.rest h1.r (l := 4) (m := s1.c) (n' := a.length - 4) (c' := s1.c - 4) (by rw [List.length_map]) (by rw [List.length_map]; omega)
  rw [← List.map_drop] at q
  have q2 := ba.cut (c' := 5) (c'' := s1.c - 4) q (m := 3) (by rw [List.length_map, List.length_drop]; omega)
  rw [← List.map_take, bR] at q2
  exact q2
 refine ⟨by omega, by omega, (xe _ _ w0 c4.r c4.y (by rw [List.length_take]; omega)).mono ?_⟩
 rintro e w3 ⟨rfl, rfl⟩
 refine ⟨_, rfl, by omega, by omega, by omega, by omega, (xe _ _ w3 c7 (fun c hc => h1.y c (List.mem_of_mem_drop (List.mem_of_mem_take hc))) (by rw [List.length_take]; omega)).mono ?_⟩
 rintro e w5 ⟨rfl, rfl⟩
 refine ⟨_, rfl, ?_⟩
 have wk : IntKind.wrap .i64 (((s1.n : Nat) : Int) - 7) = ((a.drop 7).length : Int) := by rw [wI, List.length_drop]; omega
 rw [wk]
 have bad : (bz (a.take 4) < 1 ∨ bz (a.take 4) > 1073741824 ∨ bz ((a.drop 4).take 3) > 65536 ∨ bz ((a.drop 4).take 3) ≠ ((a.drop 7).length : Int)) → ∃ s' : Sl, Ending.returned (.tuple #[(0:Int), .slice none 0 0, (2:Int)]) = .returned (.tuple #[.int .i64 (dS b).1, s', .int .i64 (dS b).2.2]) ∧ RY P w5 s' (dS b).2.1 ∧ Ext w w5 := fun q => by
  rw [e0, if_pos q]
  exact ⟨⟨none, 0, 0⟩, rfl, RY.nil, x0⟩
 refine Br.mk (fun q => bad (.inl (by simpa using q))) (fun q1 => Br.mk (fun q => bad (.inr (.inl (by simpa using q)))) (fun q2 => Br.mk (fun q => bad (.inr (.inr (.inl (by simpa using q))))) (fun q3 => Br.mk (fun q => bad (.inr (.inr (.inr (by simpa using q))))) (fun q4 => ?_))))
 have q4 : bz ((a.drop 4).take 3) = ((a.drop 7).length : Int) := by simpa using q4
 simp only [decide_eq_false_iff_not] at q1 q2 q3
 rw [e0, if_neg (by rintro (q | q | q | q); exact q1 q; exact q2 q; exact q3 q; exact q q4)]
 have xd := Ext.dr w5
 refine ⟨by omega, by omega, ⟨ai s1.a ((7 : Int).toNat) s1.c 1, s1.n - (7 : Int).toNat, s1.c - (7 : Int).toNat⟩, rfl, ?_, x0.tr xd⟩
 have h1d := h1.ext xd
 refine ⟨?_, fun c hc => h1.y c (List.mem_of_mem_drop hc), fun hne g hg => h1.p (fun e => hne (by rw [e]; exact List.drop_nil)) g (vq hg), by show s1.n - (7 : Int).toNat ≤ s1.c - (7 : Int).toNat; omega⟩
 have q := ba.rest h1d.r (l := 7) (m := s1.c) (n' := s1.n - 7) (c' := s1.c - 7) (by rw [List.length_map]; omega) (by rw [List.length_map]; omega)
 rw [← List.map_drop] at q
 exact q
end Go.Proofs.YtalpkjfpmdpbiaaGreatDoor
namespace Go.Proofs.YtalpkjfpmdpbiaaGreatDoor
open Go Go.Vc Go.RowKit Go.Proofs Go.bQ Go.aB Go.Code
abbrev Wi:=Int × Sl × List Int
abbrev wv (y:Wi):List Value:=[.int .i64 y.1,.slice y.2.1.a y.2.1.n y.2.1.c]
abbrev wm (y:Wi):iH:=(y.1,y.2.2)
abbrev E0:TypeId:=274
structure uZ (P:Nat->Prop) (w:World) (s:Sl) (its:List Wi):Prop where
 r:ba w s 2 (its.map wv)
 y:∀y ∈ its,RY P w y.2.1 y.2.2
 p:its≠ []->∀g,s.ax=some g->P g
section
variable {P P':Nat->Prop} {w w':World} {s:Sl} {its:List Wi}
theorem uZ.ext (h:uZ P w s its) (x:Ext w w'):uZ P w' s its:=⟨h.r.ext x,fun y hy=>(h.y y hy).ext x,h.p⟩
theorem uZ.same (h : uZ P w s its) (hk : ∀ i, P i → i < w.heap.size → w'.heap[i]? = w.heap[i]? ∧ P' i) : uZ P' w' s its := by
 have hb : its.map wv ≠ [] → its ≠ [] := fun q e => q (by rw [e]; rfl)
 have hb' : its ≠ [] → its.map wv ≠ [] := fun q e => q (by simpa using e)
 exact ⟨ba.zu h.r fun hne g hg => (hk g (h.p (hb hne) g hg) (ba.lN h.r (by decide) hne hg)).1, fun y hy => (h.y y hy).same hk, fun hne g hg => (hk g (h.p hne g hg) (ba.lN h.r (by decide) (hb' hne) hg)).2⟩
theorem uZ.nil:uZ P w ⟨none,0,0⟩ []:=⟨⟨rfl,(fun r hr=>by cases hr),fun i r hi=>by simp at hi⟩,(fun y hy=>by cases hy),fun h=>absurd rfl h⟩
theorem uZ.n (h:uZ P w s its):s.n=its.length:=by have:=h.r.n;rwa [List.length_map]at this
theorem uZ.at (h : uZ P w s its) {k : Nat} {y : Wi} (hk : its[k]? = some y) : cn s.a (k : Int) s.n ∧ (ae s.a (((k : Nat) : Int).toNat * 2)).isSome = true ∧ ld w (ae (ae s.a (((k : Nat) : Int).toNat * 2)) 0) = some (.int .i64 y.1) ∧ ld w (ae (ae s.a (((k : Nat) : Int).toNat * 2)) 1) = some (.slice y.2.1.a y.2.1.n y.2.1.c) := by
 have hl := (List.getElem?_eq_some_iff.1 hk).1
 have hn := h.n
 have hin := ba.eV h.r (by decide) (i := (k : Int)) (by omega) (by omega)
 have hr : (its.map wv)[k]? = some (wv y) := by rw [List.getElem?_map, hk]; rfl
 exact ⟨hin, by rw [gH]; exact hin.1, h.r.at hr (j := 0) rfl, h.r.at hr (j := 1) rfl⟩
theorem uZ.load (h : uZ P w s its) {k : Nat} {y : Wi} (hk : its[k]? = some y) : aj w (ae s.a (((k : Nat) : Int).toNat * 2)) 0 [y.1, .slice y.2.1.a y.2.1.n y.2.1.c] := by
 obtain ⟨-, -, h0, h1⟩ := h.at hk
 refine mG fun j v hj => ?_
 rw [Nat.zero_add]
 match j, hj with
 | 0, hj => cases hj; exact h0
 | 1, hj => cases hj; exact h1
theorem uZ.own {B:Nat} (h:af B E0 2 w s (its.map wv)) (hy:∀y ∈ its,RY P w y.2.1 y.2.2) (hP:∀i,B<=i->P i):uZ P w s its:=⟨af.rd h (by decide),hy,fun _ g hg=>hP g (h.own.lt hg).1⟩
end
def gh : Bool → List Wi → Wi → List Wi
 | done, [], w => if done then [] else [w]
 | done, x :: t, w => (if done = false ∧ x.1 ≥ w.1 then [w] else []) ++ (if x.1 ≠ w.1 then [x] else []) ++ gh (done || decide (x.1 ≥ w.1)) t w
theorem zw : ∀ (b : Bool) (t : List Wi) (w : Wi), (gh b t w).map wm = Dd b (t.map wm) (wm w)
 | b, [], w => by cases b <;> rfl
 | b, x :: t, w => by
   show List.map wm (_ ++ _ ++ _) = (_ ++ _ ++ _)
   rw [List.map_append, List.map_append, zw]
   congr 1
   congr 1
   ·split <;> rfl
   ·split <;> rfl
theorem zF:∀(b:Bool) (t:List Wi) (w y:Wi),y ∈ gh b t w->y=w\/y ∈ t
 |b,[],w,y,h=>by cases b<;>simp [gh]at h;exact .inl h
 |b,x::t,w,y,h=>by
  unfold gh at h
  rcases List.mem_append.1 h with h|h
  ·rcases List.mem_append.1 h with h|h
   ·split at h
    ·exact .inl (by simpa using h)
    ·cases h
   ·split at h
    ·exact .inr (by simp at h;rw [h];exact .head _)
    ·cases h
  ·rcases zF _ t w y h with h|h
   ·exact .inl h
   ·exact .inr (.tail _ h)
theorem zG : ∀ (b : Bool) (t : List Wi) (w : Wi), (gh b t w).length ≤ t.length + (if b then 0 else 1)
 | b, [], w => by cases b <;> simp [gh]
 | b, x :: t, w => by
   have h := zG (b || decide (x.1 ≥ w.1)) t w
   unfold gh
   simp only [List.length_append, List.length_cons]
   cases b with
   | true =>
     rw [if_neg (by simp)]
     simp only [Bool.true_or] at h ⊢
     have : (if x.1 ≠ w.1 then [x] else []).length ≤ 1 := by split <;> simp
     generalize (if x.1 ≠ w.1 then [x] else []) = z at *
     simp at h ⊢; omega
   | false =>
     have : (if x.1 ≠ w.1 then [x] else []).length ≤ 1 := by split <;> simp
     generalize (if x.1 ≠ w.1 then [x] else []) = z at *
     by_cases q : x.1 ≥ w.1
     ·rw [if_pos ⟨rfl, q⟩]
      simp [q] at h ⊢; omega
     ·rw [if_neg (fun e => q e.2)]
      simp [q] at h ⊢; omega
set_option maxRecDepth 100000 in
theorem C7 {P : Nat → Prop} (s : Sl) (its : List Wi) (y : Wi) (w : World) (h : uZ P w s its) (hy : RY P w y.2.1 y.2.2) (hP : Fw P w) (hi : its.length ≤ 1000000000) :
  Calls Tryz.prog jM #[s, .agg #[y.1, .slice y.2.1.a y.2.1.n y.2.1.c]] w fun e w' => ∃ s' : Sl, e = .returned (.slice s'.a s'.n s'.c) ∧ uZ P w' s' (gh false its y) ∧ Ext w w' := by
 apply (rP.vc (a0 := s) (a1_1 := y.2.1))
 have hsn := h.n
 intro w0 e0
 have x0 : Ext w w0 := (Ext.aq _).ab e0
 have z0 := dR e0
 clear e0
 have hlen := zG false its y
 simp only [Bool.false_eq_true, if_false] at hlen
 have hmem := zF false its y
 have push : ∀ {wr : World} {so : Sl} {o : List Wi} (y' : Wi), Ext w0 wr → af w0.heap.size E0 2 wr so (o.map wv) → o.length ≤ its.length + 1 →
   ∀ wz, wz = wr.alloc (.cells #[y'.1, .slice y'.2.1.a y'.2.1.n y'.2.1.c] 274) → az 32 2 wz ⟨so.a, so.n, so.c⟩ 1 [y'.1, .slice y'.2.1.a y'.2.1.n y'.2.1.c] ∧
   ∀ (s' : Sl) (w' : World), av 274 2 wz ⟨so.a, so.n, so.c⟩ 1 [y'.1, .slice y'.2.1.a y'.2.1.n y'.2.1.c] s' w' → w'.heap[w.heap.size]? = wz.heap[w.heap.size]? ∧ w'.heap[wr.heap.size]? = wz.heap[wr.heap.size]? ∧ af w0.heap.size E0 2 w' s' ((o ++ [y']).map wv) ∧ Ext w0 w' ∧
    (∀ j, so.ax ≠ some j → j < wr.heap.size → w'.heap[j]? = wz.heap[j]?) ∧ (s'.ax = so.ax ∨ s'.ax = some (wr.heap.size + 1)) := by
  intro wr so o y' xr ho hol wz ez
  subst ez
  have hon := af.rd ho (by decide)
  have hon := hon.n
  rw [List.length_map] at hon
  obtain ⟨hp, hres⟩ := ho.mB (bytes := 32) (news := wv y') (.cells #[y'.1, .slice y'.2.1.a y'.2.1.n y'.2.1.c] 274) xr.size rfl (A8 _ _ _ _) (by omega) (by omega)
  refine ⟨hp, fun s' w' hr => ?_⟩
  obtain ⟨f1, ho', hn', xb, hk, hbl⟩ := hres s' w' hr
  have zr := xr.size
  have xa := Ext.al wr (.cells #[y'.1, .slice y'.2.1.a y'.2.1.n y'.2.1.c] 274)
  refine ⟨?_, f1, by rw [List.map_append]; exact ho', xr.trans xb, fun j hj hjl => ?_, hbl⟩
  ·rw [xb.block _ (by omega), xa.k]
  ·rw [hk j hj hjl, xa.heap hjl]
 refine ⟨fun n i b so wr => ∃ (k : Nat) (o : List Wi), i = k ∧ k + n = its.length ∧ af w0.heap.size E0 2 wr so (o.map wv) ∧ o ++ gh b (its.drop k) y = gh false its y ∧ Ext w0 wr, ⟨its.length, rfl, 0, [], rfl, by omega, af.nil, rfl, Ext.aq _⟩, ?_⟩
 rintro n us i b so wr ⟨k, o, rfl, hk, ho, hl, xr⟩
 have hol : o.length ≤ its.length + 1 := by have := congrArg List.length hl; rw [List.length_append] at this; omega
 refine Br.mk (fun hc => ?_) (fun hc => ?_)
 ·replace hc := eN hc
  obtain ⟨x, hx⟩ := aN (l := its) (i := k) (by omega)
  have hdr : its.drop k = x :: its.drop (k + 1) := by
   obtain ⟨hkl, q⟩ := List.getElem?_eq_some_iff.1 hx
   rw [List.drop_eq_getElem_cons hkl, q]
  rw [hdr] at hl
  have wk : IntKind.wrap .i64 ((k : Int) + 1) = ((k + 1 : Nat) : Int) := by rw [wI]; omega
  have rd : ∀ {v : World}, Ext w0 v → uZ P v s its := fun x' => h.ext (x0.tr x')
  have xd := Ext.dr wr
  have xdd := xd.tr (Ext.dr wr.drew)
  have skip : (b = true ∨ ¬ x.1 ≥ y.1) → ∀ n' , n' < n → k + 1 + n' = its.length → (x.1 = y.1 → ∀ v, Ext w0 v → af w0.heap.size E0 2 v so (o.map wv) → ∃ (k' : Nat) (o' : List Wi), IntKind.wrap .i64 ((k : Int) + 1) = k' ∧ k' + n' = its.length ∧ af w0.heap.size E0 2 v so (o'.map wv) ∧ o' ++ gh b (its.drop k') y = gh false its y ∧ Ext w0 v) ∧
    (x.1 ≠ y.1 → ∀ v sv, Ext w0 v → af w0.heap.size E0 2 v sv ((o ++ [x]).map wv) → ∃ (k' : Nat) (o' : List Wi), IntKind.wrap .i64 ((k : Int) + 1) = k' ∧ k' + n' = its.length ∧ af w0.heap.size E0 2 v sv (o'.map wv) ∧ o' ++ gh b (its.drop k') y = gh false its y ∧ Ext w0 v) := by
   intro hb n' hn' hkn
   have hstep : gh b (x :: its.drop (k + 1)) y = (if x.1 ≠ y.1 then [x] else []) ++ gh b (its.drop (k + 1)) y := by
    show (if b = false ∧ x.1 ≥ y.1 then [y] else []) ++ _ ++ _ = _
    have e1 : ¬ (b = false ∧ x.1 ≥ y.1) := by rintro ⟨q1, q2⟩; rcases hb with q | q; exact absurd (q.symm.trans q1) (by decide); exact q q2
    have e2 : (b || decide (x.1 ≥ y.1)) = b := by
     rcases hb with q | q
     ·rw [q]; rfl
     ·rw [show decide (x.1 ≥ y.1) = false by simpa using q]; simp
    rw [if_neg e1, e2]; rfl
   rw [hstep] at hl
   refine ⟨fun q v xv hv => ?_, fun q v sv xv hv => ?_⟩
   ·rw [if_neg (by simpa using q)] at hl
    exact ⟨k + 1, o, wk, by omega, hv, hl, xv⟩
   ·rw [if_pos q, ← List.append_assoc] at hl
    exact ⟨k + 1, o ++ [x], wk, by omega, hv, hl, xv⟩
  have low : (b = true ∨ ¬ x.1 ≥ y.1) → cn s.a (k : Int) s.n ∧ aV (ik (ae s.a (((k : Int)).toNat * 2))) (∃ (x25 : Int), ld wr.drew.drew (ae (ae s.a (((k : Int)).toNat * 2)) 0) = some (.int .i64 x25) ∧
    Br ((x25 : Int) != y.1)
    (cn s.a (k : Int) s.n ∧ ∃ (x26 : Int) (s27 : Sl), aj wr.drew.drew (ae s.a (((k : Int)).toNat * 2)) 0 [x26, s27] ∧
    ∀ w28 : World, w28 = wr.drew.drew.alloc (.cells #[x26, s27] 274) →
    az 32 2 w28 ⟨so.a, so.n, so.c⟩ 1 [x26, s27] ∧ ∀ (s29 : Sl) (w30 : World), av 274 2 w28 ⟨so.a, so.n, so.c⟩ 1 [x26, s27] s29 w30 → w30.heap[w.heap.size]? = w28.heap[w.heap.size]? ∧ w30.heap[wr.drew.drew.heap.size]? = w28.heap[wr.drew.drew.heap.size]? ∧
    ∃ n8, n8 < n ∧ a6 [y.1, .slice y.2.1.a y.2.1.n y.2.1.c] ∧ ∃ (k' : Nat) (o' : List Wi), IntKind.wrap .i64 ((k : Int) + 1) = k' ∧ k' + n8 = its.length ∧ af w0.heap.size E0 2 w30 ⟨s29.a, s29.n, s29.c⟩ (o'.map wv) ∧ o' ++ gh b (its.drop k') y = gh false its y ∧ Ext w0 w30)
    (∃ n8, n8 < n ∧ a6 [y.1, .slice y.2.1.a y.2.1.n y.2.1.c] ∧ ∃ (k' : Nat) (o' : List Wi), IntKind.wrap .i64 ((k : Int) + 1) = k' ∧ k' + n8 = its.length ∧ af w0.heap.size E0 2 wr.drew.drew ⟨so.a, so.n, so.c⟩ (o'.map wv) ∧ o' ++ gh b (its.drop k') y = gh false its y ∧ Ext w0 wr.drew.drew)) := by
   intro hb
   have rdd := rd (xr.tr xdd)
   obtain ⟨hin, hso, h0, -⟩ := rdd.at hx
   obtain ⟨k1, k2⟩ := skip hb (n - 1) (by omega) (by omega)
   refine ⟨hin, HZ hso ⟨x.1, h0, Br.mk (fun q => ?_) (fun q => ?_)⟩⟩
   ·refine ⟨hin, x.1, x.2.1, rdd.load hx, fun wz ez => ?_⟩
    obtain ⟨hp, hres⟩ := push x (xr.tr xdd) (af.ext ho xdd) hol wz ez
    refine ⟨hp, fun s' w' hr => ?_⟩
    obtain ⟨f1, f2, ho', x', -, -⟩ := hres s' w' hr
    exact ⟨f1, f2, n - 1, by omega, rfl, k2 (by simpa using q) w' s' x' ho'⟩
   ·exact ⟨n - 1, by omega, rfl, k1 (by simpa using q) _ (xr.tr xdd) (af.ext ho xdd)⟩
  cases hb : b with
  | true => subst hb; exact Br.mk (fun q => by simp at q) (fun _ => low (.inl rfl))
  | false =>
    subst hb
    refine Br.mk (fun _ => ?_) (fun q => by simp at q)
    have rdd := rd (xr.tr xd)
    obtain ⟨hin, hso, h0, -⟩ := rdd.at hx
    refine ⟨hin, HZ hso ⟨x.1, h0, Br.mk (fun q => ?_) (fun q => low (.inr (by simpa using q)))⟩⟩
    have q : x.1 ≥ y.1 := by simpa using q
    intro w10 e10
    obtain ⟨hp, hres⟩ := push y (xr.tr xd) (af.ext ho xd) hol w10 e10
    refine ⟨hp, fun s11 w12 hr => ?_⟩
    obtain ⟨f1, f2, ho12, x12, hk12, hb12⟩ := hres s11 w12 hr
    have hstep : gh false (x :: its.drop (k + 1)) y = [y] ++ (if x.1 ≠ y.1 then [x] else []) ++ gh true (its.drop (k + 1)) y := by
     show (if false = false ∧ x.1 ≥ y.1 then [y] else []) ++ _ ++ gh (false || decide (x.1 ≥ y.1)) _ _ = _
     rw [if_pos ⟨rfl, q⟩, show decide (x.1 ≥ y.1) = true by simpa using q]; rfl
    rw [hstep] at hl
    have xd12 := Ext.dr w12
    have rd12 := rd (x12.tr xd12)
    obtain ⟨hin2, hso2, h02, -⟩ := rd12.at hx
    have ho12d := af.ext ho12 xd12
    have r10 : Row w10 wr.drew.heap.size [y.1, .slice y.2.1.a y.2.1.n y.2.1.c] 274 := by rw [e10]; exact Row.new _ [_, _] _
    have z12 : wr.drew.heap.size < w12.heap.size := (r10.same f2).lt
    refine ⟨f1, f2, hin2, HZ hso2 ⟨x.1, h02, Br.mk (fun q2 => ?_) (fun q2 => ?_)⟩⟩
    ·have q2 : x.1 ≠ y.1 := by simpa using q2
     rw [if_pos q2] at hl
     refine ⟨hin2, x.1, x.2.1, rd12.load hx, fun w16 e16 => ?_⟩
     have hol2 : (o ++ [y]).length ≤ its.length + 1 := by have := congrArg List.length hl; simp only [List.length_append] at this ⊢; omega
     obtain ⟨hp16, hres16⟩ := push x (x12.tr xd12) ho12d hol2 w16 e16
     refine ⟨hp16, fun s17 w18 hr18 => ?_⟩
     obtain ⟨g1, g2, ho18, x18, hk18, -⟩ := hres16 s17 w18 hr18
     refine ⟨g1, hk18 _ (fun e => ?_) z12, g2, n - 1, by omega, rfl, k + 1, o ++ [y] ++ [x], wk, by omega, ho18, ?_, x18⟩
     ·rcases hb12 with e' | e'
      ·have := (ho.own.lt (e'.symm.trans e)).2
       have hz : wr.drew.heap.size = wr.heap.size := rfl
       omega
      ·have := Option.some.inj (e'.symm.trans e); omega
     ·rw [← hl]; simp
    ·have q2 : x.1 = y.1 := by simpa using q2
     rw [if_neg (by simpa using q2)] at hl
     exact ⟨n - 1, by omega, rfl, k + 1, o ++ [y], wk, by omega, ho12d, by rw [← hl]; simp, x12.tr xd12⟩
 ·replace hc := eO hc
  have hd : its.drop k = [] := List.drop_eq_nil_of_le (by omega)
  rw [hd] at hl
  have fin : ∀ {v : World} {sv : Sl}, Ext w0 v → af w0.heap.size E0 2 v sv ((gh false its y).map wv) → ∃ s' : Sl, Ending.returned (.slice sv.a sv.n sv.c) = .returned (.slice s'.a s'.n s'.c) ∧ uZ P v s' (gh false its y) ∧ Ext w v := fun {v sv} xv hv => by
   refine ⟨sv, rfl, uZ.own hv (fun z hz => ?_) (fun i hi => hP i (by omega)), x0.tr xv⟩
   rcases hmem z hz with rfl | hz
   ·exact hy.ext (x0.tr xv)
   ·exact (h.y z hz).ext (x0.tr xv)
  cases hb : b with
  | true =>
    subst hb
    refine Br.mk (fun q => by simp at q) (fun _ => fin xr ?_)
    rw [← hl]; simpa [gh] using ho
  | false =>
    subst hb
    refine Br.mk (fun _ => fun wz ez => ?_) (fun q => by simp at q)
    obtain ⟨hp, hres⟩ := push y xr ho hol wz ez
    refine ⟨hp, fun s' w' hr => ?_⟩
    obtain ⟨f1, f2, ho', x', -, -⟩ := hres s' w' hr
    refine ⟨f1, f2, fin x' ?_⟩
    rw [← hl]; exact ho'
end Go.Proofs.YtalpkjfpmdpbiaaGreatDoor
namespace Go.Proofs.YtalpkjfpmdpbiaaGreatDoor
open Go Go.Vc Go.RowKit Go.Proofs Go.bQ Go.aB Go.Code
def RW (P:Nat->Prop) (w:World) (s:Sl) (l:List iH):Prop:=∃its,uZ P w s its/\its.map wm=l
abbrev dv (d:Dk) (s1 s2:Sl):Value:=.agg #[d.room,d.dW,d.wait,s1,s2]
structure DS (P:Nat->Prop) (w:World) (d:Dk) (s1 s2:Sl):Prop where
 s:RW P w s1 d.safe
 l:RW P w s2 d.l
section
variable {P P':Nat->Prop} {w w':World} {s s1 s2:Sl} {l:List iH} {d:Dk}
theorem RW.ext (h:RW P w s l) (x:Ext w w'):RW P w' s l:=by obtain ⟨its,h1,h2⟩:=h;exact ⟨its,h1.ext x,h2⟩
theorem RW.same (h:RW P w s l) (hk:∀i,P i->i<w.heap.size->w'.heap[i]? =w.heap[i]?/\P' i):RW P' w' s l:=by obtain ⟨its,h1,h2⟩:=h;exact ⟨its,h1.same hk,h2⟩
theorem RW.nil:RW P w ⟨none,0,0⟩ []:=⟨[],uZ.nil,rfl⟩
theorem DS.ext (h:DS P w d s1 s2) (x:Ext w w'):DS P w' d s1 s2:=⟨h.s.ext x,h.l.ext x⟩
theorem DS.same (h:DS P w d s1 s2) (hk:∀i,P i->i<w.heap.size->w'.heap[i]? =w.heap[i]?/\P' i):DS P' w' d s1 s2:=⟨h.s.same hk,h.l.same hk⟩
theorem GD (l : List iH) (y : iH) : (lay l y).length ≤ l.length + 1 := by
 have h1 := (mC l y).length_eq
 have h2 := List.length_filter_le (fun x : iH => decide (x.1 ≠ y.1)) l
 simp only [List.length_cons] at h1; omega
theorem kJ:∀(t l:List iH),(t.foldl lay l).length<=l.length+t.length
 | [],l=>by simp
 |y::t,l=>by
  have h1:=kJ t (lay l y)
  have h2:=GD l y
  simp only [List.foldl_cons,List.length_cons];omega
theorem Bb (y : Wi) (h : RW P w s l) (hy : RY P w y.2.1 y.2.2) (hP : Fw P w) (hi : l.length ≤ 1000000000) :
  Calls Tryz.prog jM #[s, .agg #[y.1, .slice y.2.1.a y.2.1.n y.2.1.c]] w fun e w' => ∃ s' : Sl, e = .returned s' ∧ RW P w' s' (lay l (wm y)) ∧ Ext w w' := by
 obtain ⟨its, h1, rfl⟩ := h
 refine (C7 s its y w h1 hy hP (by simpa using hi)).mono ?_
 rintro e w' ⟨s', rfl, h', x'⟩
 exact ⟨s', rfl, ⟨_, h', zw false its y⟩, x'⟩
theorem C8 (h : DS P w d s1 s2) (hP : Fw P w) (hi : d.safe.length ≤ 100000000 ∧ d.l.length ≤ 100000000) :
  Calls Tryz.prog nv #[dv d s1 s2] w fun e w' => ∃ s' : Sl, e = .returned s' ∧ RW P w' s' (kG d) ∧ Ext w w' := by
 apply (rR.vc (a0_3 := s1) (a0_4 := s2))
 intro w0 e0
 have x0 : Ext w w0 := (Ext.aq _).ab e0
 have z0 := dR e0
 clear e0
 obtain ⟨its, hl, hle⟩ := h.l
 have hln : its.length = d.l.length := by rw [← hle, List.length_map]
 have hsn := hl.n
 refine ⟨fun n i so wr => ∃ k : Nat, i = k ∧ k + n = its.length ∧ RW P wr so ((d.l.take k).foldl lay d.safe) ∧ Ext w0 wr, ⟨its.length, rfl, 0, rfl, by omega, h.s.ext x0, Ext.aq _⟩, ?_⟩
 rintro n us i so wr ⟨k, rfl, hk, ho, xr⟩
 refine Br.mk (fun hc => ?_) (fun hc => ?_)
 ·replace hc := eN hc
  obtain ⟨y, hy⟩ := aN (l := its) (i := k) (by omega)
  have hr := hl.ext (x0.tr xr)
  have hfl := kJ (d.l.take k) d.safe
  have htl : (d.l.take k).length ≤ d.l.length := by rw [List.length_take]; omega
  refine ⟨(hr.at hy).1, y.1, y.2.1, hr.load hy, (Bb y ho (hr.y y (List.mem_of_getElem? hy)) (hP.ext (x0.tr xr)) (by omega)).mono ?_⟩
  rintro e w10 ⟨s11, rfl, h11, x11⟩
  have zr := xr.size
  refine ⟨s11, rfl, x11.k, n - 1, by omega, rfl, k + 1, by rw [wI]; omega, by omega, ?_, xr.tr x11⟩
  have : d.l[k]? = some (wm y) := by rw [← hle, List.getElem?_map, hy]; rfl
  rw [List.take_add_one, this]
  show RW P w10 s11 ((d.l.take k ++ [wm y]).foldl lay d.safe)
  rw [List.foldl_append]; exact h11
 ·replace hc := eO hc
  rw [List.take_of_length_le (by omega)] at ho
  exact ⟨so, rfl, ho, x0.tr xr⟩
theorem wK (h : DS P w d s1 s2) (hP : Fw P w) (hi : d.safe.length ≤ 10000000 ∧ d.l.length ≤ 10000000) (k : Int) :
  Calls Tryz.prog jL #[dv d s1 s2, k] w fun e w' => ∃ (s : Sl) (q : Bool), e = .returned (.tuple #[s, .bool q]) ∧ RY P w' s (getD d k) ∧ Ext w w' := by
 apply (rO.vc (a0_3 := s1) (a0_4 := s2))
 intro w0 e0
 have x0 : Ext w w0 := (Ext.aq _).ab e0
 have z0 := dR e0
 clear e0
 refine (C8 (h.ext x0) (hP.ext x0) (by omega)).mono ?_
 rintro e w1 ⟨s2', rfl, ⟨its, hits, hm⟩, x1⟩
 have hn := hits.n
 have hfl := kJ d.l d.safe
 have hil : its.length = (kG d).length := by rw [← hm, List.length_map]
 have hfl' : (kG d).length ≤ d.safe.length + d.l.length := hfl
 have hg : getD d k = ((its.find? fun y => y.1 == k).map (·.2.2)).getD [] := by
  unfold getD iC
  rw [← hm, List.find?_map]
  show ((Option.map wm (its.find? fun y => y.1 == k)).map (·.2)).getD [] = _
  rw [Option.map_map]; rfl
 rw [hg]
 refine ⟨s2', rfl, x1.k, fun n i wr => ∃ j : Nat, i = j ∧ j + n = its.length ∧ (∀ m, m < j → ∀ y, its[m]? = some y → y.1 ≠ k) ∧ wr = w1, ⟨its.length, rfl, 0, rfl, by omega, (fun m hm => absurd hm (Nat.not_lt_zero m)), rfl⟩, ?_⟩
 rintro n us i wr ⟨j, rfl, hj, hno, rfl⟩
 refine Br.mk (fun hc => ?_) (fun hc => ?_)
 ·replace hc := eN hc
  obtain ⟨y, hy⟩ := aN (l := its) (i := j) (by omega)
  obtain ⟨hin, hso, h0, h1⟩ := hits.at hy
  refine ⟨hin, HZ hso ⟨y.1, h0, Br.mk (fun hq => ?_) (fun hq => ?_)⟩⟩
  ·refine ⟨hin, HZ hso ⟨y.2.1, h1, y.2.1, true, rfl, ?_, x0.tr x1⟩⟩
   have : its.find? (fun y => y.1 == k) = some y := by
    obtain ⟨hjl, q⟩ := List.getElem?_eq_some_iff.1 hy
    rw [List.find?_eq_some_iff_getElem]
    refine ⟨hq, j, hjl, q, fun m hm => ?_⟩
    have := hno m hm _ (List.getElem?_eq_getElem (by omega))
    simpa using this
   rw [this]
   exact hits.y y (List.mem_of_getElem? hy)
  ·refine ⟨n - 1, by omega, rfl, j + 1, by rw [wI]; omega, by omega, fun m hm y' hy' => ?_, rfl⟩
   rcases Nat.lt_or_ge m j with q | q
   ·exact hno m q y' hy'
   ·have : m = j := by omega
    subst this
    rw [hy] at hy'; cases hy'
    simpa using hq
 ·replace hc := eO hc
  have : its.find? (fun y => y.1 == k) = none := by
   rw [List.find?_eq_none]
   intro y hy
   obtain ⟨m, hm⟩ := List.getElem?_of_mem hy
   have hml := (List.getElem?_eq_some_iff.1 hm).1
   simpa using hno m (by omega) y hm
  rw [this]
  exact ⟨⟨none, 0, 0⟩, false, rfl, RY.nil, x0.tr x1⟩
theorem A0 (room : Int) (w : World) : Calls Tryz.prog nu #[room] w fun e w' => e = .returned (dv (eP room) ⟨none, 0, 0⟩ ⟨none, 0, 0⟩) ∧ DS P w' (eP room) ⟨none, 0, 0⟩ ⟨none, 0, 0⟩ ∧ Ext w w' := by
 apply rN.vc
 intro w0 e0 w1 e1
 have x1 : Ext w w1 := ((Ext.aq _).ab e0).ah e1 (Nat.le_refl _)
 have ew : (if 1048576 < (if 0 > room then 0 else room) then 1048576 else (if 0 > room then 0 else room)) = min (max room 0) 1048576 := by
  split <;> split <;> omega
 rw [ew]
 exact ⟨rfl, ⟨RW.nil, RW.nil⟩, x1⟩
end
end Go.Proofs.YtalpkjfpmdpbiaaGreatDoor
namespace Go.Proofs.YtalpkjfpmdpbiaaGreatDoor
open Go Go.Vc Go.RowKit Go.Proofs Go.bQ Go.aB Go.Code
theorem BX (D : Dk) (id : Int) : fD D id =
  if (dS (getD D (2 * id))).2.2 ≠ 0 then (if (dS (getD D (2 * id + 1))).2.2 ≠ 0 then (2 * id + 1, 0, []) else (2 * id + 1, (dS (getD D (2 * id + 1))).1, (dS (getD D (2 * id + 1))).2.1))
  else if (dS (getD D (2 * id + 1))).2.2 ≠ 0 then (2 * id, (dS (getD D (2 * id))).1, (dS (getD D (2 * id))).2.1)
  else if (dS (getD D (2 * id))).1 ≥ (dS (getD D (2 * id + 1))).1 then (2 * id, (dS (getD D (2 * id))).1, (dS (getD D (2 * id))).2.1) else (2 * id + 1, (dS (getD D (2 * id + 1))).1, (dS (getD D (2 * id + 1))).2.1) := by
 unfold fD
 have ha := @Eb (getD D (2 * id))
 have hb := @Eb (getD D (2 * id + 1))
 generalize dS (getD D (2 * id)) = a at *
 generalize dS (getD D (2 * id + 1)) = b at *
 by_cases qa : a.2.2 = 0
 ·have ha := ha qa
  have e1 : cE (2 * id + 1, 0, []) (2 * id) a = (2 * id, a.1, a.2.1) := by unfold cE; rw [if_pos ⟨qa, by simp only; omega⟩]
  rw [e1, if_neg (by simpa using qa)]
  by_cases qb : b.2.2 = 0
  ·rw [if_neg (by simpa using qb)]
   by_cases q : a.1 ≥ b.1
   ·rw [if_pos q]; unfold cE; rw [if_neg (by simp only; omega)]
   ·rw [if_neg q]; unfold cE; rw [if_pos ⟨qb, by simp only; omega⟩]
  ·rw [if_pos qb]; unfold cE; rw [if_neg (fun h => qb h.1)]
 ·have e1 : cE (2 * id + 1, 0, []) (2 * id) a = (2 * id + 1, 0, []) := by unfold cE; rw [if_neg (fun h => qa h.1)]
  rw [e1, if_pos qa]
  by_cases qb : b.2.2 = 0
  ·have hb := hb qb
   rw [if_neg (by simpa using qb)]; unfold cE; rw [if_pos ⟨qb, by simp only; omega⟩]
  ·rw [if_pos qb]; unfold cE; rw [if_neg (fun h => qb h.1)]
section
variable {P P':Nat->Prop} {w w':World} {s1 s2:Sl} {d:Dk}
abbrev Gr (d:Dk) (n:Nat):Prop:=d.safe.length<=n/\d.l.length<=n
theorem CN (h : DS P w d s1 s2) (hP : Fw P w) (hd : ke d) (hi : Gr d 10000000) {id : Int} (hid : 0 ≤ id ∧ id ≤ 1099511627776) :
  Calls Tryz.prog pD #[dv d s1 s2, id] w fun e w' => ∃ s : Sl, e = .returned (.tuple #[.int .i64 (fD d id).1, .int .i64 (fD d id).2.1, s]) ∧ RY P w' s (fD d id).2.2 ∧ Ext w w' := by
 apply (uK.vc (a0_3 := s1) (a0_4 := s2))
 intro w0 e0
 have x0 : Ext w w0 := (Ext.aq _).ab e0
 have z0 := dR e0
 clear e0
 have q1 : IntKind.wrap .i64 (2 * id) = 2 * id := wI
 have q2 : IntKind.wrap .i64 (2 * id + 1) = 2 * id + 1 := wI
 rw [q1, q2]
 refine (wK (h.ext x0) (hP.ext x0) hi (2 * id)).mono ?_
 rintro e w1 ⟨sa, qa, rfl, ha, x1⟩
 have z1 := x1.size
 refine ⟨sa, qa, rfl, x1.k, (wK (h.ext (x0.tr x1)) (hP.ext (x0.tr x1)) hi (2 * id + 1)).mono ?_⟩
 rintro e w4 ⟨sb, qb, rfl, hb, x4⟩
 have z4 := x4.size
 have la := tD hd (2 * id)
 have lb := tD hd (2 * id + 1)
 refine ⟨sb, qb, rfl, x4.k, (sR sa _ w4 (ha.ext x4) (by omega)).mono ?_⟩
 rintro e w7 ⟨s9, rfl, h9, x7⟩
 have z7 := x7.size
 refine ⟨_, s9, _, rfl, x7.k, (sR sb _ w7 (hb.ext x7) (by omega)).mono ?_⟩
 rintro e w11 ⟨s13, rfl, h13, x11⟩
 have h9 := h9.ext x11
 have xx := x0.tr (x1.tr (x4.tr (x7.tr x11)))
 rw [BX]
 refine ⟨_, s13, _, rfl, x11.k, ?_⟩
 generalize dS (getD d (2 * id)) = a at *
 generalize dS (getD d (2 * id + 1)) = b at *
 refine Br.mk (fun c1 => ?_) (fun c1 => ?_)
 ·have c1 : a.2.2 ≠ 0 := by simpa using c1
  rw [if_pos c1]
  refine Br.mk (fun c2 => ?_) (fun c2 => Br.mk (fun c3 => by rw [c3] at c2; cases c2) (fun _ => Br.mk (fun c3 => absurd (by simpa using c3) c1) (fun _ => ?_)))
  ·rw [if_pos (by simpa using c2)]
   exact ⟨⟨none, 0, 0⟩, rfl, RY.nil, xx⟩
  ·rw [if_neg (by simpa using c2)]
   exact ⟨s13, rfl, h13, xx⟩
 ·have c1 : a.2.2 = 0 := by simpa using c1
  rw [if_neg (by simpa using c1)]
  refine Br.mk (fun c2 => ?_) (fun c2 => Br.mk (fun _ => Br.mk (fun c4 => ?_) (fun c4 => ?_)) (fun c3 => absurd c1 (by simpa using c3)))
  ·rw [if_pos (by simpa using c2)]
   exact ⟨s9, rfl, h9, xx⟩
  ·rw [if_neg (by simpa using c2), if_pos (by simpa using c4)]
   exact ⟨s9, rfl, h9, xx⟩
  ·rw [if_neg (by simpa using c2), if_neg (by simpa using c4)]
   exact ⟨s13, rfl, h13, xx⟩
theorem y8 (h : DS P w d s1 s2) (hP : Fw P w) (hd : ke d) (hi : Gr d 10000000) (id : Int) :
  Calls Tryz.prog iA #[dv d s1 s2, id] w fun e w' => ∃ s : Sl, e = .returned (.tuple #[s, .int .i64 (oU d id).2.1, .bool (oU d id).2.2]) ∧ RY P w' s (oU d id).1 ∧ Ext w w' := by
 apply (pE.vc (a0_3 := s1) (a0_4 := s2))
 intro w0 e0
 have x0 : Ext w w0 := (Ext.aq _).ab e0
 have z0 := dR e0
 clear e0
 have bad : qd id = false → ∃ s : Sl, Ending.returned (.tuple #[.slice none 0 0, (0:Int), .bool false]) = .returned (.tuple #[s, .int .i64 (oU d id).2.1, .bool (oU d id).2.2]) ∧ RY P w0 s (oU d id).1 ∧ Ext w w0 := fun q => by
  have e : oU d id = ([], 0, false) := by unfold oU; rw [if_neg (by rw [q]; decide)]
  rw [e]
  exact ⟨⟨none, 0, 0⟩, rfl, RY.nil, x0⟩
 refine Br.mk (fun c => bad (by unfold qd; simp at c ⊢; omega)) (fun c => Br.mk (fun c2 => bad (by unfold qd; simp at c2 ⊢; omega)) (fun c2 => ?_))
 simp only [decide_eq_false_iff_not] at c c2
 refine (CN (h.ext x0) (hP.ext x0) hd hi (id := id) (by omega)).mono ?_
 rintro e w1 ⟨s, rfl, hs, x1⟩
 have e : oU d id = ((fD d id).2.2, (fD d id).2.1, decide ((fD d id).2.1 > 0)) := by unfold oU; rw [if_pos (by unfold qd; simp; omega)]
 rw [e]
 exact ⟨_, _, s, rfl, x1.k, s, rfl, hs, x0.tr x1⟩
end
end Go.Proofs.YtalpkjfpmdpbiaaGreatDoor
