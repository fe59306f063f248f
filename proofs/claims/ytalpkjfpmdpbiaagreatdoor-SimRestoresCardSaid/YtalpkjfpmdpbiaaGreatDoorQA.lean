import Derived.Test.YtalpkjfpmdpbiaaGreatDoorGQ
import Derived.Test.YtalpkjfpmdpbiaaGreatDoorLib
import Derived.Test.YtalpkjfpmdpbiaaGreatDoorP
set_option linter.all false
namespace Go.Proofs.YtalpkjfpmdpbiaaGreatDoor.Q
open Go Go.Vc Go.RowKit Go.Proofs Go.j3
set_option maxRecDepth 100000
abbrev nI:TypeId:=23
abbrev aS:TypeId:=120
abbrev du:TypeId:=158
def GC(v:Value):Prop:=∃c:Cl,v=cv c
theorem mI:dV Tryz.prog nI GC:=by
 refine⟨?_,?_,?_⟩
 ·rintro x y⟨a,rfl⟩⟨b,rfl⟩
  refine⟨a.1==b.1 &&(a.2.1==b.2.1 && a.2.2==b.2.2),by kernel_rfl,?_⟩
  simp only [Bool.and_eq_true,beq_iff_eq]
  constructor
  ·rintro⟨h1,h2,h3⟩
   unfold cv;rw [h1,h2,h3]
  ·intro h
   rw [xt h];simp
 ·rintro x⟨a,rfl⟩b w
  kernel_rfl
 ·rintro x⟨a,rfl⟩
  simp [cv,Instr.sameBits]
theorem xV (a : Int) (w : World) : Calls Tryz.prog eN #[a] w fun e w' => e = .returned (.bool false) ∧ w' = w := by
 apply gV.vc
 unfold gV.pre
 simp
theorem AJ (a b : Int) (w : World) : Calls Tryz.prog fV #[a, b] w fun e w' => e = .returned (.int .i64 (if a < b then -1 else if b < a then 1 else 0)) ∧ w' = w := by
 apply iN.vc
 refine (xV a w).mono ?_
 rintro e w1 ⟨rfl, rfl⟩
 refine ⟨_, rfl, (xV b w1).mono ?_⟩
 rintro e w2 ⟨rfl, rfl⟩
 refine ⟨_, rfl, Br.mk (fun h => by cases h) (fun _ => Br.mk (fun h => by cases h) (fun _ => Br.mk (fun h => ?_) (fun h => Br.mk (fun h2 => ?_) (fun h2 => ?_))))⟩
 ·replace h := dj h
  rw [if_pos h]; exact ⟨rfl, rfl⟩
 ·simp only [decide_eq_true_eq, decide_eq_false_iff_not] at h h2
  rw [if_neg h, if_pos h2]; exact ⟨rfl, rfl⟩
 ·simp only [decide_eq_false_iff_not] at h h2
  rw [if_neg h, if_neg h2]; exact ⟨rfl, rfl⟩
theorem HI (a b : Int) (g : Nat) (w : World) (hr : Row w g [a, b] 3) :
  Calls Tryz.prog mR #[.slice (some ⟨g, 0, none⟩) 2 2] w fun e w' => e = .returned (.int .i64 (if a = 0 then b else a)) ∧ w' = w := by
 apply (rn.vc (a0 := ⟨some ⟨g, 0, none⟩, 2, 2⟩))
 refine ⟨fun n x wr => wr = w ∧ ∃ k : Nat, x = k ∧ k + n = 2 ∧ (1 ≤ k → a = 0) ∧ (2 ≤ k → b = 0), ⟨2, rfl, 0, rfl, rfl, by omega, by omega⟩, ?_⟩
 rintro n us x wr ⟨rfl, k, rfl, hk, h1, h2⟩
 have hw := aj (n := (k : Int) + 1) (by unfold inI; omega)
 rw [hw]
 refine Br.mk (fun h => ?_) (fun h => ?_) <;> simp only [decide_eq_true_eq, decide_eq_false_iff_not] at h
 ·refine ⟨⟨rfl, by omega, by omega⟩, if k = 0 then a else b, ?_, Br.mk (fun h3 => ?_) (fun h3 => ?_)⟩
  ·show ld wr (ab (some ⟨g, 0, none⟩) _) = _
   rw [aV, hr.ld]
   have : k = 0 ∨ k = 1 := by simp at h; omega
   rcases this with rfl | rfl <;> rfl
  ·simp only [bne_iff_ne, ne_eq] at h3
   have : k = 0 ∨ k = 1 := by simp at h; omega
   rcases this with rfl | rfl
   ·rw [if_pos rfl] at h3 ⊢
    rw [if_neg h3]; exact ⟨rfl, rfl⟩
   ·rw [if_neg (show ¬((1 : Nat) = 0) by omega)] at h3 ⊢
    rw [if_pos (h1 (by omega))]; exact ⟨rfl, rfl⟩
  ·simp only [bne_eq_false_iff_eq] at h3
   have : k = 0 ∨ k = 1 := by simp at h; omega
   rcases this with rfl | rfl
   ·rw [if_pos rfl] at h3
    exact ⟨n - 1, by omega, rfl, 1, by omega, by omega, fun _ => h3, by omega⟩
   ·rw [if_neg (show ¬((1 : Nat) = 0) by omega)] at h3
    exact ⟨n - 1, by omega, rfl, 2, by omega, by omega, fun _ => h1 (by omega), fun _ => h3⟩
 ·have : k = 2 := by simp at h; omega
  subst this
  rw [if_pos (h1 (by omega)), h2 (by omega)]; exact ⟨rfl, rfl⟩
theorem xU (x y : It) (w : World) : Calls Tryz.prog ib #[.agg (a9 x).toArray, .agg (a9 y).toArray] w fun e w' => (∃ z : Int, e = .returned z ∧ (z < 0 ↔ x.1 ≤ y.1)) ∧ Ext w w' := by
 apply fi.vc
 intro w0 e0 w1 e1
 have x1 : Ext w w1 := by rw [e1, e0]; exact (Ext.al _ _).tr (Ext.al _ _)
 refine (AJ x.1 y.1 _).mono ?_
 intro e w2 hh
 obtain ⟨rfl, ew⟩ := hh
 have x2 : Ext w w2 := by rw [ew]; exact x1
 refine ⟨_, rfl, by rw [ew], by rw [ew], ?_⟩
 intro w4 e4
 have x4 : Ext w w4 := x2.aa e4
 have hrow : Row w4 w2.heap.size [.int .i64 (if x.1 < y.1 then -1 else if y.1 < x.1 then 1 else 0), .int .i64 (-1)] 3 := by
  rw [e4]; exact Row.new w2 [_, _] _
 refine (HI _ _ _ _ hrow).mono ?_
 intro e w5 hh
 obtain ⟨rfl, ew5⟩ := hh
 refine ⟨_, rfl, by rw [ew5], by rw [ew5], ⟨_, rfl, ?_⟩, by rw [ew5]; exact x4⟩
 by_cases h1 : x.1 < y.1
 ·rw [if_pos h1]; simp; omega
 ·by_cases h2 : y.1 < x.1
  ·rw [if_neg h1, if_pos h2]; simp; omega
  ·rw [if_neg h1, if_neg h2]; simp; omega
end Go.Proofs.YtalpkjfpmdpbiaaGreatDoor.Q
namespace Go.Proofs.YtalpkjfpmdpbiaaGreatDoor.Q
open Go Go.Vc Go.RowKit Go.Proofs Go.j3
set_option maxRecDepth 100000
theorem bN(l:List It):∀r ∈ l.map a9,r.length=4:=by
 intro r hr;obtain⟨x,_,rfl⟩:=List.mem_map.1 hr;rfl
theorem dN(l:List It):∀r ∈ l.map a9,One r:=by
 intro r hr;obtain⟨x,_,rfl⟩:=List.mem_map.1 hr
 intro u hu;simp at hu
 rcases hu with rfl|rfl|rfl|rfl<;>rfl
theorem gO (x : It) : One (a9 x) := by
 intro u hu; simp at hu
 rcases hu with rfl | rfl | rfl | rfl <;> rfl
theorem yU (l : List It) (i : Nat) : (l.map a9).flatten.take (i * 4) = ((l.take i).map a9).flatten := by
 have hw := bN (l.take i)
 rcases Nat.lt_or_ge i l.length with h | h
 ·conv => lhs; rw [← List.take_append_drop i l, List.map_append, List.flatten_append]
  rw [List.take_left' (by rw [aN hw]; simp; omega)]
 ·rw [List.take_of_length_le h, List.take_of_length_le]
  rw [aN (bN l)]; simp; omega
theorem yV (l : List It) (i : Nat) : (l.map a9).flatten.drop (i * 4) = ((l.drop i).map a9).flatten := by
 rcases Nat.lt_or_ge i l.length with h | h
 ·conv => lhs; rw [← List.take_append_drop i l, List.map_append, List.flatten_append]
  rw [List.drop_left' (by rw [aN (bN _)]; simp; omega)]
 ·rw [List.drop_of_length_le h, List.drop_of_length_le]
  ·rfl
  ·rw [aN (bN l)]; simp; omega
theorem v8 {cs : List Value} {l : List It} {n : Nat} (ht : cs.take (n * 4) = (l.map a9).flatten) (hn : n = l.length) (i j : Nat) (hj : j < ((l.drop i).map a9).flatten.length) : cs[i * 4 + j]? = ((l.drop i).map a9).flatten[j]? := by
 rw [← yV, List.getElem?_drop, ← ht, List.getElem?_take, if_pos]
 rw [aN (bN _)] at hj
 simp at hj
 omega
set_option maxRecDepth 100000 in
theorem yz {w : World} {g g' : Nat} {x cs : List Value} (hx : Row w g x aS) (hr : Row w g' cs aS) (hne : g ≠ g') (hc : cs.length ≠ 0) (o : Nat) (la ca lb cb : Nat) {R : Ending → World → Prop} (h : R (.returned (.bool false)) w) :
  Gy Tryz.prog 222 [.slice (some ⟨g, 0, none⟩) la ca, .slice (some ⟨g', o, none⟩) lb cb] w R := by
 refine ⟨_, ⟨_, rfl, by kernel_rfl, by kernel_rfl, by kernel_rfl⟩, _, _, Lib.run_overlaps_apart w 61 0 aS (by kernel_rfl) 4 (fun w => by kernel_rfl) ⟨g, 0, none⟩ ⟨g', o, none⟩ la ca lb cb hne aS aS x.length cs.length ?_ ?_ hc ?_ ?_, h⟩
 ·simp [World.shape?, show w.heap[g]? = _ from hx]
 ·simp [World.shape?, show w.heap[g']? = _ from hr]
 ·simp [World.frozen?, show w.heap[g]? = _ from hx]
 ·simp [World.frozen?, show w.heap[g]? = _ from hx]
theorem xn {w : World} {g g' : Nat} {x cs : List Value} (hx : Row w g x aS) (hr : Row w g' cs aS) (hne : g ≠ g') (hc : cs.length ≠ 0) {p : Option Addr} {o : Nat} (hp : p = some ⟨g', o, none⟩) (la ca lb cb : Nat) {R : Ending → World → Prop} (h : R (.returned (.bool false)) w) :
  Gy Tryz.prog 222 [.slice (some ⟨g, 0, none⟩) la ca, .slice p lb cb] w R := by
 subst hp; exact yz hx hr hne hc o la ca lb cb h
end Go.Proofs.YtalpkjfpmdpbiaaGreatDoor.Q
namespace Go.Proofs.YtalpkjfpmdpbiaaGreatDoor.Q
open Go Go.Vc Go.RowKit Go.Proofs Go.j3
set_option maxRecDepth 100000
theorem uN (n : Nat) : aH [(0:Int), (0:Int), (0:Int), (0:Int)] n = ((List.replicate n ((0, 0, 0, 0) : It)).map a9).flatten := by
 unfold aH; simp
theorem BE {w : World} {s : Sl} {l : List It} {i g : Nat} {x : It} (ho : ag 0 aS 4 w s (l.map a9)) (hx : Row w g (a9 x) aS) (hi : i ≤ l.length) (hl : l.length ≤ 5000) (hne : s.ay ≠ some g) :
  Calls Tryz.prog ed #[s, .int .i64 (i : Int), .slice (some ⟨g, 0, none⟩) 1 1] w fun e w' => ∃ s' : Sl, e = .returned (.slice s'.a s'.n s'.c) ∧ ag 0 aS 4 w' s' ((l.take i ++ x :: l.drop i).map a9) ∧ Mod (fun b => s.ay = some b) w w' ∧ (∀ b, s'.ay = some b → s.ay = some b ∨ w.heap.size ≤ b) := by
 have hn : s.n = l.length := by rw [(ho.rd (by decide)).n, List.length_map]
 apply dh.vc (a2 := ⟨some ⟨g, 0, none⟩, 1, 1⟩)
 have hw1 : IntKind.wrap .i64 (((s.n : Nat) : Int) + ((1 : Nat) : Int)) = ((s.n + 1 : Nat) : Int) := by rw [wI]; omega
 have hw2 : IntKind.wrap .i64 ((i : Int) + ((1 : Nat) : Int)) = ((i + 1 : Nat) : Int) := by rw [wI]; omega
 have hw3 : IntKind.wrap .i64 (((s.n + 1 : Nat) : Int) - (i : Int)) = ((s.n + 1 - i : Nat) : Int) := by rw [wI]; omega
 have hw4 : IntKind.wrap .i64 ((s.n + 1 - i : Nat) : Int) = ((s.n + 1 - i : Nat) : Int) := wI
 have hrx : Rd w (some ⟨g, 0, none⟩) (a9 x) := hx.JQ fun j hj => rfl
 unfold dh.pre
 dsimp only
 rw [hw1, hw2, hw3, hw4]
 simp only [Int.toNat_natCast, Nat.sub_zero, cf]
 refine ⟨by omega, by omega, Br.mk (fun h => by cases h) (fun _ => Br.mk (fun h => ?_) (fun h => ?_))⟩
 ·
  have he : i = l.length := by simp at h; omega
  obtain ⟨hp, hr⟩ := ho.append (bytes := 32) (news := a9 x) (Nat.zero_le _) rfl (gO x) (by omega) (by omega)
  refine ⟨a9 x, hrx, hp, fun s' w' hres => ?_⟩
  obtain ⟨h1, h2, h3, h4, h5⟩ := hr s' w' hres
  refine ⟨s', rfl, ?_, Mod.qn h3 h4, ?_⟩
  ·rw [he, List.take_length, List.drop_length, List.map_append]; exact h1
  ·intro b hb
   rcases h5 with h5 | h5
   ·exact .inl (h5 ▸ hb)
   ·rw [h5] at hb; cases hb; exact .inr (Nat.le_refl _)
 ·have hlt : i < l.length := by
   have : i ≠ l.length := fun e => by subst e; simp [hn] at h
   omega
  rcases ho.form (by decide) with ⟨hs, hnil⟩ | ⟨g0, cs, ha, hg0, hr, hc, hnc, ht, hn'⟩
  ·have : l = [] := by simpa using hnil
   subst this; simp at hlt
  have hneg : g0 ≠ g := fun e => hne (by unfold Sl.ay; rw [ha, e]; rfl)
  have hblk : s.ay = some g0 := by unfold Sl.ay; rw [ha]; rfl
  have htk : cs.take (i * 4) = ((l.take i).map a9).flatten := by
   rw [← yU, ← ht, List.take_take, Nat.min_eq_left (by omega)]
  rw [ha]
  refine Br.mk (fun h2 => ?_) (fun h2 => ?_)
  ·
   replace h2 := dj h2
   have hpre : ag 0 aS 4 w ⟨some ⟨g0, 0, none⟩, i, s.c⟩ ((l.take i).map a9) := ag.fC (Nat.zero_le _) hr hc (by omega) htk (bN _)
   obtain ⟨hp, -⟩ := hpre.np (bytes := 32) (more := (List.replicate (s.n + 1 - i) ((0, 0, 0, 0) : It)).map a9) (Nat.zero_le _) (bN _) (dN _) (by simp; omega) (by simp; omega)
   have hlen : ((List.replicate (s.n + 1 - i) ((0, 0, 0, 0) : It)).map a9).length = s.n + 1 - i := by simp
   rw [hlen] at hp
   rw [uN]
   refine ⟨by omega, by omega, ⟨by omega, trivial, by omega⟩, hp, fun s3 w4 hres => ?_⟩
   generalize hz : ((List.replicate (s.n + 1 - i) ((0, 0, 0, 0) : It)).map a9).flatten = zs at hres
   have hzl : zs.length = (s.n + 1 - i) * 4 := by rw [← hz, aN (bN _)]; simp
   cases hres with
   | fits hf => simp only at hf; omega
   | uI hg cu rest cap q1 q2 q3 q4 =>
     simp only at q1 q2 q3
     have hold : cu = cs.take (i * 4) := by
      refine EC q2 (hr.JQ (vs := cs.take (i * 4)) fun j hj => ?_) ?_
      ·rw [List.length_take] at hj
       rw [List.getElem?_take, if_pos (by omega)]
      ·rw [q1, List.length_take]; omega
     have hR : Row (w.drew.alloc (.cells (cu ++ zs ++ rest).toArray aS)) w.heap.size (cu ++ zs ++ rest) aS := Row.new w.drew _ _
     generalize hw4' : w.drew.alloc (.cells (cu ++ zs ++ rest).toArray aS) = w4 at hR
     have x4 : Ext w w4 := by rw [← hw4']; exact (Ext.dr w).tr (Ext.al _ _)
     have hr4 := hr.ext x4
     have hlt0 := hr.lt
     have hn3 : i + (s.n + 1 - i) = s.n + 1 := by omega
     have hCl : (s.n + 1) * 4 ≤ (cu ++ zs ++ rest).length := by rw [q4]; exact Nat.mul_le_mul_right _ (by omega)
     dsimp only
     rw [hn3]
     have hx4 := hx.ext x4
     have hsl : ((l.drop i).map a9).flatten.length = (s.n - i) * 4 := by rw [aN (bN _)]; simp; omega
     have hm1 : min 1 (s.n + 1 - i) * 4 = 4 := by have : min 1 (s.n + 1 - i) = 1 := by omega
                                                  rw [this]
     have hm2 : min (s.n - i) (s.n + 1 - (i + 1)) = s.n - i := by omega
     obtain ⟨p1, p2, p3⟩ := hR.Gk (vs := a9 x) (l := i) (m := cap) (size := 4) (by intro e; omega) (by simp; omega) (gO x)
     refine ⟨by omega, by omega, a9 x, ⟨hm1.symm, hx4.JQ fun j hj => rfl, gO x, p1⟩, ?_⟩
     intro w6 e6
     rw [← e6] at p2 p3
     have hr6 : Row w6.drew g0 cs aS := (p3.row hr4 (by omega)).ext (Ext.dr _)
     have p2' : Row w6.drew w.heap.size _ aS := p2.ext (Ext.dr _)
     obtain ⟨u1, u2, u3⟩ := p2'.Gk (vs := ((l.drop i).map a9).flatten) (l := i + 1) (m := cap) (size := 4) (by intro e; rw [List.drop_of_length_le (by omega)]; rfl) (by rw [hsl, Go.Vc.a7]; omega) (cC (dN _))
     refine ⟨by omega, by omega, by omega, by omega, ((l.drop i).map a9).flatten, ⟨by rw [hm2, hsl], hr6.JN (by intro e; rw [List.drop_of_length_le (by omega)]; rfl) (v8 ht hn i), cC (dN _), u1⟩, ?_⟩
     intro w8 e8
     rw [← e8] at u2 u3
     refine ⟨⟨some ⟨w.heap.size, 0, none⟩, s.n + 1, cap⟩, rfl, ag.fC (Nat.zero_le _) u2 (by rw [Go.Vc.a7, Go.Vc.a7, q4]; exact Nat.le_refl _) (by omega) ?_ (bN _), ?_, ?_⟩
     ·rw [HE (by simp; omega) (by rw [hsl]; omega) hCl, List.append_assoc, List.append_assoc, List.take_left' (by rw [q1]), hold, htk]
      simp
     ·refine ((Mod.aw x4).tr p3 (fun b hb => .inr (by omega))).tr (F' := fun b => b = w.heap.size) ?_ (fun b hb => .inr (by omega))
      exact (Mod.aw (Ext.dr _)).trans u3
     ·intro b hb
      have : w.heap.size = b := by simpa [Sl.ay] using hb
      exact .inr (by omega)
  ·
   replace h2 := dH h2
   have hCl : (s.n + 1) * 4 ≤ cs.length := Nat.le_trans (Nat.mul_le_mul_right _ (by omega)) hc
   have hsl : ((l.drop i).map a9).flatten.length = (s.n - i) * 4 := by rw [aN (bN _)]; simp; omega
   refine ⟨by omega, by omega, by omega, by omega, ?_⟩
   refine xn hx hr (Ne.symm hneg) (by omega) (by rw [l8, if_neg (by omega)]) _ _ _ _ ⟨_, rfl, Br.mk (fun _ => ?_) (fun h => by cases h)⟩
   have hm2 : min (s.n + 1 - i) (s.n + 1 - (i + 1)) = s.n - i := by omega
   have hm1 : min 1 (s.n + 1 - i) * 4 = 4 := by have : min 1 (s.n + 1 - i) = 1 := by omega
                                                rw [this]
   have hr' := hr.ext (Ext.dr w)
   obtain ⟨u1, u2, u3⟩ := hr'.Gk (vs := ((l.drop i).map a9).flatten) (l := i + 1) (m := s.c) (size := 4) (by intro e; omega) (by rw [hsl]; omega) (cC (dN _))
   refine ⟨by omega, by omega, by omega, by omega, ((l.drop i).map a9).flatten, ⟨by rw [hm2, hsl], hr'.JN (by intro e; omega) (v8 ht hn i), cC (dN _), u1⟩, ?_⟩
   intro w12 e12
   rw [← e12] at u2 u3
   obtain ⟨p1, p2, p3⟩ := u2.Gk (vs := a9 x) (l := i) (m := s.c) (size := 4) (by intro e; omega) (by rw [Go.Vc.a7]; simp; omega) (gO x)
   have hx12 : Row w12 g (a9 x) aS := u3.row (hx.ext (Ext.dr w)) (Ne.symm hneg)
   refine ⟨by omega, by omega, a9 x, ⟨hm1.symm, hx12.JQ fun j hj => rfl, gO x, p1⟩, ?_⟩
   intro w14 e14
   rw [← e14] at p2 p3
   refine ⟨⟨some ⟨g0, 0, none⟩, s.n + 1, s.c⟩, rfl, ag.fC (Nat.zero_le _) p2 (by rw [Go.Vc.a7, Go.Vc.a7]; exact hc) (by omega) ?_ (bN _), ?_, ?_⟩
   ·rw [Fx (by simp; omega) (by rw [hsl]; omega) hCl, htk]
    simp
   ·refine (((Mod.aw (Ext.dr w)).trans u3).trans p3).mono fun b _ hb => ?_
    rw [hblk, hb]
   ·intro b hb; exact .inl (hblk.trans hb)
end Go.Proofs.YtalpkjfpmdpbiaaGreatDoor.Q
namespace Go.Proofs.YtalpkjfpmdpbiaaGreatDoor.Q
open Go Go.Vc Go.RowKit Go.Proofs Go.j3
set_option maxRecDepth 100000
theorem RdK.item {w : World} {s : Sl} {l : List It} (h : RdK w s 4 (l.map a9)) {i : Nat} {x : It} (hi : l[i]? = some x) : ah w (ab s.a (i * 4)) 0 (a9 x) :=
 h.aL (by rw [List.getElem?_map, hi]; rfl)
theorem G3 {w : World} {s : Sl} {l : List It} (x : It) (h : RdK w s 4 (l.map a9)) (hs : l.Pairwise fun a b => a.1 ≤ b.1) (hl : l.length ≤ 5000) :
  Calls Tryz.prog bI #[s, .agg (a9 x).toArray, .func (.func 180) #[] #[]] w fun e w' => (∃ b, e = .returned (.tuple #[.int .i64 ((l.takeWhile fun y => y.1 ≤ x.1).length : Nat), .bool b])) ∧ Ext w w' := by
 have hn : s.n = l.length := by rw [h.n, List.length_map]
 apply bS.vc
 intro w0 e0
 have x0 : Ext w w0 := (Ext.ao w).aa e0
 have vj : w0.heap.size = w.heap.size + 1 := by rw [e0]; simp [World.alloc_eq]
 have hk : (l.takeWhile fun y => decide (y.1 ≤ x.1)).length ≤ l.length := (List.takeWhile_sublist _).length_le
 generalize hkk : (l.takeWhile fun y => decide (y.1 ≤ x.1)).length = k at hk
 have hat : ∀ {i : Nat} {y : It}, l[i]? = some y → (i < k ↔ y.1 ≤ x.1) := fun hi => by rw [← hkk]; exact ji hs x.1 hi
 refine ⟨fun n a b wr => Ext w0 wr ∧ ∃ lo hi : Nat, a = lo ∧ b = hi ∧ lo ≤ k ∧ k ≤ hi ∧ hi ≤ l.length ∧ n = hi - lo, ⟨_, rfl, Ext.ao _, 0, s.n, rfl, rfl, Nat.zero_le _, by omega, by omega, rfl⟩, ?_⟩
 rintro n us a b wr ⟨xr, lo, hi, rfl, rfl, h1, h2, h3, rfl⟩
 refine Br.mk (fun hlt => ?_) (fun hge => ?_) <;> simp only [decide_eq_true_eq, decide_eq_false_iff_not] at *
 ·rw [Kq (by omega)]
  have hmid : (lo + hi) / 2 < l.length := by omega
  have hget : l[(lo + hi) / 2]? = some l[(lo + hi) / 2] := List.getElem?_eq_getElem hmid
  generalize l[(lo + hi) / 2] = y at hget
  have hr := (h.ext (x0.tr xr)).ext (Ext.dr wr)
  have hsz := xr.size
  refine ⟨⟨?_, by omega, by omega⟩, y.1, y.2.1, y.2.2.1, y.2.2.2, RdK.item hr hget, ?_⟩
  ·exact h.isSome (by decide) (i := (lo + hi) / 2) (by simpa using hmid)
  refine fD (by kernel_rfl) rfl ((xU y x _).mono ?_)
  rintro e w2 ⟨⟨z, rfl, hz⟩, x2⟩
  have hz' := (hat hget).trans hz.symm
  have x3 := (xr.tr (Ext.dr wr)).tr x2
  refine ⟨z, rfl, (x2.heap ?_), Br.mk (fun hb => ?_) (fun hb => ?_)⟩
  ·show w.heap.size < wr.heap.size
   omega
  ·replace hb := dj hb
   have := hz'.2 hb
   have hw : IntKind.wrap .i64 ((((lo + hi) / 2 : Nat) : Int) + 1) = (((lo + hi) / 2 + 1 : Nat) : Int) := by rw [wI]; omega
   rw [hw]
   exact ⟨_, by omega, trivial, x3, (lo + hi) / 2 + 1, hi, rfl, rfl, by omega, h2, h3, rfl⟩
  ·replace hb := dH hb
   have : ¬ (lo + hi) / 2 < k := fun h => hb (hz'.1 h)
   exact ⟨_, by omega, trivial, x3, lo, (lo + hi) / 2, rfl, rfl, h1, by omega, by omega, rfl⟩
 ·have : lo = k := by omega
  subst this
  have hr := (h.ext (x0.tr xr)).ext (Ext.dr wr)
  have hsz := xr.size
  refine Br.mk (fun hb => ?_) (fun hb => ⟨⟨_, rfl⟩, x0.tr (xr.tr (Ext.dr _))⟩)
  replace hb := dj hb
  have hget : l[lo]? = some (l[lo]'(by omega)) := List.getElem?_eq_getElem (by omega)
  generalize l[lo]'(by omega) = y at hget
  refine ⟨⟨h.isSome (by decide) (i := lo) (by simp; omega), by omega, by omega⟩, y.1, y.2.1, y.2.2.1, y.2.2.2, RdK.item hr hget, ?_⟩
  refine fD (by kernel_rfl) rfl ((xU y x _).mono ?_)
  rintro e w2 ⟨⟨z, rfl, hz⟩, x2⟩
  refine ⟨z, rfl, x2.heap (show w.heap.size < wr.heap.size by omega), ⟨_, rfl⟩, (x0.tr (xr.tr (Ext.dr wr))).tr x2⟩
theorem v7 (x : It) {b : Nat} {c : Cl} {w : World} (hb : Row w b (di c) nI) : Calls Tryz.prog ia #[.agg (a9 x).toArray, .pointer (some ⟨b, 0, none⟩)] w fun e w' => e = .returned (.bool (x.2 == c)) ∧ Ext w w' := by
 apply fh.vc
 intro w0 e0
 have x0 : Ext w w0 := (Ext.ao w).aa e0
 exact ⟨c.1, c.2.1, c.2.2, (hb.ext x0).aL (fun j hj => by rw [Nat.zero_add]), rfl, x0⟩
theorem CE {w : World} {s : Sl} {l : List It} {b : Nat} {c : Cl} (h : RdK w s 4 (l.map a9)) (hb : Row w b (di c) nI) (hl : l.length ≤ 5000) :
  Calls Tryz.prog cT #[s, .func (.func 178) #[] #[.pointer (some ⟨b, 0, none⟩)]] w fun e w' => (∃ i : Int, e = .returned i ∧ ((i = -1 ∧ ∀ x ∈ l, x.2 ≠ c) ∨ ∃ k : Nat, i = k ∧ k < l.length ∧ (∀ x ∈ l.take k, x.2 ≠ c) ∧ ∀ x, l[k]? = some x → x.2 = c)) ∧ Ext w w' := by
 have hn : s.n = l.length := by rw [h.n, List.length_map]
 apply dA.vc
 refine ⟨fun n a wr => Ext w wr ∧ ∃ k : Nat, a = k ∧ k + n = l.length ∧ (∀ x ∈ l.take k, x.2 ≠ c), ⟨l.length, Ext.ao _, 0, rfl, by omega, by simp⟩, ?_⟩
 rintro n us a wr ⟨xr, k, rfl, h1, h2⟩
 refine Br.mk (fun hlt => ?_) (fun hge => ?_) <;> simp only [decide_eq_true_eq, decide_eq_false_iff_not] at *
 ·have hget : l[k]? = some (l[k]'(by omega)) := List.getElem?_eq_getElem (by omega)
  generalize l[k]'(by omega) = y at hget
  refine ⟨⟨h.isSome (by decide) (i := k) (by simp; omega), by omega, by omega⟩, y.1, y.2.1, y.2.2.1, y.2.2.2, RdK.item (h.ext xr) hget, ?_⟩
  refine fD (by kernel_rfl) rfl ((v7 y (hb.ext xr)).mono ?_)
  rintro e w2 ⟨rfl, x2⟩
  refine ⟨_, rfl, Br.mk (fun hb => ?_) (fun hb => ?_)⟩
  ·refine ⟨⟨_, rfl, .inr ⟨k, rfl, by omega, h2, fun x hx => ?_⟩⟩, xr.tr x2⟩
   rw [hget] at hx; cases hx; simpa using hb
  ·have hw : IntKind.wrap .i64 ((k : Int) + 1) = ((k + 1 : Nat) : Int) := by rw [wI]; omega
   rw [hw]
   refine ⟨n - 1, by omega, xr.tr x2, k + 1, rfl, by omega, fun x hx => ?_⟩
   rw [List.take_add_one, hget] at hx
   rcases List.mem_append.1 hx with hx | hx
   ·exact h2 x hx
   ·simp at hx; subst hx; simpa using hb
 ·refine ⟨⟨_, rfl, .inl ⟨rfl, ?_⟩⟩, xr⟩
  rw [List.take_of_length_le (by omega)] at h2
  exact h2
end Go.Proofs.YtalpkjfpmdpbiaaGreatDoor.Q
namespace Go.Proofs.YtalpkjfpmdpbiaaGreatDoor.Q
open Go Go.Vc Go.RowKit Go.Proofs Go.j3
set_option maxRecDepth 100000
theorem v5 {w : World} {s : Sl} {l : List It} (ho : ag 0 aS 4 w s (l.map a9)) {i : Nat} (hi : i ≤ l.length) :
  Wr w (ai s.a i s.c 4) ((s.n - i) * 4) ∧ ∀ w', w' = aB w (ai s.a i s.c 4) (aH [(0:Int), (0:Int), (0:Int), (0:Int)] (s.n - i)) →
   ag 0 aS 4 w' ⟨s.a, i, s.c⟩ ((l.take i).map a9) ∧ Mod (fun b => s.ay = some b) w w' := by
 have hn : s.n = l.length := by rw [(ho.rd (by decide)).n, List.length_map]
 rw [uN]
 rcases ho.form (by decide) with ⟨hs, hnil⟩ | ⟨g0, cs, ha, hg0, hr, hc, hnc, ht, hn'⟩
 ·have : l = [] := by simpa using hnil
  subst this
  have : i = 0 := by simpa using hi
  subst this
  subst hs
  refine ⟨fun j hj => by simp at hj, fun w' e => ?_⟩
  have : w' = w := by rw [e]; rfl
  subst this
  exact ⟨ag.nil, Mod.refl _ _⟩
 ·have hblk : s.ay = some g0 := by unfold Sl.ay; rw [ha]; rfl
  have hzl : ((List.replicate (s.n - i) ((0, 0, 0, 0) : It)).map a9).flatten.length = (s.n - i) * 4 := by rw [aN (bN _)]; simp
  have hcl : s.n * 4 ≤ cs.length := Nat.le_trans (Nat.mul_le_mul_right _ hnc) hc
  rw [ha]
  have hz0 : s.c = i → ((List.replicate (s.n - i) ((0, 0, 0, 0) : It)).map a9).flatten = [] := fun e => by
   have : s.n - i = 0 := by omega
   rw [this]; rfl
  obtain ⟨p1, p2, p3⟩ := hr.Gk (l := i) (m := s.c) (size := 4) hz0 (by rw [hzl]; omega) (cC (dN _))
  rw [hzl] at p1
  refine ⟨p1, fun w' e => ?_⟩
  rw [← e] at p2 p3
  refine ⟨ag.fC (Nat.zero_le _) p2 (by rw [Go.Vc.a7]; exact hc) (by omega) ?_ (bN _), p3.mono fun b _ hb => by rw [hblk, hb]⟩
  rw [bw _ _ _ (by rw [hzl]; omega), List.append_assoc, List.take_left' (by rw [List.length_take]; omega), ← yU, ← ht, List.take_take, Nat.min_eq_left (by omega)]
theorem Gl {w : World} {s : Sl} {l : List It} (ho : ag 0 aS 4 w s (l.map a9)) {i : Nat} (hi : i < l.length) (x : It) :
  (ab s.a (i * 4)).isSome = true ∧ Wr w (ab s.a (i * 4)) 4 ∧ ∀ w', w' = aB w (ab s.a (i * 4)) (a9 x) → ag 0 aS 4 w' s ((l.set i x).map a9) ∧ Mod (fun b => s.ay = some b) w w' := by
 obtain ⟨h1, h2, h3, h4, h5⟩ := ho.put (i := i) (r := a9 x) (by simpa using hi) (by decide) rfl (gO x)
 refine ⟨h1, h2, fun w' e => ?_⟩
 subst e
 exact ⟨by rw [List.map_set]; exact h3, h4.os, h4.tape, h4.output, h4.size, fun j _ hn => h5 j hn⟩
theorem vm {w : World} {s : Sl} {l : List It} {b : Nat} {c : Cl} (ho : ag 0 aS 4 w s (l.map a9)) (hb : Row w b (di c) nI) (hl : l.length ≤ 5000) :
  Calls Tryz.prog cG #[s, .func (.func 178) #[] #[.pointer (some ⟨b, 0, none⟩)]] w fun e w' => ∃ s' : Sl, e = .returned s' ∧ ag 0 aS 4 w' s' ((aP l c).map a9) ∧ Mod (fun b => s.ay = some b) w w' ∧ s'.ay = s.ay := by
 have hn : s.n = l.length := by rw [(ho.rd (by decide)).n, List.length_map]
 have hsb : s.ay ≠ some b := fun e => by
  rcases ho.form (by decide) with ⟨hs, hnil⟩ | ⟨g0, cs, ha, hg0, hr, hc, hnc, ht, hn'⟩
  ·rw [hs] at e; cases e
  ·have : g0 = b := by unfold Sl.ay at e; rw [ha] at e; simpa using e
   exact hr.ne hb (by decide) this
 apply cZ.vc
 refine (CE (ho.rd (by decide)) hb hl).mono ?_
 rintro e w1 ⟨⟨i, rfl, hi⟩, x1⟩
 refine ⟨i, rfl, Br.mk (fun h => ?_) (fun h => ?_)⟩
 ·have hm : i = -1 := by simpa using h
  rcases hi with ⟨-, hall⟩ | ⟨k, hk, -⟩
  ·refine ⟨s, rfl, ?_, Mod.aw x1, rfl⟩
   have : aP l c = l := by
    unfold aP; rw [List.filter_eq_self]; intro x hx; simpa using hall x hx
   rw [this]; exact ho.ext x1
  ·omega
 ·have hm : i ≠ -1 := by simpa using h
  rcases hi with ⟨hi, -⟩ | ⟨k, rfl, hk, hfst, hkc⟩
  ·exact absurd hi hm
  have hw : IntKind.wrap .i64 ((k : Int) + 1) = ((k + 1 : Nat) : Int) := by rw [wI]; omega
  have hq : aP (l.take (k + 1)) c = l.take k := by
   unfold aP
   rw [List.take_add_one, List.filter_append]
   have e1 : (l.take k).filter (fun x => x.2 != c) = l.take k := by rw [List.filter_eq_self]; intro x hx; simpa using hfst x hx
   have hget : l[k]? = some (l[k]'hk) := List.getElem?_eq_getElem hk
   have := hkc _ hget
   rw [e1, hget]; simp [this]
  refine ⟨fun n a d wr => Mod (fun b => s.ay = some b) w wr ∧ ∃ (j m : Nat) (l' : List It), a = j ∧ d = m ∧ j + n = l.length ∧ m < j ∧ m = (aP (l.take j) c).length ∧ ag 0 aS 4 wr s (l'.map a9) ∧ l'.length = l.length ∧ l'.take m = aP (l.take j) c ∧ l'.drop j = l.drop j, ⟨l.length - (k + 1), Mod.aw x1, k + 1, k, l, hw, rfl, by omega, by omega, ?_, ho.ext x1, rfl, hq.symm, rfl⟩, ?_⟩
  ·rw [hq, List.length_take]; omega
  rintro n us a d wr ⟨hmod, j, m, l', rfl, rfl, h1, h2, h3, ho', h4, h5, h6⟩
  have hbr : Row wr b (di c) nI := hmod.row hb hsb
  refine Br.mk (fun hlt => ?_) (fun hge => ?_)
  ·replace hlt := dj hlt
   have hget : l[j]? = some (l[j]'(by omega)) := List.getElem?_eq_getElem (by omega)
   generalize l[j]'(by omega) = y at hget
   have hget' : l'[j]? = some y := by
    have := congrArg (fun q : List It => q[0]?) h6
    simpa [List.getElem?_drop, hget] using this
   refine ⟨⟨(ho'.rd (by decide)).isSome (by decide) (i := j) (by simp; omega), by omega, by omega⟩, y.1, y.2.1, y.2.2.1, y.2.2.2, RdK.item (ho'.rd (by decide)) hget', ?_⟩
   intro w13 e13 w14 e14
   have x14 : Ext wr w14 := (Ext.ao wr |>.aa e13).af e14 (Nat.le_refl _)
   have hs14 : wr.heap.size < w14.heap.size := by rw [e14, setRow_size, e13]; simp
   refine fD (by kernel_rfl) rfl ((v7 y (hbr.ext x14)).mono ?_)
   rintro e w2 ⟨rfl, x2⟩
   have x3 := x14.tr x2
   have hwj : IntKind.wrap .i64 ((j : Int) + 1) = ((j + 1 : Nat) : Int) := by rw [wI]; omega
   have hwm : IntKind.wrap .i64 ((m : Int) + 1) = ((m + 1 : Nat) : Int) := by rw [wI]; omega
   have hqj : aP (l.take (j + 1)) c = aP (l.take j) c ++ (if y.2 = c then [] else [y]) := by
    unfold aP
    rw [List.take_add_one, hget, List.filter_append]
    congr 1
    by_cases hy : y.2 = c <;> simp [hy]
   refine ⟨_, rfl, x2.heap hs14, Br.mk (fun hb2 => ?_) (fun hb2 => ?_)⟩
   ·have hy : y.2 ≠ c := by simpa using hb2
    obtain ⟨p1, p2, p3⟩ := Gl (ho'.ext x3) (i := m) (by omega) y
    refine ⟨⟨(ho'.rd (by decide)).isSome (by decide) (i := m) (by simp; omega), by omega, by omega⟩, ⟨p1, p2⟩, ?_, ?_⟩
    ·rw [bC]
     intro e
     have := ho'.own.lt (g := wr.heap.size) e
     omega
    ·intro w17 e17
     obtain ⟨q1, q2⟩ := p3 w17 e17
     rw [hwj, hwm]
     refine ⟨n - 1, by omega, (hmod.trans (Mod.aw x3)).trans q2, j + 1, m + 1, l'.set m y, rfl, rfl, by omega, by omega, ?_, q1, by rw [List.length_set, h4], ?_, ?_⟩
     ·rw [hqj, if_neg hy, List.length_append, ← h3]; rfl
     ·rw [hqj, if_neg hy, ← h5, List.take_add_one, List.take_set_of_le (Nat.le_refl _), List.getElem?_set_self (by omega)]; rfl
     ·rw [List.drop_set_of_lt (by omega)]
      have := congrArg (List.drop 1) h6
      simpa [List.drop_drop] using this
   ·have hy : y.2 = c := by simpa using hb2
    rw [hwj]
    refine ⟨n - 1, by omega, hmod.trans (Mod.aw x3), j + 1, m, l', rfl, rfl, by omega, by omega, ?_, ho'.ext x3, h4, ?_, ?_⟩
    ·rw [hqj, if_pos hy, List.append_nil]; exact h3
    ·rw [hqj, if_pos hy, List.append_nil]; exact h5
    ·have := congrArg (List.drop 1) h6
     simpa [List.drop_drop] using this
  ·replace hge := dH hge
   have hj : j = l.length := by omega
   have hcap := (ho'.form (by decide))
   have hnc : s.n ≤ s.c := by
    rcases hcap with ⟨hs, -⟩ | ⟨g0, cs, ha, hg0, hr, hc, hnc, ht, hn'⟩
    ·rw [hs]; exact Nat.le_refl _
    ·exact hnc
   obtain ⟨p1, p2⟩ := v5 ho' (i := m) (by omega)
   refine ⟨by omega, by omega, p1, fun w18 e18 => ?_⟩
   obtain ⟨q1, q2⟩ := p2 w18 e18
   refine ⟨by omega, by omega, ⟨s.a, m, s.c⟩, ?_, ?_, hmod.trans q2, rfl⟩
   ·rw [cf]; rfl
   ·rw [h5, hj, List.take_length] at q1; exact q1
theorem nJ {w : World} {s : Sl} {l : List It} {n : Nat} (ho : ag 0 aS 4 w s (l.map a9)) (hi : n ≤ l.length) (hl : l.length ≤ 5000) :
  Calls Tryz.prog bL #[s, (0:Int), .int .i64 (n : Int)] w fun e w' => ∃ s' : Sl, e = .returned s' ∧ ag 0 aS 4 w' s' ((l.drop n).map a9) ∧ Mod (fun b => s.ay = some b) w w' ∧ s'.ay = s.ay := by
 have hn : s.n = l.length := by rw [(ho.rd (by decide)).n, List.length_map]
 have hnc : s.n ≤ s.c := by
  rcases ho.form (by decide) with ⟨hs, -⟩ | ⟨g0, cs, ha, hg0, hr, hc, hnc, ht, hn'⟩
  ·rw [hs]; exact Nat.le_refl _
  ·exact hnc
 apply eU.vc
 refine ⟨by omega, by omega, by omega, by omega, by omega, by omega, Br.mk (fun h => ?_) (fun h => ?_)⟩
 ·have : n = 0 := by have : (0 : Int) = n := by simpa using h
                     omega
  subst this
  exact ⟨s, rfl, ho, Mod.refl _ _, rfl⟩
 ·have hpos : 0 < n := by
   have : (0 : Int) ≠ n := by simpa using h
   omega
  rcases ho.form (by decide) with ⟨hs, hnil⟩ | ⟨g0, cs, ha, hg0, hr, hc, hnc, ht, hn'⟩
  ·have : l = [] := by simpa using hnil
   subst this; simp at hi; omega
  have hblk : s.ay = some g0 := by unfold Sl.ay; rw [ha]; rfl
  have hsl : ((l.drop n).map a9).flatten.length = (s.n - n) * 4 := by rw [aN (bN _)]; simp; omega
  have hcl : s.n * 4 ≤ cs.length := Nat.le_trans (Nat.mul_le_mul_right _ hnc) hc
  have hr' := hr.ext (Ext.dr w)
  simp only [Int.toNat_natCast, Nat.sub_zero, cf, Int.toNat_zero]
  rw [ha]
  refine ⟨by omega, by omega, by omega, by omega, ((l.drop n).map a9).flatten, ?_, ?_, ?_⟩
  ·exact hr'.JN (by intro e; rw [List.drop_of_length_le (by omega)]; rfl) (v8 ht hn n)
  ·refine ⟨fun _ => ?_, fun h => ?_, fun h => ?_, hsl, cC (dN _)⟩
   ·show Wr _ (ab (some ⟨g0, 0, none⟩) (0 * 4)) _
    rw [aV]; exact hr'.wr (by rw [hsl]; omega)
   ·simp only at h; omega
   ·simp only at h; omega
  ·intro s1 w2 hres
   cases hres with
   | uI hg => simp only at hg; omega
   | fits hf =>
     dsimp only
     have e0 : ab (some (⟨g0, 0, none⟩ : Addr)) (0 * 4) = some ⟨g0, 0, none⟩ := by rw [aV]
     rw [e0]
     have hset := hr'.aB (o := 0) (vs := ((l.drop n).map a9).flatten) (by rw [hsl]; omega) (cC (dN _))
     have hr2 : Row (Go.Vc.aB w.drew (some ⟨g0, 0, none⟩) ((l.drop n).map a9).flatten) g0 (az cs 0 ((l.drop n).map a9).flatten) aS := by rw [hset]; exact hr'.set _
     have hm2 : Mod (fun i => i = g0) w (Go.Vc.aB w.drew (some ⟨g0, 0, none⟩) ((l.drop n).map a9).flatten) := by
      rw [hset]
      exact (Mod.aw (Ext.dr w)).trans ⟨rfl, rfl, rfl, by rw [setRow_size]; exact Nat.le_refl _, fun i _ hn => setRow_other _ _ _ _ hn⟩
     generalize Go.Vc.aB w.drew (some ⟨g0, 0, none⟩) ((l.drop n).map a9).flatten = w2 at hr2 hm2
     have hz : 0 + (s.n - n) = s.n - n := by omega
     rw [hz]
     have hown : ag 0 aS 4 w2 ⟨some ⟨g0, 0, none⟩, s.n, s.c⟩ ((l.drop n ++ l.drop (l.length - n)).map a9) := by
      refine ag.fC (Nat.zero_le _) hr2 (by rw [Go.Vc.a7]; exact hc) hnc ?_ (bN _)
      rw [bw _ _ _ (by rw [hsl]; omega), List.map_append, List.flatten_append, List.take_zero, List.nil_append]
      rw [List.take_append, List.take_of_length_le (by rw [hsl]; omega), hsl, Nat.zero_add, ← yV l (l.length - n), ← ht]
      congr 1
      rw [List.drop_take, hn]
     obtain ⟨p1, p2⟩ := v5 hown (i := s.n - n) (by simp; omega)
     have hnn : ((s.n : Nat) : Int).toNat - (((s.n - n : Nat) : Nat) : Int).toNat = s.n - (s.n - n) := by omega
     refine ⟨by omega, by omega, by omega, by omega, p1, fun w3 e3 => ?_⟩
     obtain ⟨q1, q2⟩ := p2 w3 e3
     refine ⟨⟨some ⟨g0, 0, none⟩, s.n - n, s.c⟩, rfl, ?_, ?_, hblk.symm⟩
     ·rw [List.take_left' (by simp; omega)] at q1; exact q1
     ·refine (hm2.mono fun b _ hb => by rw [hblk, hb]).trans (q2.mono fun b _ hb => ?_)
      have : g0 = b := by simpa [Sl.ay] using hb
      rw [hblk, this]
end Go.Proofs.YtalpkjfpmdpbiaaGreatDoor.Q
namespace Go.Proofs.YtalpkjfpmdpbiaaGreatDoor.Q
open Go Go.Vc Go.RowKit Go.Proofs Go.j3
set_option maxRecDepth 100000
def cE(g m:Nat)(s:Sl):Nat->Prop:=fun i=>i=g\/i=m\/s.ay=some i
abbrev lf (q : QS) (s : Sl) (m : Nat) : List Value := [.int .i64 q.room, .int .i64 q.lost, .slice s.a s.n s.c, .map (some m)]
def iU (kvs : List (Value × Value)) (l : List It) : Prop := (∀ c t, (cv c, tv t) ∈ kvs ↔ (t, c) ∈ l) ∧ ∀ e ∈ kvs, ∃ c t, e = (cv c, tv t)
structure nu (w : World) (g m : Nat) (s : Sl) (q : QS) : Prop where
 row : Row w g (lf q s m) du
 own : ag 0 aS 4 w s (q.l.map a9)
 map : ∃ kvs, aO GC w (some m) kvs ∧ iU kvs q.l
theorem nu.aZ {w : World} {g m : Nat} {s : Sl} {q : QS} (h : nu w g m s q) {b : Nat} {cs : List Value} {E : TypeId} (hb : Row w b cs E) (h1 : E ≠ du) (h2 : E ≠ aS) : ¬ cE g m s b := by
 rintro (rfl | rfl | e)
 ·exact hb.ne h.row h1 rfl
 ·obtain ⟨kvs, hm, -⟩ := h.map
  exact hb.eA hm rfl
 ·obtain ⟨cs', hr⟩ := av h.own (by decide) e
  exact hb.ne hr h2 rfl
theorem nu.Hf {w : World} {g m : Nat} {s : Sl} {q : QS} (h : nu w g m s q) {B E k : Nat} {s' : Sl} {rows : List (List Value)} (ho : ag B E k w s' rows) (hk : 0 < k) (h1 : E ≠ du) (h2 : E ≠ aS) : ∀ b, s'.ay = some b → ¬ cE g m s b := fun b hb => by
 obtain ⟨cs, hr⟩ := av ho hk hb
 exact h.aZ hr h1 h2
theorem nu.lt {w : World} {g m : Nat} {s : Sl} {q : QS} (h : nu w g m s q) : ∀ i, cE g m s i → i < w.heap.size := by
 rintro i (rfl | rfl | e)
 ·exact h.row.lt
 ·obtain ⟨kvs, hm, -⟩ := h.map
  exact hm.lt
 ·exact (h.own.own.lt e).2
theorem nu.aW {w w' : World} {g m : Nat} {s : Sl} {q : QS} (h : nu w g m s q) {F : Nat → Prop} (hm : Mod F w w') (hn : ∀ i, cE g m s i → ¬ F i) : nu w' g m s q := by
 obtain ⟨kvs, h1, h2⟩ := h.map
 exact ⟨hm.row h.row (hn g (.inl rfl)), hm.bT h.own fun b hb => hn b (.inr (.inr hb)), kvs, hm.map h1 (hn m (.inr (.inl rfl))), h2⟩
theorem nu.ext {w w' : World} {g m : Nat} {s : Sl} {q : QS} (h : nu w g m s q) (x : Ext w w') : nu w' g m s q :=
 h.aW (F := fun _ => False) ⟨x.os, x.tape, x.output, x.size, fun i hi _ => x.heap hi⟩ fun _ _ hf => hf
theorem nu.jO {w : World} {g m : Nat} {s : Sl} {q : QS} (h : nu w g m s q) : g ≠ m := by
 obtain ⟨kvs, hm, -⟩ := h.map
 exact h.row.eA hm
theorem nu.lg {w : World} {g m : Nat} {s : Sl} {q : QS} (h : nu w g m s q) : s.ay ≠ some m := fun e => by
 obtain ⟨kvs, hm, -⟩ := h.map
 obtain ⟨cs, hr⟩ := av h.own (by decide) e
 exact hr.eA hm rfl
theorem nu.uq {w : World} {g m : Nat} {s : Sl} {q : QS} (h : nu w g m s q) : s.ay ≠ some g := fun e => by
 obtain ⟨cs, hr⟩ := av h.own (by decide) e
 exact hr.ne h.row (by decide) rfl
theorem iU.look {kvs : List (Value × Value)} {l : List It} (h : iU kvs l) (hn : (l.map (·.2)).Nodup) (c : Cl) : yw kvs (cv c) (tv 0) (tv ((dX l c).getD 0)) (dX l c).isSome := by
 cases hq : dX l c with
 | some t => exact .inl ⟨rfl, (h.1 c t).2 (rf hq)⟩
 | none =>
   refine .inr ⟨rfl, rfl, fun e he hk => ?_⟩
   obtain ⟨c', t, rfl⟩ := h.2 e he
   exact mJ hq (t, c') ((h.1 _ _).1 he) (xt hk)
open Classical in
theorem iU.del {kvs : List (Value × Value)} {l : List It} (h : iU kvs l) (c : Cl) : iU (xD kvs (cv c)) (aP l c) := by
 refine ⟨fun c' t => ?_, fun e he => h.2 e (List.mem_filter.1 he).1⟩
 unfold xD aP
 rw [List.mem_filter, List.mem_filter, h.1]
 refine and_congr_right fun _ => ?_
 rw [bne_iff_ne]
 refine decide_eq_true_iff.trans ?_
 exact not_congr ⟨fun e => xt e, fun e => by rw [show c' = c from e]⟩
theorem iU.ins {kvs : List (Value × Value)} {l : List It} (h : iU kvs l) {x : It} (hx : ∀ y ∈ l, y.2 ≠ x.2) : iU (qO kvs (cv x.2) (tv x.1)) (lI l x) := by
 unfold qO
 rw [if_neg]
 ·refine ⟨fun c t => ?_, fun e he => ?_⟩
  ·rw [List.mem_append, h.1, xu, List.mem_singleton]
   constructor
   ·rintro (h1 | h1)
    ·exact .inr h1
    ·obtain ⟨e1, e2⟩ := Prod.mk.inj h1
     have := xt e1
     have h2 : t = x.1 := by unfold tv at e2; injection e2
     left; rw [this, h2]
   ·rintro (h1 | h1)
    ·right; rw [← h1]
    ·exact .inl h1
  ·rcases List.mem_append.1 he with he | he
   ·exact h.2 e he
   ·rw [List.mem_singleton] at he; exact ⟨_, _, he⟩
 ·rintro ⟨e, he, hk⟩
  obtain ⟨c', t, rfl⟩ := h.2 e he
  exact hx (t, c') ((h.1 _ _).1 he) (xt hk)
theorem iU.perm {kvs : List (Value × Value)} {l l' : List It} (h : iU kvs l) (hl : ∀ x, x ∈ l ↔ x ∈ l') : iU kvs l' := ⟨fun c t => (h.1 c t).trans (hl _), h.2⟩
theorem sm (room : Int) (w : World) : Calls Tryz.prog ve #[room] w fun e w' => ∃ g m, e = .returned (.pointer (some ⟨g, 0, none⟩)) ∧ nu w' g m ⟨none, 0, 0⟩ ⟨min (max room 1) 4096, 0, []⟩ ∧ Ext w w' ∧ w.heap.size ≤ g ∧ w.heap.size ≤ m := by
 apply uB.vc
 intro w0 e0 w1 e1
 have hm : aO GC w0 (some w.heap.size) [] := by rw [e0]; exact aO.new
 have x1 : Ext w0 w1 := (Ext.ao _).aa e1
 refine ⟨w0.heap.size, w.heap.size, rfl, ⟨?_, ag.nil, [], ?_, by simp [iU]⟩, ((Ext.ao _).aa e0).tr x1, ?_, Nat.le_refl _⟩
 ·have : (min (max room 1) 4096) = (if 4096 < (if 1 > room then 1 else room) then 4096 else (if 1 > room then 1 else room)) := by
   split <;> split <;> omega
  rw [e1, this]
  exact Row.new w0 [_, _, _, _] _
 ·exact hm.same (x1.heap hm.lt)
 ·rw [e0]; simp
theorem vE {w : World} {g m : Nat} {s : Sl} {q : QS} (h : nu w g m s q) (hq : rV q) (c : Cl) : Calls Tryz.prog gK #[.pointer (some ⟨g, 0, none⟩), cv c] w fun e w' => e = .returned (.tuple #[.int .i64 ((dX q.l c).getD 0), .bool (dX q.l c).isSome]) ∧ Ext w w' := by
 apply jT.vc
 intro w0 e0
 have x0 : Ext w w0.drew := (Ext.ao w |>.aa e0).drew
 have h0 := h.ext x0
 obtain ⟨kvs, hm, ht⟩ := h0.map
 exact ⟨some m, h0.row.at 3 rfl, GC, kvs, mI, hm, ⟨c, rfl⟩, _, _, ht.look hq.nodup c, rfl, x0⟩
end Go.Proofs.YtalpkjfpmdpbiaaGreatDoor.Q
namespace Go.Proofs.YtalpkjfpmdpbiaaGreatDoor.Q
open Go Go.Vc Go.RowKit Go.Proofs Go.j3
set_option maxRecDepth 100000
theorem cE.cm {g m : Nat} {s s' : Sl} {w w' : World} (hm : Mod (cE g m s) w w') (hs : ∀ b, s'.ay = some b → s.ay = some b ∨ w.heap.size ≤ b) : ar (cE g m s) (cE g m s') w w' :=
 ⟨hm, fun i hi => by
  rcases hi with h | h | h
  ·exact .inl (.inl h)
  ·exact .inl (.inr (.inl h))
  ·rcases hs i h with h | h
   ·exact .inl (.inr (.inr h))
   ·exact .inr h⟩
theorem zc {w : World} {g m : Nat} {s : Sl} {q : QS} (h : nu w g m s q) (hsort : q.l.Pairwise fun a b => a.1 ≤ b.1) (hl : q.l.length ≤ 4998) {x : It} (hx : ∀ y ∈ q.l, y.2 ≠ x.2) :
  Calls Tryz.prog bF #[.pointer (some ⟨g, 0, none⟩), .agg (a9 x).toArray] w fun e w' => e = .returned (.tuple #[]) ∧ ∃ s', nu w' g m s' { q with l := lI q.l x } ∧ ar (cE g m s) (cE g m s') w w' := by
 apply gC.vc
 intro w0 e0
 have x0 : Ext w w0 := (Ext.ao w).aa e0
 have vj := cL e0
 have h0 := h.ext (x0.drew)
 refine ⟨s, h0.row.at 2 rfl, ?_⟩
 refine (G3 x (h0.own.rd (by decide)) hsort (by omega)).mono ?_
 rintro e w2 ⟨⟨b, rfl⟩, x2⟩
 refine ⟨_, b, rfl, x2.heap (show w.heap.size < w0.heap.size by omega), ?_⟩
 have h2 := (h0.ext x2).ext (Ext.dr _)
 refine ⟨s, h2.row.at 2 rfl, ?_⟩
 intro w6 e6
 have x6 : Ext w2.drew w6 := (Ext.ao _).aa e6
 have h6 := h2.ext x6
 have hrow : Row w6 w2.drew.heap.size (a9 x) aS := by rw [e6]; exact Row.new _ _ _
 have hz2 := x2.size
 have hsz : w.heap.size < w2.drew.heap.size := Nat.lt_of_lt_of_le (show w.heap.size < w0.heap.size by omega) hz2
 have hk := (List.takeWhile_sublist (fun y : It => decide (y.1 ≤ x.1)) (l := q.l)).length_le
 have hsb : s.ay ≠ some w2.drew.heap.size := fun e => by
  have := h2.lt _ (.inr (.inr e)); omega
 refine (BE h6.own hrow hk (by omega) hsb).mono ?_
 rintro e w7 ⟨s8, rfl, ho8, hm8, hs8⟩
 have hbox : s.ay ≠ some w.heap.size := fun e => by
  have := h.lt _ (.inr (.inr e)); omega
 have x06 : Ext w w6 := ((x0.drew).tr x2).tr ((Ext.dr _).tr x6)
 refine ⟨s8, rfl, hm8.same _ (by have := x6.size; omega) hbox, ?_⟩
 have hr7 : Row w7 g (lf q s m) du := hm8.row h6.row h6.uq
 obtain ⟨p1, p2⟩ := hr7.gg (j := 2) (v := .slice s8.a s8.n s8.c) (by simp) rfl
 refine ⟨⟨rfl, p1⟩, ?_, ?_⟩
 ·rw [bC]
  intro e
  have := h.row.lt
  have : g = w.heap.size := by simpa [bK] using e
  omega
 intro w9 e9
 obtain ⟨q1, q2⟩ := p2 w9 e9
 have x9 := Ext.dr w9
 have hr9 := q1.ext x9
 refine ⟨some m, hr9.at 3 rfl, ?_⟩
 obtain ⟨kvs, hmap, ht⟩ := h6.map
 have hmap9 : aO GC w9.drew (some m) kvs := (Mod.aw (F := fun _ => False) x9).map (q2.map (hm8.map hmap h6.lg) (Ne.symm h.jO)) (by simp)
 refine ⟨GC, kvs, mI, rfl, hmap9, ⟨x.2, rfl⟩, ?_⟩
 intro w13 hrec hmap13
 have hm13 := Mod.uh hrec
 refine ⟨rfl, s8, ⟨?_, ?_, _, hmap13, ht.ins hx⟩, cE.cm ?_ ?_⟩
 ·exact hm13.row hr9 h.jO
 ·have he := sy q.l x
  rw [he] at ho8
  have hrow8 := fun b hb => av ho8 (by decide) (b := b) hb
  refine hm13.bT ((q2.bT ho8 fun b hb hf => ?_).ext x9) fun b hb hf => ?_
  ·obtain ⟨cs, hr⟩ := hrow8 b hb
   exact hr.ne hr7 (by decide) hf
  ·obtain ⟨cs, hr⟩ := hrow8 b hb
   exact hr.eA (hm8.map hmap h6.lg) hf
 ·refine ((((Mod.aw x06).trans (hm8.mono fun b _ hb => .inr (.inr hb))).trans (q2.mono fun b _ hb => .inl hb)).trans (Mod.aw x9)).trans (hm13.mono fun b _ hb => .inr (.inl hb))
 ·intro b hb
  rcases hs8 b hb with h1 | h1
  ·exact .inl h1
  ·exact .inr (Nat.le_trans x06.size h1)
theorem EY {w : World} {g m : Nat} {s : Sl} {q : QS} (h : nu w g m s q) (hq : rV q) (c : Cl) :
  Calls Tryz.prog de #[.pointer (some ⟨g, 0, none⟩), cv c] w fun e w' => e = .returned (.bool (dX q.l c).isSome) ∧ ∃ s', nu w' g m s' { q with l := aP q.l c } ∧ ar (cE g m s) (cE g m s') w w' := by
 apply gD.vc
 intro w0 e0
 have x0 : Ext w w0 := (Ext.ao w).aa e0
 have hbox0 : Row w0 w.heap.size (di c) nI := by rw [e0]; exact Row.new _ _ _
 have h0 := h.ext x0.drew
 obtain ⟨kvs, hm, ht⟩ := h0.map
 refine ⟨some m, h0.row.at 3 rfl, GC, kvs, mI, hm, ⟨c, rfl⟩, _, _, ht.look hq.nodup c, Br.mk (fun hb => ?_) (fun hb => ?_)⟩
 ·have hn : dX q.l c = none := by simpa using hb
  refine ⟨by rw [hn]; rfl, s, ?_, ar.aw x0.drew⟩
  have : aP q.l c = q.l := by
   unfold aP; rw [List.filter_eq_self]; intro y hy; simpa using mJ hn y hy
  rw [this]; exact h0
 ·have hsome : (dX q.l c).isSome = true := by simpa using hb
  have h1 := h0.ext (Ext.dr _)
  refine ⟨some m, h1.row.at 3 rfl, GC, kvs, mI, rfl, (Mod.aw (F := fun _ => False) (Ext.dr _)).map hm (by simp), ⟨c, rfl⟩, ?_⟩
  intro w9 hrec hmap9
  have hm9 := Mod.uh hrec
  have hr9 : Row w9 g (lf q s m) du := hm9.row h1.row h.jO
  refine ⟨s, hr9.at 2 rfl, ?_⟩
  have hlen := hq.len
  have hroom := hq.room
  have hbox9 : Row w9 w.heap.size (di c) nI := hm9.row (hbox0.ext (Ext.dr _ |>.tr (Ext.dr _))) (fun e => by
   have : w.heap.size = m := e
   have := h.lt m (.inr (.inl rfl)); omega)
  have ho9 : ag 0 aS 4 w9 s (q.l.map a9) := hm9.bT h1.own fun b hb hf => h1.lg (by rw [hb]; exact congrArg some hf)
  refine (vm ho9 hbox9 (by omega)).mono ?_
  rintro e w11 ⟨s12, rfl, ho12, hm12, hs12⟩
  have hsm : s.ay ≠ some m := h.lg
  have hr11 : Row w11 g (lf q s m) du := hm12.row hr9 h.uq
  obtain ⟨p1, p2⟩ := hr11.gg (j := 2) (v := .slice s12.a s12.n s12.c) (by simp) rfl
  refine ⟨s12, rfl, ⟨rfl, p1⟩, fun w13 e13 => ?_⟩
  obtain ⟨q1, q2⟩ := p2 w13 e13
  refine ⟨by rw [hsome], s12, ⟨q1, ?_, _, q2.map (hm12.map hmap9 hsm) (Ne.symm h.jO), ht.del c⟩, cE.cm ?_ ?_⟩
  ·refine q2.bT ho12 fun b hb hf => ?_
   obtain ⟨cs, hr⟩ := av ho12 (by decide) hb
   exact hr.ne hr11 (by decide) hf
  ·exact (((Mod.aw (x0.drew.drew)).trans (hm9.mono fun b _ hb => .inr (.inl hb))).trans (hm12.mono fun b _ hb => .inr (.inr hb))).trans (q2.mono fun b _ hb => .inl hb)
  ·intro b hb; exact .inl (hs12 ▸ hb)
end Go.Proofs.YtalpkjfpmdpbiaaGreatDoor.Q
namespace Go.Proofs.YtalpkjfpmdpbiaaGreatDoor.Q
open Go Go.Vc Go.RowKit Go.Proofs Go.j3
set_option maxRecDepth 100000
theorem xh {w : World} {g m : Nat} {s : Sl} {q : QS} (h : nu w g m s q) (hq : rV q) (hl : 0 ≤ q.lost ∧ q.lost ≤ 1000000) (c : Cl) (t : Int) :
  Calls Tryz.prog fU #[.pointer (some ⟨g, 0, none⟩), cv c, t] w fun e w' => e = .returned (.bool (bM q c t).2) ∧ ∃ s', nu w' g m s' (bM q c t).1 ∧ ar (cE g m s) (cE g m s') w w' := by
 apply iL.vc
 intro w0 e0
 have x0 : Ext w w0 := (Ext.ao w).aa e0
 have vj := cL e0
 have h0 := h.ext x0
 have hn : s.n = q.l.length := by rw [(h.own.rd (by decide)).n, List.length_map]
 have hlen := hq.len
 have hroom := hq.room
 have hbg : g < w.heap.size := h.row.lt
 have hbf : ∀ {s' : Sl} {w1 w' : World}, w.heap.size < w1.heap.size → ar (cE g m s) (cE g m s') w1 w' → w'.heap[w.heap.size]? = w1.heap[w.heap.size]? := fun hlt ht =>
  ht.mod.same _ hlt fun hf => by have := h.lt _ hf; omega
 refine (vE h0 hq c).mono ?_
 rintro e w1 ⟨rfl, x1⟩
 have h1 := h0.ext x1
 have x01 := x0.tr x1
 have hz1 : w.heap.size < w1.heap.size := by have := x1.size; omega
 refine ⟨_, _, rfl, x1.heap (show w.heap.size < w0.heap.size by omega), Br.mk (fun hb => ?_) (fun hb => ?_)⟩
 ·obtain ⟨was, hw⟩ := Option.isSome_iff_exists.1 hb
  have hg : (dX q.l c).getD 0 = was := by rw [hw]; rfl
  rw [hg]
  refine Br.mk (fun hc => ?_) (fun hc => Br.mk (fun _ => ?_) (fun hn => by rw [hb] at hn; cases hn))
  ·replace hc := dj hc
   have e : bM q c t = (q, false) := by unfold bM; rw [hw]; simp [hc]
   rw [e]
   exact ⟨rfl, s, h1, ar.aw x01⟩
  ·replace hc := dH hc
   have e : bM q c t = ({ q with l := lI (aP q.l c) (t, c) }, true) := by unfold bM; rw [hw]; simp [hc]
   rw [e]
   refine (EY h1 hq c).mono ?_
   rintro e w4 ⟨rfl, s4, h4, t4⟩
   refine ⟨_, rfl, hbf hz1 t4, ?_⟩
   have hq4 := hq.drop c
   have hl4 := hq4.len
   have hz4 := t4.mod.size
   refine (zc (x := (t, c)) h4 hq4.sorted (by simp only at hl4 ⊢; omega) (fun y hy => by
    have := (List.mem_filter.1 hy).2
    simpa using this)).mono ?_
   rintro e w6 ⟨rfl, s6, h6, t6⟩
   refine ⟨rfl, t6.mod.same _ (by omega) (fun hf => ?_), rfl, s6, h6, ((ar.aw x01).trans t4).trans t6⟩
   rcases t4.sub _ hf with hf | hf
   ·have := h.lt _ hf; omega
   ·omega
 ·refine Br.mk (fun hb' => by rw [hb] at hb'; cases hb') (fun _ => ?_)
  have hw : dX q.l c = none := by simpa using hb
  have h1d := h1.ext (Ext.dr w1)
  refine ⟨s, h1d.row.at 2 rfl, q.room, h1d.row.at 0 rfl, ?_⟩
  rw [hn]
  refine Br.mk (fun hc => ?_) (fun hc => ?_)
  ·have hc' : ((q.l.length : Nat) : Int) = q.room := by simpa using hc
   have e : bM q c t = ({ q with lost := q.lost + 1 }, false) := by unfold bM; rw [hw]; simp [hc']
   rw [e]
   obtain ⟨p1, p2⟩ := h1d.row.gg (j := 1) (v := .int .i64 (IntKind.wrap .i64 (q.lost + 1))) (by simp) rfl
   refine ⟨q.lost, h1d.row.at 1 rfl, ⟨rfl, p1⟩, ?_, fun w10 e10 => ?_⟩
   ·rw [bC]
    intro e
    have : g = w.heap.size := by simpa [bK] using e
    omega
   ·obtain ⟨q1, q2⟩ := p2 w10 e10
    rw [wI] at q1
    obtain ⟨kvs, hm, ht⟩ := h1d.map
    refine ⟨rfl, s, ⟨q1, q2.bT h1d.own fun b hb hf => h.uq (by rw [hb]; exact congrArg some hf), kvs, q2.map hm (Ne.symm h.jO), ht⟩, (ar.aw x01.drew).trans (cE.cm (q2.mono fun b _ hb => .inl hb) fun b hb => .inl hb)⟩
  ·have hc' : ((q.l.length : Nat) : Int) ≠ q.room := by simpa using hc
   have e : bM q c t = ({ q with l := lI q.l (t, c) }, true) := by
    unfold bM; rw [hw]
    have : ¬ (q.l.length : Int) ≥ q.room := by omega
    simp only
    rw [if_neg this]
   rw [e]
   refine (zc (x := (t, c)) h1d hq.sorted (by omega) (mJ hw)).mono ?_
   rintro e w6 ⟨rfl, s6, h6, t6⟩
   exact ⟨rfl, hbf hz1 t6, rfl, s6, h6, (ar.aw x01.drew).trans t6⟩
theorem Hz {w : World} {g m : Nat} {s a : Sl} {q : QS} {xs : List It} (h : nu w g m s q) (hq : rV q) (hl : 0 ≤ q.lost ∧ q.lost + xs.length ≤ 1000000) (ha : RdK w a 4 (xs.map a9)) (hlt : ∀ b, a.ay = some b → b < w.heap.size) (hd : ∀ b, a.ay = some b → ¬ cE g m s b) :
  Calls Tryz.prog kB #[.pointer (some ⟨g, 0, none⟩), a] w fun e w' => e = .returned (.int .i64 (vw q xs).2) ∧ ∃ s', nu w' g m s' (vw q xs).1 ∧ ar (cE g m s) (cE g m s') w w' := by
 have hn : a.n = xs.length := by rw [ha.n, List.length_map]
 apply iM.vc
 refine ⟨fun n x y wr => ∃ (j k : Nat) (sr : Sl) (qr : QS), x = j ∧ y = k ∧ j + n = xs.length ∧ k ≤ j ∧ nu wr g m sr qr ∧ rV qr ∧ ar (cE g m s) (cE g m sr) w wr ∧ 0 ≤ qr.lost ∧ qr.lost ≤ q.lost + j ∧ (vw qr (xs.drop j)).1 = (vw q xs).1 ∧ k + (vw qr (xs.drop j)).2 = (vw q xs).2,
  ⟨xs.length, 0, 0, s, q, rfl, rfl, by omega, Nat.le_refl _, h, hq, ar.refl _ _, hl.1, by omega, rfl, by simp⟩, ?_⟩
 rintro n us x y wr ⟨j, k, sr, qr, rfl, rfl, h1, h2, hqr, hok, ht, h3, h4, h5, h6⟩
 have har : RdK wr a 4 (xs.map a9) := ht.mod.Jk (by decide) ha fun _ b hb => hd b hb
 refine Br.mk (fun hc => ?_) (fun hc => ?_)
 ·replace hc := dj hc
  have hget : xs[j]? = some (xs[j]'(by omega)) := List.getElem?_eq_getElem (by omega)
  have hdrop : xs.drop j = xs[j]'(by omega) :: xs.drop (j + 1) := List.drop_eq_getElem_cons (by omega)
  generalize xs[j]'(by omega) = z at hget hdrop
  refine ⟨⟨har.isSome (by decide) (i := j) (by simp; omega), by omega, by omega⟩, z.1, z.2.1, z.2.2.1, z.2.2.2, RdK.item har hget, ?_⟩
  intro w11 e11 w12 e12
  have x12 : Ext wr w12 := (Ext.ao wr |>.aa e11).af e12 (Nat.le_refl _)
  have hs12 : wr.heap.size < w12.heap.size := by rw [e12, setRow_size, e11]; simp
  refine (xh (hqr.ext x12) hok ⟨h3, by omega⟩ z.2 z.1).mono ?_
  rintro e w13 ⟨rfl, s13, h13, t13⟩
  have hlo := pD qr z.2 z.1
  have hwj : IntKind.wrap .i64 ((j : Int) + 1) = ((j + 1 : Nat) : Int) := by rw [wI]; omega
  have hwk : IntKind.wrap .i64 ((k : Int) + 1) = ((k + 1 : Nat) : Int) := by rw [wI]; omega
  rw [hdrop] at h5 h6
  simp only [vw] at h5 h6
  have ht' := (ht.trans (ar.aw x12)).trans t13
  refine ⟨_, rfl, t13.mod.same _ hs12 (fun hf => ?_), Br.mk (fun hb => ?_) (fun hb => ?_)⟩
  ·have := hqr.lt _ hf; omega
  ·rw [hb] at h6
   simp only [if_true] at h6
   rw [hwj, hwk]
   exact ⟨n - 1, by omega, j + 1, k + 1, s13, _, rfl, rfl, by omega, by omega, h13, hok.add _ _, ht', by omega, by omega, h5, by omega⟩
  ·rw [hb] at h6
   simp only [Bool.false_eq_true, if_false] at h6
   rw [hwj]
   exact ⟨n - 1, by omega, j + 1, k, s13, _, rfl, rfl, by omega, by omega, h13, hok.add _ _, ht', by omega, by omega, h5, by omega⟩
 ·replace hc := dH hc
  have hj : j = xs.length := by omega
  rw [hj, List.drop_length] at h5 h6
  simp only [vw] at h5 h6
  refine ⟨by rw [← h6]; rfl, sr, ?_, ht⟩
  rw [← h5]; exact hqr
end Go.Proofs.YtalpkjfpmdpbiaaGreatDoor.Q
namespace Go.Proofs.YtalpkjfpmdpbiaaGreatDoor.Q
open Go Go.Vc Go.RowKit Go.Proofs Go.j3
set_option maxRecDepth 100000
theorem Db {w : World} {s : Sl} {l : List It} (ho : ag 0 aS 4 w s (l.map a9)) (hl : l.length ≤ 5000) :
  Calls Tryz.prog eD #[s] w fun e w' => ∃ s' : Sl, e = .returned s' ∧ ag w.heap.size aS 4 w' s' (l.map a9) ∧ Ext w w' := by
 apply fS.vc
 have hn : s.n = l.length := by rw [(ho.rd (by decide)).n, List.length_map]
 refine Br.mk (fun h => ?_) (fun h => ?_)
 ·rcases ho.form (by decide) with ⟨hs, hnil⟩ | ⟨g0, cs, ha, -⟩
  ·exact ⟨⟨none, 0, 0⟩, rfl, by rw [hnil]; exact ag.nil, Ext.ao _⟩
  ·rw [ha] at h; cases h
 ·intro w0 e0
  have x0 : Ext w w0 := (Ext.ao w).aa e0
  have vj := cL e0
  have hr0 : Row w0 w.heap.size [] aS := by rw [e0]; exact Row.new _ _ _
  have hown : ag w.heap.size aS 4 w0 ⟨some ⟨w.heap.size, 0, none⟩, 0, 0⟩ [] := ag.fC (Nat.le_refl _) hr0 (by simp) (Nat.le_refl _) rfl (by simp)
  obtain ⟨hp, hr⟩ := hown.np (bytes := 32) (more := l.map a9) x0.size (bN _) (dN _) (by simp; omega) (by simp; omega)
  rw [List.length_map, ← hn] at hp hr
  refine ⟨(l.map a9).flatten, ((ho.ext x0).rd (by decide)).flat (by decide), hp, fun s2 w3 hres => ?_⟩
  obtain ⟨h1, h2, h3, h4, h5⟩ := hr s2 w3 hres
  refine ⟨nH hres (by rw [aN (bN _), List.length_map, hn]) (by omega), s2, rfl, h1, x0.trans h3⟩
theorem GO {w : World} {g m : Nat} {s : Sl} {q : QS} (h : nu w g m s q) (hq : rV q) : Calls Tryz.prog kq #[.pointer (some ⟨g, 0, none⟩)] w fun e w' => ∃ s' : Sl, e = .returned s' ∧ ag w.heap.size aS 4 w' s' (q.l.map a9) ∧ Ext w w' := by
 apply iH.vc
 have := hq.len
 have := hq.room
 refine ⟨s, h.row.at 2 rfl, (Db h.own (by omega)).mono ?_⟩
 rintro e w1 ⟨s', rfl, h1, x1⟩
 exact ⟨s', rfl, s', rfl, h1, x1⟩
theorem Hd {w : World} {g m : Nat} {s : Sl} {q : QS} (h : nu w g m s q) (hq : rV q) (now many : Int) :
  Calls Tryz.prog ku #[.pointer (some ⟨g, 0, none⟩), now, many] w fun e w' => ∃ so : Sl, e = .returned (.slice so.a so.n so.c) ∧ ∃ s', ag w.heap.size nI 3 w' so ((nt q now many).2.map di) ∧ nu w' g m s' (nt q now many).1 ∧ ar (cE g m s) (cE g m s') w w' := by
 have hn : s.n = q.l.length := by rw [(h.own.rd (by decide)).n, List.length_map]
 have hlen := hq.len
 have hroom := hq.room
 have hcap : s.n ≤ s.c := by
  rcases h.own.form (by decide) with ⟨hs, -⟩ | ⟨g0, cs, ha, hg0, hr, hc, hnc, -⟩
  ·rw [hs]; exact Nat.le_refl _
  ·exact hnc
 have hql := E3 q.l now many
 apply iI.vc
 refine ⟨fun n x wr => w = wr ∧ ∃ k : Nat, x = k ∧ k + n = eC q.l now many, ⟨eC q.l now many, rfl, 0, rfl, by omega⟩, ?_⟩
 rintro n0 us x wr ⟨rfl, k, rfl, hk⟩
 have hkl : k ≤ q.l.length := by omega
 refine ⟨s, h.row.at 2 rfl, Br.mk (fun hc => ?_) (fun hc => ?_)⟩
 ·replace hc := dj hc
  have hget : q.l[k]? = some (q.l[k]'(by omega)) := List.getElem?_eq_getElem (by omega)
  have hat := E2 hq now many hget
  generalize q.l[k]'(by omega) = y at hget hat
  refine Br.mk (fun hc2 => ?_) (fun hc2 => ?_)
  ·replace hc2 := dj hc2
   have hrd := h.own.rd (by decide)
   refine ⟨s, h.row.at 2 rfl, ⟨hrd.isSome (by decide) (i := k) (by simp; omega), by omega, by omega⟩, ?_⟩
   have hsm : (ab s.a ((k : Int).toNat * 4)).isSome = true := by
    rw [cF]; exact hrd.isSome (by decide) (i := k) (by simp; omega)
   refine aG.2 ⟨ef.2 hsm, y.1, ?_, Br.mk (fun hc3 => ?_) (fun hc3 => ?_)⟩
   ·exact hrd.at (i := k) (r := a9 y) (by rw [List.getElem?_map, hget]; rfl) rfl
   ·replace hc3 := dj hc3
    have := hat.2 ⟨hc2, hc3⟩
    have hw : IntKind.wrap .i64 ((k : Int) + 1) = ((k + 1 : Nat) : Int) := by rw [wI]; omega
    exact ⟨n0 - 1, by omega, rfl, k + 1, hw, by omega⟩
   ·replace hc3 := dH hc3
    have hkq : k = eC q.l now many := by
     have : ¬ k < eC q.l now many := fun hlt => hc3 (hat.1 hlt).2
     omega
    (
     refine ⟨s, h.row.at 2 rfl, by omega, by omega, by omega, by omega, fun n x so wr => ∃ j : Nat, x = j ∧ j + n = k ∧ Go.Vc.Mod (fun i => i = m) w wr ∧ ag w.heap.size nI 3 wr so ((q.l.take j).map fun y => di y.2) ∧ ∃ kvs, aO GC wr (some m) kvs ∧ iU kvs (q.l.drop j), ⟨k, 0, rfl, by omega, Go.Vc.Mod.refl _ _, ag.nil, by simpa using h.map⟩, ?_⟩
     rintro n us x so wr ⟨j, rfl, hj, hmod, hout, kvs, hmap, htk⟩
     have hrow : Row wr g (lf q s m) du := hmod.row h.row h.jO
     have hown : ag 0 aS 4 wr s (q.l.map a9) := hmod.bT h.own fun b hb hf => h.lg (by rw [hb]; exact congrArg some hf)
     refine Br.mk (fun hc => ?_) (fun hc => ?_)
     ·replace hc := dj hc
      have hjl : j < q.l.length := by omega
      have hget : q.l[j]? = some (q.l[j]'hjl) := List.getElem?_eq_getElem hjl
      generalize q.l[j]'hjl = y at hget
      have hrd := hown.rd (by decide)
      refine ⟨⟨?_, by omega, by omega⟩, y.1, y.2.1, y.2.2.1, y.2.2.2, ?_, ?_⟩
      ·have := hrd.isSome (by decide) (i := j) (by simp; omega)
       unfold ai; split <;> simpa using this
      ·rw [g7]; exact RdK.item hrd hget
      intro w21 e21 w22 e22 w23 e23
      have x21 : Ext wr w21 := (Ext.ao wr).aa e21
      have x22 : Ext wr w22 := x21.af e22 (Nat.le_refl _)
      have x23 : Ext wr w23 := x22.aa e23
      have hz22 : w22.heap.size = wr.heap.size + 1 := by rw [e22, setRow_size, e21]; simp
      have hz23 := cL e23
      have hon : so.n = j := by rw [(hout.rd (by decide)).n, List.length_map, List.length_take]; omega
      have hzw := hmod.size
      obtain ⟨hp, hr⟩ := (hout.ext x23).append (bytes := 24) (news := di y.2) (by omega) rfl (by intro u hu; simp at hu; rcases hu with rfl | rfl | rfl <;> rfl) (by omega) (by omega)
      refine ⟨hp, fun s24 w25 hres => ?_⟩
      obtain ⟨h1, h2, h3, h4, h5⟩ := hr s24 w25 hres
      have hsb : ∀ b, so.ay = some b → b < wr.heap.size := fun b hb => (hout.own.lt hb).2
      have hm25 : Go.Vc.Mod (fun i => so.ay = some i) w23 w25 := ⟨h3.os, h3.tape, h3.output, h3.size, fun i hi hn => h4 i hn hi⟩
      have hsm : so.ay ≠ some m := fun e => by
       have h1 := (hout.own.lt e).1
       have h2 := h.lt m (.inr (.inl rfl)); omega
      refine ⟨h4 _ (fun e => by have := hsb _ e; omega) (by omega), h4 _ (fun e => by have := hsb _ e; omega) (by omega), ?_⟩
      have hm2 : Go.Vc.Mod (fun i => so.ay = some i) wr w25.drew := ((Go.Vc.Mod.aw x23).trans hm25).trans (Go.Vc.Mod.aw (Ext.dr _))
      have hsg : so.ay ≠ some g := fun e => by
       have h1 := (hout.own.lt e).1
       have h2 := h.lt g (.inl rfl); omega
      refine ⟨some m, (hm2.row hrow hsg).at 3 rfl, GC, kvs, mI, rfl, hm2.map hmap hsm, ⟨y.2, rfl⟩, ?_⟩
      intro w29 hrec hmap29
      have hm29 := Go.Vc.Mod.uh hrec
      have hwj : IntKind.wrap .i64 ((j : Int) + 1) = ((j + 1 : Nat) : Int) := by rw [wI]; omega
      rw [hwj]
      refine ⟨n - 1, by omega, j + 1, rfl, by omega, (hmod.tr hm2 (fun i hi => .inr (hout.own.lt hi).1)).trans hm29, ?_, _, hmap29, ?_⟩
      ·have e : (q.l.take (j + 1)).map (fun y => di y.2) = (q.l.take j).map (fun y => di y.2) ++ [di y.2] := by rw [List.take_add_one, hget, List.map_append]; rfl
       rw [e]
       refine hm29.bT (h1.ext (Ext.dr _)) fun b hb hf => ?_
       have hb' : s24.ay = some m := by rw [hb]; exact congrArg some hf
       have := h.lt m (.inr (.inl rfl))
       rcases h5 with h5 | h5
       ·exact hsm (h5 ▸ hb')
       ·rw [h5] at hb'; have : w23.heap.size = m := by simpa using hb'
        omega
      ·have hd := htk.del y.2
       refine hd.perm fun z => ?_
       have hcons : q.l.drop j = y :: q.l.drop (j + 1) := by
        obtain ⟨hlt, he⟩ := List.getElem?_eq_some_iff.1 hget
        rw [List.drop_eq_getElem_cons hlt, he]
       have hnd : ((y :: q.l.drop (j + 1)).map (·.2)).Nodup := by
        rw [← hcons]; exact ((List.drop_sublist j q.l).map _).nodup hq.nodup
       rw [hcons]
       unfold aP
       rw [List.map_cons, List.nodup_cons] at hnd
       constructor
       ·intro hz
        obtain ⟨hz1, hz2⟩ := List.mem_filter.1 hz
        rcases List.mem_cons.1 hz1 with rfl | hz1
        ·simp at hz2
        ·exact hz1
       ·intro hz
        refine List.mem_filter.2 ⟨List.mem_cons_of_mem _ hz, ?_⟩
        have : z.2 ≠ y.2 := fun e => hnd.1 (e ▸ List.mem_map_of_mem hz)
        simpa using this
     ·replace hc := dH hc
      have hjk : j = k := by omega
      subst hjk
      refine ⟨s, hrow.at 2 rfl, (nJ hown hkl (by omega)).mono ?_⟩
      rintro e w31 ⟨s32, rfl, ho32, hm32, hs32⟩
      have hr31 : Row w31 g (lf q s m) du := hm32.row hrow h.uq
      obtain ⟨p1, p2⟩ := hr31.gg (j := 2) (v := .slice s32.a s32.n s32.c) (by simp) rfl
      refine ⟨s32, rfl, ⟨rfl, p1⟩, fun w33 e33 => ?_⟩
      obtain ⟨q1, q2⟩ := p2 w33 e33
      have hso : ∀ b, so.ay = some b → w.heap.size ≤ b := fun b hb => (hout.own.lt hb).1
      refine ⟨so, rfl, s32, ?_, ?_, ?_⟩
      ·unfold nt
       rw [← hkq, List.map_map]
       refine q2.bT (hm32.bT hout fun b hb hf => ?_) fun b hb hf => ?_
       ·have := hso b hb
        have := h.lt b (.inr (.inr hf)); omega
       ·have := hso b hb
        have := h.lt b (.inl hf); omega
      ·unfold nt
       rw [← hkq]
       refine ⟨q1, q2.bT ho32 fun b hb hf => ?_, kvs, q2.map (hm32.map hmap h.lg) (Ne.symm h.jO), htk⟩
       obtain ⟨cs, hr⟩ := av ho32 (by decide) hb
       exact hr.ne hr31 (by decide) hf
      ·refine cE.cm (((hmod.mono fun b _ hb => .inr (.inl hb)).trans (hm32.mono fun b _ hb => .inr (.inr hb))).trans (q2.mono fun b _ hb => .inl hb)) fun b hb => .inl (hs32 ▸ hb))
  ·replace hc2 := dH hc2
   have hkq : k = eC q.l now many := by
    have : ¬ k < eC q.l now many := fun hlt => hc2 (hat.1 hlt).1
    omega
   (
    refine ⟨s, h.row.at 2 rfl, by omega, by omega, by omega, by omega, fun n x so wr => ∃ j : Nat, x = j ∧ j + n = k ∧ Go.Vc.Mod (fun i => i = m) w wr ∧ ag w.heap.size nI 3 wr so ((q.l.take j).map fun y => di y.2) ∧ ∃ kvs, aO GC wr (some m) kvs ∧ iU kvs (q.l.drop j), ⟨k, 0, rfl, by omega, Go.Vc.Mod.refl _ _, ag.nil, by simpa using h.map⟩, ?_⟩
    rintro n us x so wr ⟨j, rfl, hj, hmod, hout, kvs, hmap, htk⟩
    have hrow : Row wr g (lf q s m) du := hmod.row h.row h.jO
    have hown : ag 0 aS 4 wr s (q.l.map a9) := hmod.bT h.own fun b hb hf => h.lg (by rw [hb]; exact congrArg some hf)
    refine Br.mk (fun hc => ?_) (fun hc => ?_)
    ·replace hc := dj hc
     have hjl : j < q.l.length := by omega
     have hget : q.l[j]? = some (q.l[j]'hjl) := List.getElem?_eq_getElem hjl
     generalize q.l[j]'hjl = y at hget
     have hrd := hown.rd (by decide)
     refine ⟨⟨?_, by omega, by omega⟩, y.1, y.2.1, y.2.2.1, y.2.2.2, ?_, ?_⟩
     ·have := hrd.isSome (by decide) (i := j) (by simp; omega)
      unfold ai; split <;> simpa using this
     ·rw [g7]; exact RdK.item hrd hget
     intro w21 e21 w22 e22 w23 e23
     have x21 : Ext wr w21 := (Ext.ao wr).aa e21
     have x22 : Ext wr w22 := x21.af e22 (Nat.le_refl _)
     have x23 : Ext wr w23 := x22.aa e23
     have hz22 : w22.heap.size = wr.heap.size + 1 := by rw [e22, setRow_size, e21]; simp
     have hz23 := cL e23
     have hon : so.n = j := by rw [(hout.rd (by decide)).n, List.length_map, List.length_take]; omega
     have hzw := hmod.size
     obtain ⟨hp, hr⟩ := (hout.ext x23).append (bytes := 24) (news := di y.2) (by omega) rfl (by intro u hu; simp at hu; rcases hu with rfl | rfl | rfl <;> rfl) (by omega) (by omega)
     refine ⟨hp, fun s24 w25 hres => ?_⟩
     obtain ⟨h1, h2, h3, h4, h5⟩ := hr s24 w25 hres
     have hsb : ∀ b, so.ay = some b → b < wr.heap.size := fun b hb => (hout.own.lt hb).2
     have hm25 : Go.Vc.Mod (fun i => so.ay = some i) w23 w25 := ⟨h3.os, h3.tape, h3.output, h3.size, fun i hi hn => h4 i hn hi⟩
     have hsm : so.ay ≠ some m := fun e => by
      have h1 := (hout.own.lt e).1
      have h2 := h.lt m (.inr (.inl rfl)); omega
     refine ⟨h4 _ (fun e => by have := hsb _ e; omega) (by omega), h4 _ (fun e => by have := hsb _ e; omega) (by omega), ?_⟩
     have hm2 : Go.Vc.Mod (fun i => so.ay = some i) wr w25.drew := ((Go.Vc.Mod.aw x23).trans hm25).trans (Go.Vc.Mod.aw (Ext.dr _))
     have hsg : so.ay ≠ some g := fun e => by
      have h1 := (hout.own.lt e).1
      have h2 := h.lt g (.inl rfl); omega
     refine ⟨some m, (hm2.row hrow hsg).at 3 rfl, GC, kvs, mI, rfl, hm2.map hmap hsm, ⟨y.2, rfl⟩, ?_⟩
     intro w29 hrec hmap29
     have hm29 := Go.Vc.Mod.uh hrec
     have hwj : IntKind.wrap .i64 ((j : Int) + 1) = ((j + 1 : Nat) : Int) := by rw [wI]; omega
     rw [hwj]
     refine ⟨n - 1, by omega, j + 1, rfl, by omega, (hmod.tr hm2 (fun i hi => .inr (hout.own.lt hi).1)).trans hm29, ?_, _, hmap29, ?_⟩
     ·have e : (q.l.take (j + 1)).map (fun y => di y.2) = (q.l.take j).map (fun y => di y.2) ++ [di y.2] := by rw [List.take_add_one, hget, List.map_append]; rfl
      rw [e]
      refine hm29.bT (h1.ext (Ext.dr _)) fun b hb hf => ?_
      have hb' : s24.ay = some m := by rw [hb]; exact congrArg some hf
      have := h.lt m (.inr (.inl rfl))
      rcases h5 with h5 | h5
      ·exact hsm (h5 ▸ hb')
      ·rw [h5] at hb'; have : w23.heap.size = m := by simpa using hb'
       omega
     ·have hd := htk.del y.2
      refine hd.perm fun z => ?_
      have hcons : q.l.drop j = y :: q.l.drop (j + 1) := by
       obtain ⟨hlt, he⟩ := List.getElem?_eq_some_iff.1 hget
       rw [List.drop_eq_getElem_cons hlt, he]
      have hnd : ((y :: q.l.drop (j + 1)).map (·.2)).Nodup := by
       rw [← hcons]; exact ((List.drop_sublist j q.l).map _).nodup hq.nodup
      rw [hcons]
      unfold aP
      rw [List.map_cons, List.nodup_cons] at hnd
      constructor
      ·intro hz
       obtain ⟨hz1, hz2⟩ := List.mem_filter.1 hz
       rcases List.mem_cons.1 hz1 with rfl | hz1
       ·simp at hz2
       ·exact hz1
      ·intro hz
       refine List.mem_filter.2 ⟨List.mem_cons_of_mem _ hz, ?_⟩
       have : z.2 ≠ y.2 := fun e => hnd.1 (e ▸ List.mem_map_of_mem hz)
       simpa using this
    ·replace hc := dH hc
     have hjk : j = k := by omega
     subst hjk
     refine ⟨s, hrow.at 2 rfl, (nJ hown hkl (by omega)).mono ?_⟩
     rintro e w31 ⟨s32, rfl, ho32, hm32, hs32⟩
     have hr31 : Row w31 g (lf q s m) du := hm32.row hrow h.uq
     obtain ⟨p1, p2⟩ := hr31.gg (j := 2) (v := .slice s32.a s32.n s32.c) (by simp) rfl
     refine ⟨s32, rfl, ⟨rfl, p1⟩, fun w33 e33 => ?_⟩
     obtain ⟨q1, q2⟩ := p2 w33 e33
     have hso : ∀ b, so.ay = some b → w.heap.size ≤ b := fun b hb => (hout.own.lt hb).1
     refine ⟨so, rfl, s32, ?_, ?_, ?_⟩
     ·unfold nt
      rw [← hkq, List.map_map]
      refine q2.bT (hm32.bT hout fun b hb hf => ?_) fun b hb hf => ?_
      ·have := hso b hb
       have := h.lt b (.inr (.inr hf)); omega
      ·have := hso b hb
       have := h.lt b (.inl hf); omega
     ·unfold nt
      rw [← hkq]
      refine ⟨q1, q2.bT ho32 fun b hb hf => ?_, kvs, q2.map (hm32.map hmap h.lg) (Ne.symm h.jO), htk⟩
      obtain ⟨cs, hr⟩ := av ho32 (by decide) hb
      exact hr.ne hr31 (by decide) hf
     ·refine cE.cm (((hmod.mono fun b _ hb => .inr (.inl hb)).trans (hm32.mono fun b _ hb => .inr (.inr hb))).trans (q2.mono fun b _ hb => .inl hb)) fun b hb => .inl (hs32 ▸ hb))
 ·replace hc := dH hc
  have hkq : k = eC q.l now many := by omega
  (
   refine ⟨s, h.row.at 2 rfl, by omega, by omega, by omega, by omega, fun n x so wr => ∃ j : Nat, x = j ∧ j + n = k ∧ Go.Vc.Mod (fun i => i = m) w wr ∧ ag w.heap.size nI 3 wr so ((q.l.take j).map fun y => di y.2) ∧ ∃ kvs, aO GC wr (some m) kvs ∧ iU kvs (q.l.drop j), ⟨k, 0, rfl, by omega, Go.Vc.Mod.refl _ _, ag.nil, by simpa using h.map⟩, ?_⟩
   rintro n us x so wr ⟨j, rfl, hj, hmod, hout, kvs, hmap, htk⟩
   have hrow : Row wr g (lf q s m) du := hmod.row h.row h.jO
   have hown : ag 0 aS 4 wr s (q.l.map a9) := hmod.bT h.own fun b hb hf => h.lg (by rw [hb]; exact congrArg some hf)
   refine Br.mk (fun hc => ?_) (fun hc => ?_)
   ·replace hc := dj hc
    have hjl : j < q.l.length := by omega
    have hget : q.l[j]? = some (q.l[j]'hjl) := List.getElem?_eq_getElem hjl
    generalize q.l[j]'hjl = y at hget
    have hrd := hown.rd (by decide)
    refine ⟨⟨?_, by omega, by omega⟩, y.1, y.2.1, y.2.2.1, y.2.2.2, ?_, ?_⟩
    ·have := hrd.isSome (by decide) (i := j) (by simp; omega)
     unfold ai; split <;> simpa using this
    ·rw [g7]; exact RdK.item hrd hget
    intro w21 e21 w22 e22 w23 e23
    have x21 : Ext wr w21 := (Ext.ao wr).aa e21
    have x22 : Ext wr w22 := x21.af e22 (Nat.le_refl _)
    have x23 : Ext wr w23 := x22.aa e23
    have hz22 : w22.heap.size = wr.heap.size + 1 := by rw [e22, setRow_size, e21]; simp
    have hz23 := cL e23
    have hon : so.n = j := by rw [(hout.rd (by decide)).n, List.length_map, List.length_take]; omega
    have hzw := hmod.size
    obtain ⟨hp, hr⟩ := (hout.ext x23).append (bytes := 24) (news := di y.2) (by omega) rfl (by intro u hu; simp at hu; rcases hu with rfl | rfl | rfl <;> rfl) (by omega) (by omega)
    refine ⟨hp, fun s24 w25 hres => ?_⟩
    obtain ⟨h1, h2, h3, h4, h5⟩ := hr s24 w25 hres
    have hsb : ∀ b, so.ay = some b → b < wr.heap.size := fun b hb => (hout.own.lt hb).2
    have hm25 : Go.Vc.Mod (fun i => so.ay = some i) w23 w25 := ⟨h3.os, h3.tape, h3.output, h3.size, fun i hi hn => h4 i hn hi⟩
    have hsm : so.ay ≠ some m := fun e => by
     have h1 := (hout.own.lt e).1
     have h2 := h.lt m (.inr (.inl rfl)); omega
    refine ⟨h4 _ (fun e => by have := hsb _ e; omega) (by omega), h4 _ (fun e => by have := hsb _ e; omega) (by omega), ?_⟩
    have hm2 : Go.Vc.Mod (fun i => so.ay = some i) wr w25.drew := ((Go.Vc.Mod.aw x23).trans hm25).trans (Go.Vc.Mod.aw (Ext.dr _))
    have hsg : so.ay ≠ some g := fun e => by
     have h1 := (hout.own.lt e).1
     have h2 := h.lt g (.inl rfl); omega
    refine ⟨some m, (hm2.row hrow hsg).at 3 rfl, GC, kvs, mI, rfl, hm2.map hmap hsm, ⟨y.2, rfl⟩, ?_⟩
    intro w29 hrec hmap29
    have hm29 := Go.Vc.Mod.uh hrec
    have hwj : IntKind.wrap .i64 ((j : Int) + 1) = ((j + 1 : Nat) : Int) := by rw [wI]; omega
    rw [hwj]
    refine ⟨n - 1, by omega, j + 1, rfl, by omega, (hmod.tr hm2 (fun i hi => .inr (hout.own.lt hi).1)).trans hm29, ?_, _, hmap29, ?_⟩
    ·have e : (q.l.take (j + 1)).map (fun y => di y.2) = (q.l.take j).map (fun y => di y.2) ++ [di y.2] := by rw [List.take_add_one, hget, List.map_append]; rfl
     rw [e]
     refine hm29.bT (h1.ext (Ext.dr _)) fun b hb hf => ?_
     have hb' : s24.ay = some m := by rw [hb]; exact congrArg some hf
     have := h.lt m (.inr (.inl rfl))
     rcases h5 with h5 | h5
     ·exact hsm (h5 ▸ hb')
     ·rw [h5] at hb'; have : w23.heap.size = m := by simpa using hb'
      omega
    ·have hd := htk.del y.2
     refine hd.perm fun z => ?_
     have hcons : q.l.drop j = y :: q.l.drop (j + 1) := by
      obtain ⟨hlt, he⟩ := List.getElem?_eq_some_iff.1 hget
      rw [List.drop_eq_getElem_cons hlt, he]
     have hnd : ((y :: q.l.drop (j + 1)).map (·.2)).Nodup := by
      rw [← hcons]; exact ((List.drop_sublist j q.l).map _).nodup hq.nodup
     rw [hcons]
     unfold aP
     rw [List.map_cons, List.nodup_cons] at hnd
     constructor
     ·intro hz
      obtain ⟨hz1, hz2⟩ := List.mem_filter.1 hz
      rcases List.mem_cons.1 hz1 with rfl | hz1
      ·simp at hz2
      ·exact hz1
     ·intro hz
      refine List.mem_filter.2 ⟨List.mem_cons_of_mem _ hz, ?_⟩
      have : z.2 ≠ y.2 := fun e => hnd.1 (e ▸ List.mem_map_of_mem hz)
      simpa using this
   ·replace hc := dH hc
    have hjk : j = k := by omega
    subst hjk
    refine ⟨s, hrow.at 2 rfl, (nJ hown hkl (by omega)).mono ?_⟩
    rintro e w31 ⟨s32, rfl, ho32, hm32, hs32⟩
    have hr31 : Row w31 g (lf q s m) du := hm32.row hrow h.uq
    obtain ⟨p1, p2⟩ := hr31.gg (j := 2) (v := .slice s32.a s32.n s32.c) (by simp) rfl
    refine ⟨s32, rfl, ⟨rfl, p1⟩, fun w33 e33 => ?_⟩
    obtain ⟨q1, q2⟩ := p2 w33 e33
    have hso : ∀ b, so.ay = some b → w.heap.size ≤ b := fun b hb => (hout.own.lt hb).1
    refine ⟨so, rfl, s32, ?_, ?_, ?_⟩
    ·unfold nt
     rw [← hkq, List.map_map]
     refine q2.bT (hm32.bT hout fun b hb hf => ?_) fun b hb hf => ?_
     ·have := hso b hb
      have := h.lt b (.inr (.inr hf)); omega
     ·have := hso b hb
      have := h.lt b (.inl hf); omega
    ·unfold nt
     rw [← hkq]
     refine ⟨q1, q2.bT ho32 fun b hb hf => ?_, kvs, q2.map (hm32.map hmap h.lg) (Ne.symm h.jO), htk⟩
     obtain ⟨cs, hr⟩ := av ho32 (by decide) hb
     exact hr.ne hr31 (by decide) hf
    ·refine cE.cm (((hmod.mono fun b _ hb => .inr (.inl hb)).trans (hm32.mono fun b _ hb => .inr (.inr hb))).trans (q2.mono fun b _ hb => .inl hb)) fun b hb => .inl (hs32 ▸ hb))
end Go.Proofs.YtalpkjfpmdpbiaaGreatDoor.Q
