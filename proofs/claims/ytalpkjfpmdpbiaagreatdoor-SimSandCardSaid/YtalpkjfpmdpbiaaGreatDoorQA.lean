import Derived.Test.YtalpkjfpmdpbiaaGreatDoorGQ
import Derived.Test.YtalpkjfpmdpbiaaGreatDoorLib
import Derived.Test.YtalpkjfpmdpbiaaGreatDoorP
set_option linter.all false
namespace Go.Proofs.YtalpkjfpmdpbiaaGreatDoor.Q
open Go Go.Vc Go.RowKit Go.Proofs Go.kW
set_option maxRecDepth 100000
abbrev mE:TypeId:=23
abbrev aU:TypeId:=120
abbrev ea:TypeId:=158
def GC (v:Value):Prop:=∃c:Cl,v=cv c
theorem lL:dD Tryz.prog mE GC:=by
 refine ⟨?_,?_,?_⟩
 ·rintro x y ⟨a,rfl⟩ ⟨b,rfl⟩
  refine ⟨a.1==b.1 &&(a.2.1==b.2.1 && a.2.2==b.2.2),by kernel_rfl,?_⟩
  simp only [Bool.and_eq_true,beq_iff_eq]
  constructor
  ·rintro ⟨h1,h2,h3⟩
   unfold cv;rw [h1,h2,h3]
  ·intro h
   rw [uW h];simp
 ·rintro x ⟨a,rfl⟩b w
  kernel_rfl
 ·rintro x ⟨a,rfl⟩
  simp [cv,Instr.sameBits]
theorem vv (a : Int) (w : World) : Calls Tryz.prog eo #[a] w fun e w' => e = .returned (.bool false) ∧ w' = w := by
 apply gr.vc
 unfold gr.pre
 simp
theorem yu (a b : Int) (w : World) : Calls Tryz.prog fu #[a, b] w fun e w' => e = .returned (.int .i64 (if a < b then -1 else if b < a then 1 else 0)) ∧ w' = w := by
 apply ib.vc
 refine (vv a w).mono ?_
 rintro e w1 ⟨rfl, rfl⟩
 refine ⟨_, rfl, (vv b w1).mono ?_⟩
 rintro e w2 ⟨rfl, rfl⟩
 refine ⟨_, rfl, Br.mk (fun h => by cases h) (fun _ => Br.mk (fun h => by cases h) (fun _ => Br.mk (fun h => ?_) (fun h => Br.mk (fun h2 => ?_) (fun h2 => ?_))))⟩
 ·replace h := eN h
  rw [if_pos h]; exact ⟨rfl, rfl⟩
 ·simp only [decide_eq_true_eq, decide_eq_false_iff_not] at h h2
  rw [if_neg h, if_pos h2]; exact ⟨rfl, rfl⟩
 ·simp only [decide_eq_false_iff_not] at h h2
  rw [if_neg h, if_neg h2]; exact ⟨rfl, rfl⟩
theorem FA (a b : Int) (g : Nat) (w : World) (hr : Row w g [a, b] 3) :
  Calls Tryz.prog lV #[.slice (some ⟨g, 0, none⟩) 2 2] w fun e w' => e = .returned (.int .i64 (if a = 0 then b else a)) ∧ w' = w := by
 apply (pU.vc (a0 := ⟨some ⟨g, 0, none⟩, 2, 2⟩))
 refine ⟨fun n x wr => wr = w ∧ ∃ k : Nat, x = k ∧ k + n = 2 ∧ (1 ≤ k → a = 0) ∧ (2 ≤ k → b = 0), ⟨2, rfl, 0, rfl, rfl, by omega, by omega⟩, ?_⟩
 rintro n us x wr ⟨rfl, k, rfl, hk, h1, h2⟩
 have hw := ag (n := (k : Int) + 1) (by unfold inI; omega)
 rw [hw]
 refine Br.mk (fun h => ?_) (fun h => ?_) <;> simp only [decide_eq_true_eq, decide_eq_false_iff_not] at h
 ·refine ⟨⟨rfl, by omega, by omega⟩, if k = 0 then a else b, ?_, Br.mk (fun h3 => ?_) (fun h3 => ?_)⟩
  ·show ld wr (ae (some ⟨g, 0, none⟩) _) = _
   rw [aP, hr.ld]
   have : k = 0 ∨ k = 1 := by simp at h; omega
   rcases this with rfl | rfl <;> rfl
  ·simp only [bne_iff_ne, ne_eq] at h3
   have : k = 0 ∨ k = 1 := by simp at h; omega
   rcases this with rfl | rfl
   ·rw [if_pos rfl] at h3 ⊢
    rw [if_neg h3]; exact ⟨rfl, rfl⟩
   ·rw [if_neg (show ¬((1 : Nat) = 0) by omega)] at h3 ⊢
    rw [if_pos (h1 (by omega))]; exact ⟨rfl, rfl⟩
  ·simp only [bne_eq_false_iff_eq] at h3
   have : k = 0 ∨ k = 1 := by simp at h; omega
   rcases this with rfl | rfl
   ·rw [if_pos rfl] at h3
    exact ⟨n - 1, by omega, rfl, 1, by omega, by omega, fun _ => h3, by omega⟩
   ·rw [if_neg (show ¬((1 : Nat) = 0) by omega)] at h3
    exact ⟨n - 1, by omega, rfl, 2, by omega, by omega, fun _ => h1 (by omega), fun _ => h3⟩
 ·have : k = 2 := by simp at h; omega
  subst this
  rw [if_pos (h1 (by omega)), h2 (by omega)]; exact ⟨rfl, rfl⟩
theorem vu (x y : It) (w : World) : Calls Tryz.prog gL #[.agg (dJ x).toArray, .agg (dJ y).toArray] w fun e w' => (∃ z : Int, e = .returned z ∧ (z < 0 ↔ x.1 ≤ y.1)) ∧ Ext w w' := by
 apply eM.vc
 intro w0 e0 w1 e1
 have x1 : Ext w w1 := by rw [e1, e0]; exact (Ext.al _ _).tr (Ext.al _ _)
 refine (yu x.1 y.1 _).mono ?_
 intro e w2 hh
 obtain ⟨rfl, ew⟩ := hh
 have x2 : Ext w w2 := by rw [ew]; exact x1
 refine ⟨_, rfl, by rw [ew], by rw [ew], ?_⟩
 intro w4 e4
 have x4 : Ext w w4 := x2.ab e4
 have hrow : Row w4 w2.heap.size [.int .i64 (if x.1 < y.1 then -1 else if y.1 < x.1 then 1 else 0), .int .i64 (-1)] 3 := by
  rw [e4]; exact Row.new w2 [_, _] _
 refine (FA _ _ _ _ hrow).mono ?_
 intro e w5 hh
 obtain ⟨rfl, ew5⟩ := hh
 refine ⟨_, rfl, by rw [ew5], by rw [ew5], ⟨_, rfl, ?_⟩, by rw [ew5]; exact x4⟩
 by_cases h1 : x.1 < y.1
 ·rw [if_pos h1]; simp; omega
 ·by_cases h2 : y.1 < x.1
  ·rw [if_neg h1, if_pos h2]; simp; omega
  ·rw [if_neg h1, if_neg h2]; simp; omega
end Go.Proofs.YtalpkjfpmdpbiaaGreatDoor.Q
namespace Go.Proofs.YtalpkjfpmdpbiaaGreatDoor.Q
open Go Go.Vc Go.RowKit Go.Proofs Go.kW
set_option maxRecDepth 100000
theorem cz (l:List It):∀r ∈ l.map dJ,r.length=4:=by
 intro r hr;obtain ⟨x,_,rfl⟩:=List.mem_map.1 hr;rfl
theorem gA (l:List It):∀r ∈ l.map dJ,One r:=by
 intro r hr;obtain ⟨x,_,rfl⟩:=List.mem_map.1 hr
 intro u hu;simp at hu
 rcases hu with rfl|rfl|rfl|rfl<;>rfl
theorem nY (x:It):One (dJ x):=by
 intro u hu;simp at hu
 rcases hu with rfl|rfl|rfl|rfl<;>rfl
theorem wx (l:List It) (i:Nat):(l.map dJ).flatten.take (i*4)=((l.take i).map dJ).flatten:=by
 have hw:=cz (l.take i)
 rcases Nat.lt_or_ge i l.length with h|h
 ·conv=>lhs;rw [<-List.take_append_drop i l,List.map_append,List.flatten_append]
  rw [List.take_left' (by rw [aL hw];simp;omega)]
 ·rw [List.take_of_length_le h,List.take_of_length_le]
  rw [aL (cz l)];simp;omega
theorem wy (l:List It) (i:Nat):(l.map dJ).flatten.drop (i*4)=((l.drop i).map dJ).flatten:=by
 rcases Nat.lt_or_ge i l.length with h|h
 ·conv=>lhs;rw [<-List.take_append_drop i l,List.map_append,List.flatten_append]
  rw [List.drop_left' (by rw [aL (cz _)];simp;omega)]
 ·rw [List.drop_of_length_le h,List.drop_of_length_le]
  ·rfl
  ·rw [aL (cz l)];simp;omega
theorem ue {cs:List Value} {l:List It} {n:Nat} (ht:cs.take (n*4)=(l.map dJ).flatten) (hn:n=l.length) (i j:Nat) (hj:j<((l.drop i).map dJ).flatten.length):cs[i*4+j]? =((l.drop i).map dJ).flatten[j]? :=by
 rw [<-wy,List.getElem?_drop,<-ht,List.getElem?_take,if_pos]
 rw [aL (cz _)]at hj
 simp at hj
 omega
set_option maxRecDepth 100000 in
theorem vR {w : World} {g g' : Nat} {x cs : List Value} (hx : Row w g x aU) (hr : Row w g' cs aU) (hne : g ≠ g') (hc : cs.length ≠ 0) (o : Nat) (la ca lb cb : Nat) {R : Ending → World → Prop} (h : R (.returned (.bool false)) w) :
  Eu Tryz.prog 222 [.slice (some ⟨g, 0, none⟩) la ca, .slice (some ⟨g', o, none⟩) lb cb] w R := by
 refine ⟨_, ⟨_, rfl, by kernel_rfl, by kernel_rfl, by kernel_rfl⟩, _, _, Lib.run_overlaps_apart w 61 0 aU (by kernel_rfl) 4 (fun w => by kernel_rfl) ⟨g, 0, none⟩ ⟨g', o, none⟩ la ca lb cb hne aU aU x.length cs.length ?_ ?_ hc ?_ ?_, h⟩
 ·simp [World.shape?, show w.heap[g]? = _ from hx]
 ·simp [World.shape?, show w.heap[g']? = _ from hr]
 ·simp [World.frozen?, show w.heap[g]? = _ from hx]
 ·simp [World.frozen?, show w.heap[g]? = _ from hx]
theorem uT {w : World} {g g' : Nat} {x cs : List Value} (hx : Row w g x aU) (hr : Row w g' cs aU) (hne : g ≠ g') (hc : cs.length ≠ 0) {p : Option Addr} {o : Nat} (hp : p = some ⟨g', o, none⟩) (la ca lb cb : Nat) {R : Ending → World → Prop} (h : R (.returned (.bool false)) w) :
  Eu Tryz.prog 222 [.slice (some ⟨g, 0, none⟩) la ca, .slice p lb cb] w R := by
 subst hp; exact vR hx hr hne hc o la ca lb cb h
end Go.Proofs.YtalpkjfpmdpbiaaGreatDoor.Q
namespace Go.Proofs.YtalpkjfpmdpbiaaGreatDoor.Q
open Go Go.Vc Go.RowKit Go.Proofs Go.kW
set_option maxRecDepth 100000
theorem sK (n : Nat) : aE [(0:Int), (0:Int), (0:Int), (0:Int)] n = ((List.replicate n ((0, 0, 0, 0) : It)).map dJ).flatten := by
 unfold aE; simp
theorem zk {w : World} {s : Sl} {l : List It} {i g : Nat} {x : It} (ho : af 0 aU 4 w s (l.map dJ)) (hx : Row w g (dJ x) aU) (hi : i ≤ l.length) (hl : l.length ≤ 5000) (hne : s.ax ≠ some g) :
  Calls Tryz.prog dI #[s, .int .i64 (i : Int), .slice (some ⟨g, 0, none⟩) 1 1] w fun e w' => ∃ s' : Sl, e = .returned (.slice s'.a s'.n s'.c) ∧ af 0 aU 4 w' s' ((l.take i ++ x :: l.drop i).map dJ) ∧ Mod (fun b => s.ax = some b) w w' ∧ (∀ b, s'.ax = some b → s.ax = some b ∨ w.heap.size ≤ b) := by
 have hn : s.n = l.length := by rw [(ho.rd (by decide)).n, List.length_map]
 apply cU.vc (a2 := ⟨some ⟨g, 0, none⟩, 1, 1⟩)
 have hw1 : IntKind.wrap .i64 (((s.n : Nat) : Int) + ((1 : Nat) : Int)) = ((s.n + 1 : Nat) : Int) := by rw [wI]; omega
 have hw2 : IntKind.wrap .i64 ((i : Int) + ((1 : Nat) : Int)) = ((i + 1 : Nat) : Int) := by rw [wI]; omega
 have hw3 : IntKind.wrap .i64 (((s.n + 1 : Nat) : Int) - (i : Int)) = ((s.n + 1 - i : Nat) : Int) := by rw [wI]; omega
 have hw4 : IntKind.wrap .i64 ((s.n + 1 - i : Nat) : Int) = ((s.n + 1 - i : Nat) : Int) := wI
 have hrx : Rd w (some ⟨g, 0, none⟩) (dJ x) := hx.HJ fun j hj => rfl
 unfold cU.pre
 dsimp only
 rw [hw1, hw2, hw3, hw4]
 simp only [Int.toNat_natCast, Nat.sub_zero, bR]
 refine ⟨by omega, by omega, Br.mk (fun h => by cases h) (fun _ => Br.mk (fun h => ?_) (fun h => ?_))⟩
 ·
  have he : i = l.length := by simp at h; omega
  obtain ⟨hp, hr⟩ := ho.append (bytes := 32) (news := dJ x) (Nat.zero_le _) rfl (nY x) (by omega) (by omega)
  refine ⟨dJ x, hrx, hp, fun s' w' hres => ?_⟩
  obtain ⟨h1, h2, h3, h4, h5⟩ := hr s' w' hres
  refine ⟨s', rfl, ?_, Mod.oT h3 h4, ?_⟩
  ·rw [he, List.take_length, List.drop_length, List.map_append]; exact h1
  ·intro b hb
   rcases h5 with h5 | h5
   ·exact .inl (h5 ▸ hb)
   ·rw [h5] at hb; cases hb; exact .inr (Nat.le_refl _)
 ·have hlt : i < l.length := by
   have : i ≠ l.length := fun e => by subst e; simp [hn] at h
   omega
  rcases ho.form (by decide) with ⟨hs, hnil⟩ | ⟨g0, cs, ha, hg0, hr, hc, hnc, ht, hn'⟩
  ·have : l = [] := by simpa using hnil
   subst this; simp at hlt
  have hneg : g0 ≠ g := fun e => hne (by unfold Sl.ax; rw [ha, e]; rfl)
  have hblk : s.ax = some g0 := by unfold Sl.ax; rw [ha]; rfl
  have htk : cs.take (i * 4) = ((l.take i).map dJ).flatten := by
   rw [← wx, ← ht, List.take_take, Nat.min_eq_left (by omega)]
  rw [ha]
  refine Br.mk (fun h2 => ?_) (fun h2 => ?_)
  ·
   replace h2 := eN h2
   have hpre : af 0 aU 4 w ⟨some ⟨g0, 0, none⟩, i, s.c⟩ ((l.take i).map dJ) := af.gP (Nat.zero_le _) hr hc (by omega) htk (cz _)
   obtain ⟨hp, -⟩ := hpre.yQ (bytes := 32) (more := (List.replicate (s.n + 1 - i) ((0, 0, 0, 0) : It)).map dJ) (Nat.zero_le _) (cz _) (gA _) (by simp; omega) (by simp; omega)
   have hlen : ((List.replicate (s.n + 1 - i) ((0, 0, 0, 0) : It)).map dJ).length = s.n + 1 - i := by simp
   rw [hlen] at hp
   rw [sK]
   refine ⟨by omega, by omega, ⟨by omega, trivial, by omega⟩, hp, fun s3 w4 hres => ?_⟩
   generalize hz : ((List.replicate (s.n + 1 - i) ((0, 0, 0, 0) : It)).map dJ).flatten = zs at hres
   have hzl : zs.length = (s.n + 1 - i) * 4 := by rw [← hz, aL (cz _)]; simp
   cases hres with
   | fits hf => simp only at hf; omega
   | sD hg bZ rest cap q1 q2 q3 q4 =>
     simp only at q1 q2 q3
     have hold : bZ = cs.take (i * 4) := by
      refine CD q2 (hr.HJ (vs := cs.take (i * 4)) fun j hj => ?_) ?_
      ·rw [List.length_take] at hj
       rw [List.getElem?_take, if_pos (by omega)]
      ·rw [q1, List.length_take]; omega
     have hR : Row (w.drew.alloc (.cells (bZ ++ zs ++ rest).toArray aU)) w.heap.size (bZ ++ zs ++ rest) aU := Row.new w.drew _ _
     generalize hw4' : w.drew.alloc (.cells (bZ ++ zs ++ rest).toArray aU) = w4 at hR
     have x4 : Ext w w4 := by rw [← hw4']; exact (Ext.dr w).tr (Ext.al _ _)
     have hr4 := hr.ext x4
     have hlt0 := hr.lt
     have hn3 : i + (s.n + 1 - i) = s.n + 1 := by omega
     have hCl : (s.n + 1) * 4 ≤ (bZ ++ zs ++ rest).length := by rw [q4]; exact Nat.mul_le_mul_right _ (by omega)
     dsimp only
     rw [hn3]
     have hx4 := hx.ext x4
     have hsl : ((l.drop i).map dJ).flatten.length = (s.n - i) * 4 := by rw [aL (cz _)]; simp; omega
     have hm1 : min 1 (s.n + 1 - i) * 4 = 4 := by have : min 1 (s.n + 1 - i) = 1 := by omega
                                                  rw [this]
     have hm2 : min (s.n - i) (s.n + 1 - (i + 1)) = s.n - i := by omega
     obtain ⟨p1, p2, p3⟩ := hR.Ef (vs := dJ x) (l := i) (m := cap) (size := 4) (by intro e; omega) (by simp; omega) (nY x)
     refine ⟨by omega, by omega, dJ x, ⟨hm1.symm, hx4.HJ fun j hj => rfl, nY x, p1⟩, ?_⟩
     intro w6 e6
     rw [← e6] at p2 p3
     have hr6 : Row w6.drew g0 cs aU := (p3.row hr4 (by omega)).ext (Ext.dr _)
     have p2' : Row w6.drew w.heap.size _ aU := p2.ext (Ext.dr _)
     obtain ⟨u1, u2, u3⟩ := p2'.Ef (vs := ((l.drop i).map dJ).flatten) (l := i + 1) (m := cap) (size := 4) (by intro e; rw [List.drop_of_length_le (by omega)]; rfl) (by rw [hsl, Go.Vc.aZ]; omega) (cl (gA _))
     refine ⟨by omega, by omega, by omega, by omega, ((l.drop i).map dJ).flatten, ⟨by rw [hm2, hsl], hr6.HG (by intro e; rw [List.drop_of_length_le (by omega)]; rfl) (ue ht hn i), cl (gA _), u1⟩, ?_⟩
     intro w8 e8
     rw [← e8] at u2 u3
     refine ⟨⟨some ⟨w.heap.size, 0, none⟩, s.n + 1, cap⟩, rfl, af.gP (Nat.zero_le _) u2 (by rw [Go.Vc.aZ, Go.Vc.aZ, q4]; exact Nat.le_refl _) (by omega) ?_ (cz _), ?_, ?_⟩
     ·rw [Ft (by simp; omega) (by rw [hsl]; omega) hCl, List.append_assoc, List.append_assoc, List.take_left' (by rw [q1]), hold, htk]
      simp
     ·refine ((Mod.ar x4).tr p3 (fun b hb => .inr (by omega))).tr (F' := fun b => b = w.heap.size) ?_ (fun b hb => .inr (by omega))
      exact (Mod.ar (Ext.dr _)).trans u3
     ·intro b hb
      have : w.heap.size = b := by simpa [Sl.ax] using hb
      exact .inr (by omega)
  ·
   replace h2 := eO h2
   have hCl : (s.n + 1) * 4 ≤ cs.length := Nat.le_trans (Nat.mul_le_mul_right _ (by omega)) hc
   have hsl : ((l.drop i).map dJ).flatten.length = (s.n - i) * 4 := by rw [aL (cz _)]; simp; omega
   refine ⟨by omega, by omega, by omega, by omega, ?_⟩
   refine uT hx hr (Ne.symm hneg) (by omega) (by rw [k9, if_neg (by omega)]) _ _ _ _ ⟨_, rfl, Br.mk (fun _ => ?_) (fun h => by cases h)⟩
   have hm2 : min (s.n + 1 - i) (s.n + 1 - (i + 1)) = s.n - i := by omega
   have hm1 : min 1 (s.n + 1 - i) * 4 = 4 := by have : min 1 (s.n + 1 - i) = 1 := by omega
                                                rw [this]
   have hr' := hr.ext (Ext.dr w)
   obtain ⟨u1, u2, u3⟩ := hr'.Ef (vs := ((l.drop i).map dJ).flatten) (l := i + 1) (m := s.c) (size := 4) (by intro e; omega) (by rw [hsl]; omega) (cl (gA _))
   refine ⟨by omega, by omega, by omega, by omega, ((l.drop i).map dJ).flatten, ⟨by rw [hm2, hsl], hr'.HG (by intro e; omega) (ue ht hn i), cl (gA _), u1⟩, ?_⟩
   intro w12 e12
   rw [← e12] at u2 u3
   obtain ⟨p1, p2, p3⟩ := u2.Ef (vs := dJ x) (l := i) (m := s.c) (size := 4) (by intro e; omega) (by rw [Go.Vc.aZ]; simp; omega) (nY x)
   have hx12 : Row w12 g (dJ x) aU := u3.row (hx.ext (Ext.dr w)) (Ne.symm hneg)
   refine ⟨by omega, by omega, dJ x, ⟨hm1.symm, hx12.HJ fun j hj => rfl, nY x, p1⟩, ?_⟩
   intro w14 e14
   rw [← e14] at p2 p3
   refine ⟨⟨some ⟨g0, 0, none⟩, s.n + 1, s.c⟩, rfl, af.gP (Nat.zero_le _) p2 (by rw [Go.Vc.aZ, Go.Vc.aZ]; exact hc) (by omega) ?_ (cz _), ?_, ?_⟩
   ·rw [Dv (by simp; omega) (by rw [hsl]; omega) hCl, htk]
    simp
   ·refine (((Mod.ar (Ext.dr w)).trans u3).trans p3).mono fun b _ hb => ?_
    rw [hblk, hb]
   ·intro b hb; exact .inl (hblk.trans hb)
end Go.Proofs.YtalpkjfpmdpbiaaGreatDoor.Q
namespace Go.Proofs.YtalpkjfpmdpbiaaGreatDoor.Q
open Go Go.Vc Go.RowKit Go.Proofs Go.kW
set_option maxRecDepth 100000
theorem ba.item {w : World} {s : Sl} {l : List It} (h : ba w s 4 (l.map dJ)) {i : Nat} {x : It} (hi : l[i]? = some x) : aj w (ae s.a (i * 4)) 0 (dJ x) :=
 h.aX (by rw [List.getElem?_map, hi]; rfl)
theorem EP {w : World} {s : Sl} {l : List It} (x : It) (h : ba w s 4 (l.map dJ)) (hs : l.Pairwise fun a b => a.1 ≤ b.1) (hl : l.length ≤ 5000) :
  Calls Tryz.prog bA #[s, .agg (dJ x).toArray, .func (.func 180) #[] #[]] w fun e w' => (∃ b, e = .returned (.tuple #[.int .i64 ((l.takeWhile fun y => y.1 ≤ x.1).length : Nat), .bool b])) ∧ Ext w w' := by
 have hn : s.n = l.length := by rw [h.n, List.length_map]
 apply bJ.vc
 intro w0 e0
 have x0 : Ext w w0 := (Ext.aq w).ab e0
 have Ap : w0.heap.size = w.heap.size + 1 := by rw [e0]; simp [World.alloc_eq]
 have hk : (l.takeWhile fun y => decide (y.1 ≤ x.1)).length ≤ l.length := (List.takeWhile_sublist _).length_le
 generalize hkk : (l.takeWhile fun y => decide (y.1 ≤ x.1)).length = k at hk
 have hat : ∀ {i : Nat} {y : It}, l[i]? = some y → (i < k ↔ y.1 ≤ x.1) := fun hi => by rw [← hkk]; exact qE hs x.1 hi
 refine ⟨fun n a b wr => Ext w0 wr ∧ ∃ lo hi : Nat, a = lo ∧ b = hi ∧ lo ≤ k ∧ k ≤ hi ∧ hi ≤ l.length ∧ n = hi - lo, ⟨_, rfl, Ext.aq _, 0, s.n, rfl, rfl, Nat.zero_le _, by omega, by omega, rfl⟩, ?_⟩
 rintro n us a b wr ⟨xr, lo, hi, rfl, rfl, h1, h2, h3, rfl⟩
 refine Br.mk (fun hlt => ?_) (fun hge => ?_) <;> simp only [decide_eq_true_eq, decide_eq_false_iff_not] at *
 ·rw [Ii (by omega)]
  have hmid : (lo + hi) / 2 < l.length := by omega
  have hget : l[(lo + hi) / 2]? = some l[(lo + hi) / 2] := List.getElem?_eq_getElem hmid
  generalize l[(lo + hi) / 2] = y at hget
  have hr := (h.ext (x0.tr xr)).ext (Ext.dr wr)
  have hsz := xr.size
  refine ⟨⟨?_, by omega, by omega⟩, y.1, y.2.1, y.2.2.1, y.2.2.2, ba.item hr hget, ?_⟩
  ·exact h.isSome (by decide) (i := (lo + hi) / 2) (by simpa using hmid)
  refine fc (by kernel_rfl) rfl ((vu y x _).mono ?_)
  rintro e w2 ⟨⟨z, rfl, hz⟩, x2⟩
  have hz' := (hat hget).trans hz.symm
  have x3 := (xr.tr (Ext.dr wr)).tr x2
  refine ⟨z, rfl, (x2.heap ?_), Br.mk (fun hb => ?_) (fun hb => ?_)⟩
  ·show w.heap.size < wr.heap.size
   omega
  ·replace hb := eN hb
   have := hz'.2 hb
   have hw : IntKind.wrap .i64 ((((lo + hi) / 2 : Nat) : Int) + 1) = (((lo + hi) / 2 + 1 : Nat) : Int) := by rw [wI]; omega
   rw [hw]
   exact ⟨_, by omega, trivial, x3, (lo + hi) / 2 + 1, hi, rfl, rfl, by omega, h2, h3, rfl⟩
  ·replace hb := eO hb
   have : ¬ (lo + hi) / 2 < k := fun h => hb (hz'.1 h)
   exact ⟨_, by omega, trivial, x3, lo, (lo + hi) / 2, rfl, rfl, h1, by omega, by omega, rfl⟩
 ·have : lo = k := by omega
  subst this
  have hr := (h.ext (x0.tr xr)).ext (Ext.dr wr)
  have hsz := xr.size
  refine Br.mk (fun hb => ?_) (fun hb => ⟨⟨_, rfl⟩, x0.tr (xr.tr (Ext.dr _))⟩)
  replace hb := eN hb
  have hget : l[lo]? = some (l[lo]'(by omega)) := List.getElem?_eq_getElem (by omega)
  generalize l[lo]'(by omega) = y at hget
  refine ⟨⟨h.isSome (by decide) (i := lo) (by simp; omega), by omega, by omega⟩, y.1, y.2.1, y.2.2.1, y.2.2.2, ba.item hr hget, ?_⟩
  refine fc (by kernel_rfl) rfl ((vu y x _).mono ?_)
  rintro e w2 ⟨⟨z, rfl, hz⟩, x2⟩
  refine ⟨z, rfl, x2.heap (show w.heap.size < wr.heap.size by omega), ⟨_, rfl⟩, (x0.tr (xr.tr (Ext.dr wr))).tr x2⟩
theorem ud (x : It) {b : Nat} {c : Cl} {w : World} (hb : Row w b (dp c) mE) : Calls Tryz.prog gK #[.agg (dJ x).toArray, .pointer (some ⟨b, 0, none⟩)] w fun e w' => e = .returned (.bool (x.2 == c)) ∧ Ext w w' := by
 apply eL.vc
 intro w0 e0
 have x0 : Ext w w0 := (Ext.aq w).ab e0
 exact ⟨c.1, c.2.1, c.2.2, (hb.ext x0).aX (fun j hj => by rw [Nat.zero_add]), rfl, x0⟩
theorem AB {w : World} {s : Sl} {l : List It} {b : Nat} {c : Cl} (h : ba w s 4 (l.map dJ)) (hb : Row w b (dp c) mE) (hl : l.length ≤ 5000) :
  Calls Tryz.prog cH #[s, .func (.func 178) #[] #[.pointer (some ⟨b, 0, none⟩)]] w fun e w' => (∃ i : Int, e = .returned i ∧ ((i = -1 ∧ ∀ x ∈ l, x.2 ≠ c) ∨ ∃ k : Nat, i = k ∧ k < l.length ∧ (∀ x ∈ l.take k, x.2 ≠ c) ∧ ∀ x, l[k]? = some x → x.2 = c)) ∧ Ext w w' := by
 have hn : s.n = l.length := by rw [h.n, List.length_map]
 apply dc.vc
 refine ⟨fun n a wr => Ext w wr ∧ ∃ k : Nat, a = k ∧ k + n = l.length ∧ (∀ x ∈ l.take k, x.2 ≠ c), ⟨l.length, Ext.aq _, 0, rfl, by omega, by simp⟩, ?_⟩
 rintro n us a wr ⟨xr, k, rfl, h1, h2⟩
 refine Br.mk (fun hlt => ?_) (fun hge => ?_) <;> simp only [decide_eq_true_eq, decide_eq_false_iff_not] at *
 ·have hget : l[k]? = some (l[k]'(by omega)) := List.getElem?_eq_getElem (by omega)
  generalize l[k]'(by omega) = y at hget
  refine ⟨⟨h.isSome (by decide) (i := k) (by simp; omega), by omega, by omega⟩, y.1, y.2.1, y.2.2.1, y.2.2.2, ba.item (h.ext xr) hget, ?_⟩
  refine fc (by kernel_rfl) rfl ((ud y (hb.ext xr)).mono ?_)
  rintro e w2 ⟨rfl, x2⟩
  refine ⟨_, rfl, Br.mk (fun hb => ?_) (fun hb => ?_)⟩
  ·refine ⟨⟨_, rfl, .inr ⟨k, rfl, by omega, h2, fun x hx => ?_⟩⟩, xr.tr x2⟩
   rw [hget] at hx; cases hx; simpa using hb
  ·have hw : IntKind.wrap .i64 ((k : Int) + 1) = ((k + 1 : Nat) : Int) := by rw [wI]; omega
   rw [hw]
   refine ⟨n - 1, by omega, xr.tr x2, k + 1, rfl, by omega, fun x hx => ?_⟩
   rw [List.take_add_one, hget] at hx
   rcases List.mem_append.1 hx with hx | hx
   ·exact h2 x hx
   ·simp at hx; subst hx; simpa using hb
 ·refine ⟨⟨_, rfl, .inl ⟨rfl, ?_⟩⟩, xr⟩
  rw [List.take_of_length_le (by omega)] at h2
  exact h2
end Go.Proofs.YtalpkjfpmdpbiaaGreatDoor.Q
namespace Go.Proofs.YtalpkjfpmdpbiaaGreatDoor.Q
open Go Go.Vc Go.RowKit Go.Proofs Go.kW
set_option maxRecDepth 100000
theorem uc {w : World} {s : Sl} {l : List It} (ho : af 0 aU 4 w s (l.map dJ)) {i : Nat} (hi : i ≤ l.length) :
  Wr w (ai s.a i s.c 4) ((s.n - i) * 4) ∧ ∀ w', w' = aA w (ai s.a i s.c 4) (aE [(0:Int), (0:Int), (0:Int), (0:Int)] (s.n - i)) →
   af 0 aU 4 w' ⟨s.a, i, s.c⟩ ((l.take i).map dJ) ∧ Mod (fun b => s.ax = some b) w w' := by
 have hn : s.n = l.length := by rw [(ho.rd (by decide)).n, List.length_map]
 rw [sK]
 rcases ho.form (by decide) with ⟨hs, hnil⟩ | ⟨g0, cs, ha, hg0, hr, hc, hnc, ht, hn'⟩
 ·have : l = [] := by simpa using hnil
  subst this
  have : i = 0 := by simpa using hi
  subst this
  subst hs
  refine ⟨fun j hj => by simp at hj, fun w' e => ?_⟩
  have : w' = w := by rw [e]; rfl
  subst this
  exact ⟨af.nil, Mod.refl _ _⟩
 ·have hblk : s.ax = some g0 := by unfold Sl.ax; rw [ha]; rfl
  have hzl : ((List.replicate (s.n - i) ((0, 0, 0, 0) : It)).map dJ).flatten.length = (s.n - i) * 4 := by rw [aL (cz _)]; simp
  have hcl : s.n * 4 ≤ cs.length := Nat.le_trans (Nat.mul_le_mul_right _ hnc) hc
  rw [ha]
  have hz0 : s.c = i → ((List.replicate (s.n - i) ((0, 0, 0, 0) : It)).map dJ).flatten = [] := fun e => by
   have : s.n - i = 0 := by omega
   rw [this]; rfl
  obtain ⟨p1, p2, p3⟩ := hr.Ef (l := i) (m := s.c) (size := 4) hz0 (by rw [hzl]; omega) (cl (gA _))
  rw [hzl] at p1
  refine ⟨p1, fun w' e => ?_⟩
  rw [← e] at p2 p3
  refine ⟨af.gP (Nat.zero_le _) p2 (by rw [Go.Vc.aZ]; exact hc) (by omega) ?_ (cz _), p3.mono fun b _ hb => by rw [hblk, hb]⟩
  rw [bo _ _ _ (by rw [hzl]; omega), List.append_assoc, List.take_left' (by rw [List.length_take]; omega), ← wx, ← ht, List.take_take, Nat.min_eq_left (by omega)]
theorem Eg {w : World} {s : Sl} {l : List It} (ho : af 0 aU 4 w s (l.map dJ)) {i : Nat} (hi : i < l.length) (x : It) :
  (ae s.a (i * 4)).isSome = true ∧ Wr w (ae s.a (i * 4)) 4 ∧ ∀ w', w' = aA w (ae s.a (i * 4)) (dJ x) → af 0 aU 4 w' s ((l.set i x).map dJ) ∧ Mod (fun b => s.ax = some b) w w' := by
 obtain ⟨h1, h2, h3, h4, h5⟩ := ho.put (i := i) (r := dJ x) (by simpa using hi) (by decide) rfl (nY x)
 refine ⟨h1, h2, fun w' e => ?_⟩
 subst e
 exact ⟨by rw [List.map_set]; exact h3, h4.os, h4.tape, h4.output, h4.size, fun j _ hn => h5 j hn⟩
theorem tj {w : World} {s : Sl} {l : List It} {b : Nat} {c : Cl} (ho : af 0 aU 4 w s (l.map dJ)) (hb : Row w b (dp c) mE) (hl : l.length ≤ 5000) :
  Calls Tryz.prog ct #[s, .func (.func 178) #[] #[.pointer (some ⟨b, 0, none⟩)]] w fun e w' => ∃ s' : Sl, e = .returned s' ∧ af 0 aU 4 w' s' ((cF l c).map dJ) ∧ Mod (fun b => s.ax = some b) w w' ∧ s'.ax = s.ax := by
 have hn : s.n = l.length := by rw [(ho.rd (by decide)).n, List.length_map]
 have hsb : s.ax ≠ some b := fun e => by
  rcases ho.form (by decide) with ⟨hs, hnil⟩ | ⟨g0, cs, ha, hg0, hr, hc, hnc, ht, hn'⟩
  ·rw [hs] at e; cases e
  ·have : g0 = b := by unfold Sl.ax at e; rw [ha] at e; simpa using e
   exact hr.ne hb (by decide) this
 apply cM.vc
 refine (AB (ho.rd (by decide)) hb hl).mono ?_
 rintro e w1 ⟨⟨i, rfl, hi⟩, x1⟩
 refine ⟨i, rfl, Br.mk (fun h => ?_) (fun h => ?_)⟩
 ·have hm : i = -1 := by simpa using h
  rcases hi with ⟨-, hall⟩ | ⟨k, hk, -⟩
  ·refine ⟨s, rfl, ?_, Mod.ar x1, rfl⟩
   have : cF l c = l := by
    unfold cF; rw [List.filter_eq_self]; intro x hx; simpa using hall x hx
   rw [this]; exact ho.ext x1
  ·omega
 ·have hm : i ≠ -1 := by simpa using h
  rcases hi with ⟨hi, -⟩ | ⟨k, rfl, hk, hfst, hkc⟩
  ·exact absurd hi hm
  have hw : IntKind.wrap .i64 ((k : Int) + 1) = ((k + 1 : Nat) : Int) := by rw [wI]; omega
  have hq : cF (l.take (k + 1)) c = l.take k := by
   unfold cF
   rw [List.take_add_one, List.filter_append]
   have e1 : (l.take k).filter (fun x => x.2 != c) = l.take k := by rw [List.filter_eq_self]; intro x hx; simpa using hfst x hx
   have hget : l[k]? = some (l[k]'hk) := List.getElem?_eq_getElem hk
   have := hkc _ hget
   rw [e1, hget]; simp [this]
  refine ⟨fun n a d wr => Mod (fun b => s.ax = some b) w wr ∧ ∃ (j m : Nat) (l' : List It), a = j ∧ d = m ∧ j + n = l.length ∧ m < j ∧ m = (cF (l.take j) c).length ∧ af 0 aU 4 wr s (l'.map dJ) ∧ l'.length = l.length ∧ l'.take m = cF (l.take j) c ∧ l'.drop j = l.drop j, ⟨l.length - (k + 1), Mod.ar x1, k + 1, k, l, hw, rfl, by omega, by omega, ?_, ho.ext x1, rfl, hq.symm, rfl⟩, ?_⟩
  ·rw [hq, List.length_take]; omega
  rintro n us a d wr ⟨hmod, j, m, l', rfl, rfl, h1, h2, h3, ho', h4, h5, h6⟩
  have hbr : Row wr b (dp c) mE := hmod.row hb hsb
  refine Br.mk (fun hlt => ?_) (fun hge => ?_)
  ·replace hlt := eN hlt
   have hget : l[j]? = some (l[j]'(by omega)) := List.getElem?_eq_getElem (by omega)
   generalize l[j]'(by omega) = y at hget
   have hget' : l'[j]? = some y := by
    have := congrArg (fun q : List It => q[0]?) h6
    simpa [List.getElem?_drop, hget] using this
   refine ⟨⟨(ho'.rd (by decide)).isSome (by decide) (i := j) (by simp; omega), by omega, by omega⟩, y.1, y.2.1, y.2.2.1, y.2.2.2, ba.item (ho'.rd (by decide)) hget', ?_⟩
   intro w13 e13 w14 e14
   have x14 : Ext wr w14 := (Ext.aq wr |>.ab e13).ah e14 (Nat.le_refl _)
   have hs14 : wr.heap.size < w14.heap.size := by rw [e14, setRow_size, e13]; simp
   refine fc (by kernel_rfl) rfl ((ud y (hbr.ext x14)).mono ?_)
   rintro e w2 ⟨rfl, x2⟩
   have x3 := x14.tr x2
   have hwj : IntKind.wrap .i64 ((j : Int) + 1) = ((j + 1 : Nat) : Int) := by rw [wI]; omega
   have hwm : IntKind.wrap .i64 ((m : Int) + 1) = ((m + 1 : Nat) : Int) := by rw [wI]; omega
   have hqj : cF (l.take (j + 1)) c = cF (l.take j) c ++ (if y.2 = c then [] else [y]) := by
    unfold cF
    rw [List.take_add_one, hget, List.filter_append]
    congr 1
    by_cases hy : y.2 = c <;> simp [hy]
   refine ⟨_, rfl, x2.heap hs14, Br.mk (fun hb2 => ?_) (fun hb2 => ?_)⟩
   ·have hy : y.2 ≠ c := by simpa using hb2
    obtain ⟨p1, p2, p3⟩ := Eg (ho'.ext x3) (i := m) (by omega) y
    refine ⟨⟨(ho'.rd (by decide)).isSome (by decide) (i := m) (by simp; omega), by omega, by omega⟩, ⟨p1, p2⟩, ?_, ?_⟩
    ·rw [br]
     intro e
     have := ho'.own.lt (g := wr.heap.size) e
     omega
    ·intro w17 e17
     obtain ⟨q1, q2⟩ := p3 w17 e17
     rw [hwj, hwm]
     refine ⟨n - 1, by omega, (hmod.trans (Mod.ar x3)).trans q2, j + 1, m + 1, l'.set m y, rfl, rfl, by omega, by omega, ?_, q1, by rw [List.length_set, h4], ?_, ?_⟩
     ·rw [hqj, if_neg hy, List.length_append, ← h3]; rfl
     ·rw [hqj, if_neg hy, ← h5, List.take_add_one, List.take_set_of_le (Nat.le_refl _), List.getElem?_set_self (by omega)]; rfl
     ·rw [List.drop_set_of_lt (by omega)]
      have := congrArg (List.drop 1) h6
      simpa [List.drop_drop] using this
   ·have hy : y.2 = c := by simpa using hb2
    rw [hwj]
    refine ⟨n - 1, by omega, hmod.trans (Mod.ar x3), j + 1, m, l', rfl, rfl, by omega, by omega, ?_, ho'.ext x3, h4, ?_, ?_⟩
    ·rw [hqj, if_pos hy, List.append_nil]; exact h3
    ·rw [hqj, if_pos hy, List.append_nil]; exact h5
    ·have := congrArg (List.drop 1) h6
     simpa [List.drop_drop] using this
  ·replace hge := eO hge
   have hj : j = l.length := by omega
   have hcap := (ho'.form (by decide))
   have hnc : s.n ≤ s.c := by
    rcases hcap with ⟨hs, -⟩ | ⟨g0, cs, ha, hg0, hr, hc, hnc, ht, hn'⟩
    ·rw [hs]; exact Nat.le_refl _
    ·exact hnc
   obtain ⟨p1, p2⟩ := uc ho' (i := m) (by omega)
   refine ⟨by omega, by omega, p1, fun w18 e18 => ?_⟩
   obtain ⟨q1, q2⟩ := p2 w18 e18
   refine ⟨by omega, by omega, ⟨s.a, m, s.c⟩, ?_, ?_, hmod.trans q2, rfl⟩
   ·rw [bR]; rfl
   ·rw [h5, hj, List.take_length] at q1; exact q1
theorem mF {w : World} {s : Sl} {l : List It} {n : Nat} (ho : af 0 aU 4 w s (l.map dJ)) (hi : n ≤ l.length) (hl : l.length ≤ 5000) :
  Calls Tryz.prog bE #[s, (0:Int), .int .i64 (n : Int)] w fun e w' => ∃ s' : Sl, e = .returned s' ∧ af 0 aU 4 w' s' ((l.drop n).map dJ) ∧ Mod (fun b => s.ax = some b) w w' ∧ s'.ax = s.ax := by
 have hn : s.n = l.length := by rw [(ho.rd (by decide)).n, List.length_map]
 have hnc : s.n ≤ s.c := by
  rcases ho.form (by decide) with ⟨hs, -⟩ | ⟨g0, cs, ha, hg0, hr, hc, hnc, ht, hn'⟩
  ·rw [hs]; exact Nat.le_refl _
  ·exact hnc
 apply eC.vc
 refine ⟨by omega, by omega, by omega, by omega, by omega, by omega, Br.mk (fun h => ?_) (fun h => ?_)⟩
 ·have : n = 0 := by have : (0 : Int) = n := by simpa using h
                     omega
  subst this
  exact ⟨s, rfl, ho, Mod.refl _ _, rfl⟩
 ·have hpos : 0 < n := by
   have : (0 : Int) ≠ n := by simpa using h
   omega
  rcases ho.form (by decide) with ⟨hs, hnil⟩ | ⟨g0, cs, ha, hg0, hr, hc, hnc, ht, hn'⟩
  ·have : l = [] := by simpa using hnil
   subst this; simp at hi; omega
  have hblk : s.ax = some g0 := by unfold Sl.ax; rw [ha]; rfl
  have hsl : ((l.drop n).map dJ).flatten.length = (s.n - n) * 4 := by rw [aL (cz _)]; simp; omega
  have hcl : s.n * 4 ≤ cs.length := Nat.le_trans (Nat.mul_le_mul_right _ hnc) hc
  have hr' := hr.ext (Ext.dr w)
  simp only [Int.toNat_natCast, Nat.sub_zero, bR, Int.toNat_zero]
  rw [ha]
  refine ⟨by omega, by omega, by omega, by omega, ((l.drop n).map dJ).flatten, ?_, ?_, ?_⟩
  ·exact hr'.HG (by intro e; rw [List.drop_of_length_le (by omega)]; rfl) (ue ht hn n)
  ·refine ⟨fun _ => ?_, fun h => ?_, fun h => ?_, hsl, cl (gA _)⟩
   ·show Wr _ (ae (some ⟨g0, 0, none⟩) (0 * 4)) _
    rw [aP]; exact hr'.wr (by rw [hsl]; omega)
   ·simp only at h; omega
   ·simp only at h; omega
  ·intro s1 w2 hres
   cases hres with
   | sD hg => simp only at hg; omega
   | fits hf =>
     dsimp only
     have e0 : ae (some (⟨g0, 0, none⟩ : Addr)) (0 * 4) = some ⟨g0, 0, none⟩ := by rw [aP]
     rw [e0]
     have hset := hr'.aA (o := 0) (vs := ((l.drop n).map dJ).flatten) (by rw [hsl]; omega) (cl (gA _))
     have hr2 : Row (Go.Vc.aA w.drew (some ⟨g0, 0, none⟩) ((l.drop n).map dJ).flatten) g0 (aw cs 0 ((l.drop n).map dJ).flatten) aU := by rw [hset]; exact hr'.set _
     have hm2 : Mod (fun i => i = g0) w (Go.Vc.aA w.drew (some ⟨g0, 0, none⟩) ((l.drop n).map dJ).flatten) := by
      rw [hset]
      exact (Mod.ar (Ext.dr w)).trans ⟨rfl, rfl, rfl, by rw [setRow_size]; exact Nat.le_refl _, fun i _ hn => setRow_other _ _ _ _ hn⟩
     generalize Go.Vc.aA w.drew (some ⟨g0, 0, none⟩) ((l.drop n).map dJ).flatten = w2 at hr2 hm2
     have hz : 0 + (s.n - n) = s.n - n := by omega
     rw [hz]
     have hown : af 0 aU 4 w2 ⟨some ⟨g0, 0, none⟩, s.n, s.c⟩ ((l.drop n ++ l.drop (l.length - n)).map dJ) := by
      refine af.gP (Nat.zero_le _) hr2 (by rw [Go.Vc.aZ]; exact hc) hnc ?_ (cz _)
      rw [bo _ _ _ (by rw [hsl]; omega), List.map_append, List.flatten_append, List.take_zero, List.nil_append]
      rw [List.take_append, List.take_of_length_le (by rw [hsl]; omega), hsl, Nat.zero_add, ← wy l (l.length - n), ← ht]
      congr 1
      rw [List.drop_take, hn]
     obtain ⟨p1, p2⟩ := uc hown (i := s.n - n) (by simp; omega)
     have hnn : ((s.n : Nat) : Int).toNat - (((s.n - n : Nat) : Nat) : Int).toNat = s.n - (s.n - n) := by omega
     refine ⟨by omega, by omega, by omega, by omega, p1, fun w3 e3 => ?_⟩
     obtain ⟨q1, q2⟩ := p2 w3 e3
     refine ⟨⟨some ⟨g0, 0, none⟩, s.n - n, s.c⟩, rfl, ?_, ?_, hblk.symm⟩
     ·rw [List.take_left' (by simp; omega)] at q1; exact q1
     ·refine (hm2.mono fun b _ hb => by rw [hblk, hb]).trans (q2.mono fun b _ hb => ?_)
      have : g0 = b := by simpa [Sl.ax] using hb
      rw [hblk, this]
end Go.Proofs.YtalpkjfpmdpbiaaGreatDoor.Q
namespace Go.Proofs.YtalpkjfpmdpbiaaGreatDoor.Q
open Go Go.Vc Go.RowKit Go.Proofs Go.kW
set_option maxRecDepth 100000
def da (g m:Nat) (s:Sl):Nat->Prop:=fun i=>i=g\/i=m\/s.ax=some i
abbrev kg (q:QS) (s:Sl) (m:Nat):List Value:=[.int .i64 q.room,.int .i64 q.lost,.slice s.a s.n s.c,.map (some m)]
def ij (kvs:List (Value × Value)) (l:List It):Prop:=(∀c t,(cv c,tv t)∈ kvs ↔(t,c)∈ l)/\∀e ∈ kvs,∃c t,e=(cv c,tv t)
structure oM (w : World) (g m : Nat) (s : Sl) (q : QS) : Prop where
 row : Row w g (kg q s m) ea
 own : af 0 aU 4 w s (q.l.map dJ)
 map : ∃ kvs, aJ GC w (some m) kvs ∧ ij kvs q.l
theorem oM.a9 {w : World} {g m : Nat} {s : Sl} {q : QS} (h : oM w g m s q) {b : Nat} {cs : List Value} {E : TypeId} (hb : Row w b cs E) (h1 : E ≠ ea) (h2 : E ≠ aU) : ¬ da g m s b := by
 rintro (rfl | rfl | e)
 ·exact hb.ne h.row h1 rfl
 ·obtain ⟨kvs, hm, -⟩ := h.map
  exact hb.dY hm rfl
 ·obtain ⟨cs', hr⟩ := au h.own (by decide) e
  exact hb.ne hr h2 rfl
theorem oM.E1 {w : World} {g m : Nat} {s : Sl} {q : QS} (h : oM w g m s q) {B E k : Nat} {s' : Sl} {rows : List (List Value)} (ho : af B E k w s' rows) (hk : 0 < k) (h1 : E ≠ ea) (h2 : E ≠ aU) : ∀ b, s'.ax = some b → ¬ da g m s b := fun b hb => by
 obtain ⟨cs, hr⟩ := au ho hk hb
 exact h.a9 hr h1 h2
theorem oM.lt {w : World} {g m : Nat} {s : Sl} {q : QS} (h : oM w g m s q) : ∀ i, da g m s i → i < w.heap.size := by
 rintro i (rfl | rfl | e)
 ·exact h.row.lt
 ·obtain ⟨kvs, hm, -⟩ := h.map
  exact hm.lt
 ·exact (h.own.own.lt e).2
theorem oM.bC {w w' : World} {g m : Nat} {s : Sl} {q : QS} (h : oM w g m s q) {F : Nat → Prop} (hm : Mod F w w') (hn : ∀ i, da g m s i → ¬ F i) : oM w' g m s q := by
 obtain ⟨kvs, h1, h2⟩ := h.map
 exact ⟨hm.row h.row (hn g (.inl rfl)), hm.cr h.own fun b hb => hn b (.inr (.inr hb)), kvs, hm.map h1 (hn m (.inr (.inl rfl))), h2⟩
theorem oM.ext {w w' : World} {g m : Nat} {s : Sl} {q : QS} (h : oM w g m s q) (x : Ext w w') : oM w' g m s q :=
 h.bC (F := fun _ => False) ⟨x.os, x.tape, x.output, x.size, fun i hi _ => x.heap hi⟩ fun _ _ hf => hf
theorem oM.jh {w : World} {g m : Nat} {s : Sl} {q : QS} (h : oM w g m s q) : g ≠ m := by
 obtain ⟨kvs, hm, -⟩ := h.map
 exact h.row.dY hm
theorem oM.kh {w : World} {g m : Nat} {s : Sl} {q : QS} (h : oM w g m s q) : s.ax ≠ some m := fun e => by
 obtain ⟨kvs, hm, -⟩ := h.map
 obtain ⟨cs, hr⟩ := au h.own (by decide) e
 exact hr.dY hm rfl
theorem oM.r6 {w : World} {g m : Nat} {s : Sl} {q : QS} (h : oM w g m s q) : s.ax ≠ some g := fun e => by
 obtain ⟨cs, hr⟩ := au h.own (by decide) e
 exact hr.ne h.row (by decide) rfl
theorem ij.look {kvs:List (Value × Value)} {l:List It} (h:ij kvs l) (hn:(l.map (·.2)).Nodup) (c:Cl):vP kvs (cv c) (tv 0) (tv ((gG l c).getD 0)) (gG l c).isSome:=by
 cases hq:gG l c with
 |some t=>exact .inl ⟨rfl,(h.1 c t).2 (lF hq)⟩
 |none=>
  refine .inr ⟨rfl,rfl,fun e he hk=> ?_⟩
  obtain ⟨c',t,rfl⟩:=h.2 e he
  exact ji hq (t,c') ((h.1 _ _).1 he) (uW hk)
open Classical in
theorem ij.del {kvs:List (Value × Value)} {l:List It} (h:ij kvs l) (c:Cl):ij (u7 kvs (cv c)) (cF l c):=by
 refine ⟨fun c' t=> ?_,fun e he=>h.2 e (List.mem_filter.1 he).1⟩
 unfold u7 cF
 rw [List.mem_filter,List.mem_filter,h.1]
 refine and_congr_right fun _=> ?_
 rw [bne_iff_ne]
 refine decide_eq_true_iff.trans ?_
 exact not_congr ⟨fun e=>uW e,fun e=>by rw [show c'=c from e]⟩
theorem ij.ins {kvs:List (Value × Value)} {l:List It} (h:ij kvs l) {x:It} (hx:∀y ∈ l,y.2≠x.2):ij (py kvs (cv x.2) (tv x.1)) (pO l x):=by
 unfold py
 rw [if_neg]
 ·refine ⟨fun c t=> ?_,fun e he=> ?_⟩
  ·rw [List.mem_append,h.1,fo,List.mem_singleton]
   constructor
   ·rintro (h1|h1)
    ·exact .inr h1
    ·obtain ⟨e1,e2⟩:=Prod.mk.inj h1
     have:=uW e1
     have h2:t=x.1:=by unfold tv at e2;injection e2
     left;rw [this,h2]
   ·rintro (h1|h1)
    ·right;rw [<-h1]
    ·exact .inl h1
  ·rcases List.mem_append.1 he with he|he
   ·exact h.2 e he
   ·rw [List.mem_singleton]at he;exact ⟨_,_,he⟩
 ·rintro ⟨e,he,hk⟩
  obtain ⟨c',t,rfl⟩:=h.2 e he
  exact hx (t,c') ((h.1 _ _).1 he) (uW hk)
theorem ij.perm {kvs:List (Value × Value)} {l l':List It} (h:ij kvs l) (hl:∀x,x ∈ l ↔ x ∈ l'):ij kvs l':=⟨fun c t=>(h.1 c t).trans (hl _),h.2⟩
theorem uO (room : Int) (w : World) : Calls Tryz.prog sZ #[room] w fun e w' => ∃ g m, e = .returned (.pointer (some ⟨g, 0, none⟩)) ∧ oM w' g m ⟨none, 0, 0⟩ ⟨min (max room 1) 4096, 0, []⟩ ∧ Ext w w' ∧ w.heap.size ≤ g ∧ w.heap.size ≤ m := by
 apply sm.vc
 intro w0 e0 w1 e1
 have hm : aJ GC w0 (some w.heap.size) [] := by rw [e0]; exact aJ.new
 have x1 : Ext w0 w1 := (Ext.aq _).ab e1
 refine ⟨w0.heap.size, w.heap.size, rfl, ⟨?_, af.nil, [], ?_, by simp [ij]⟩, ((Ext.aq _).ab e0).tr x1, ?_, Nat.le_refl _⟩
 ·have : (min (max room 1) 4096) = (if 4096 < (if 1 > room then 1 else room) then 4096 else (if 1 > room then 1 else room)) := by
   split <;> split <;> omega
  rw [e1, this]
  exact Row.new w0 [_, _, _, _] _
 ·exact hm.same (x1.heap hm.lt)
 ·rw [e0]; simp
theorem tE {w : World} {g m : Nat} {s : Sl} {q : QS} (h : oM w g m s q) (hq : sQ q) (c : Cl) : Calls Tryz.prog gi #[.pointer (some ⟨g, 0, none⟩), cv c] w fun e w' => e = .returned (.tuple #[.int .i64 ((gG q.l c).getD 0), .bool (gG q.l c).isSome]) ∧ Ext w w' := by
 apply jn.vc
 intro w0 e0
 have x0 : Ext w w0.drew := (Ext.aq w |>.ab e0).drew
 have h0 := h.ext x0
 obtain ⟨kvs, hm, ht⟩ := h0.map
 exact ⟨some m, h0.row.at 3 rfl, GC, kvs, lL, hm, ⟨c, rfl⟩, _, _, ht.look hq.nodup c, rfl, x0⟩
theorem E2 {w : World} {g m : Nat} {s : Sl} {q : QS} (h : oM w g m s q) : Calls Tryz.prog jS #[.pointer (some ⟨g, 0, none⟩)] w fun e w' => e = .returned (.int .i64 q.l.length) ∧ Ext w w' := by
 apply hZ.vc
 have hn : s.n = q.l.length := by rw [(h.own.rd (by decide)).n, List.length_map]
 refine ⟨s, h.row.at 2 rfl, ?_⟩
 rw [hn]
 exact ⟨rfl, Ext.aq _⟩
end Go.Proofs.YtalpkjfpmdpbiaaGreatDoor.Q
namespace Go.Proofs.YtalpkjfpmdpbiaaGreatDoor.Q
open Go Go.Vc Go.RowKit Go.Proofs Go.kW
set_option maxRecDepth 100000
theorem da.eK {g m : Nat} {s s' : Sl} {w w' : World} (hm : Mod (da g m s) w w') (hs : ∀ b, s'.ax = some b → s.ax = some b ∨ w.heap.size ≤ b) : ao (da g m s) (da g m s') w w' :=
 ⟨hm, fun i hi => by
  rcases hi with h | h | h
  ·exact .inl (.inl h)
  ·exact .inl (.inr (.inl h))
  ·rcases hs i h with h | h
   ·exact .inl (.inr (.inr h))
   ·exact .inr h⟩
theorem wO {w : World} {g m : Nat} {s : Sl} {q : QS} (h : oM w g m s q) (hsort : q.l.Pairwise fun a b => a.1 ≤ b.1) (hl : q.l.length ≤ 4998) {x : It} (hx : ∀ y ∈ q.l, y.2 ≠ x.2) :
  Calls Tryz.prog bu #[.pointer (some ⟨g, 0, none⟩), .agg (dJ x).toArray] w fun e w' => e = .returned (.tuple #[]) ∧ ∃ s', oM w' g m s' { q with l := pO q.l x } ∧ ao (da g m s) (da g m s') w w' := by
 apply fX.vc
 intro w0 e0
 have x0 : Ext w w0 := (Ext.aq w).ab e0
 have Ap := dR e0
 have h0 := h.ext (x0.drew)
 refine ⟨s, h0.row.at 2 rfl, ?_⟩
 refine (EP x (h0.own.rd (by decide)) hsort (by omega)).mono ?_
 rintro e w2 ⟨⟨b, rfl⟩, x2⟩
 refine ⟨_, b, rfl, x2.heap (show w.heap.size < w0.heap.size by omega), ?_⟩
 have h2 := (h0.ext x2).ext (Ext.dr _)
 refine ⟨s, h2.row.at 2 rfl, ?_⟩
 intro w6 e6
 have x6 : Ext w2.drew w6 := (Ext.aq _).ab e6
 have h6 := h2.ext x6
 have hrow : Row w6 w2.drew.heap.size (dJ x) aU := by rw [e6]; exact Row.new _ _ _
 have hz2 := x2.size
 have hsz : w.heap.size < w2.drew.heap.size := Nat.lt_of_lt_of_le (show w.heap.size < w0.heap.size by omega) hz2
 have hk := (List.takeWhile_sublist (fun y : It => decide (y.1 ≤ x.1)) (l := q.l)).length_le
 have hsb : s.ax ≠ some w2.drew.heap.size := fun e => by
  have := h2.lt _ (.inr (.inr e)); omega
 refine (zk h6.own hrow hk (by omega) hsb).mono ?_
 rintro e w7 ⟨s8, rfl, ho8, hm8, hs8⟩
 have hbox : s.ax ≠ some w.heap.size := fun e => by
  have := h.lt _ (.inr (.inr e)); omega
 have x06 : Ext w w6 := ((x0.drew).tr x2).tr ((Ext.dr _).tr x6)
 refine ⟨s8, rfl, hm8.same _ (by have := x6.size; omega) hbox, ?_⟩
 have hr7 : Row w7 g (kg q s m) ea := hm8.row h6.row h6.r6
 obtain ⟨p1, p2⟩ := hr7.iR (j := 2) (v := .slice s8.a s8.n s8.c) (by simp) rfl
 refine ⟨⟨rfl, p1⟩, ?_, ?_⟩
 ·rw [br]
  intro e
  have := h.row.lt
  have : g = w.heap.size := by simpa [bD] using e
  omega
 intro w9 e9
 obtain ⟨q1, q2⟩ := p2 w9 e9
 have x9 := Ext.dr w9
 have hr9 := q1.ext x9
 refine ⟨some m, hr9.at 3 rfl, ?_⟩
 obtain ⟨kvs, hmap, ht⟩ := h6.map
 have hmap9 : aJ GC w9.drew (some m) kvs := (Mod.ar (F := fun _ => False) x9).map (q2.map (hm8.map hmap h6.kh) (Ne.symm h.jh)) (by simp)
 refine ⟨GC, kvs, lL, rfl, hmap9, ⟨x.2, rfl⟩, ?_⟩
 intro w13 hrec hmap13
 have hm13 := Mod.rV hrec
 refine ⟨rfl, s8, ⟨?_, ?_, _, hmap13, ht.ins hx⟩, da.eK ?_ ?_⟩
 ·exact hm13.row hr9 h.jh
 ·have he := Gx q.l x
  rw [he] at ho8
  have hrow8 := fun b hb => au ho8 (by decide) (b := b) hb
  refine hm13.cr ((q2.cr ho8 fun b hb hf => ?_).ext x9) fun b hb hf => ?_
  ·obtain ⟨cs, hr⟩ := hrow8 b hb
   exact hr.ne hr7 (by decide) hf
  ·obtain ⟨cs, hr⟩ := hrow8 b hb
   exact hr.dY (hm8.map hmap h6.kh) hf
 ·refine ((((Mod.ar x06).trans (hm8.mono fun b _ hb => .inr (.inr hb))).trans (q2.mono fun b _ hb => .inl hb)).trans (Mod.ar x9)).trans (hm13.mono fun b _ hb => .inr (.inl hb))
 ·intro b hb
  rcases hs8 b hb with h1 | h1
  ·exact .inl h1
  ·exact .inr (Nat.le_trans x06.size h1)
theorem CZ {w : World} {g m : Nat} {s : Sl} {q : QS} (h : oM w g m s q) (hq : sQ q) (c : Cl) :
  Calls Tryz.prog cS #[.pointer (some ⟨g, 0, none⟩), cv c] w fun e w' => e = .returned (.bool (gG q.l c).isSome) ∧ ∃ s', oM w' g m s' { q with l := cF q.l c } ∧ ao (da g m s) (da g m s') w w' := by
 apply fY.vc
 intro w0 e0
 have x0 : Ext w w0 := (Ext.aq w).ab e0
 have hbox0 : Row w0 w.heap.size (dp c) mE := by rw [e0]; exact Row.new _ _ _
 have h0 := h.ext x0.drew
 obtain ⟨kvs, hm, ht⟩ := h0.map
 refine ⟨some m, h0.row.at 3 rfl, GC, kvs, lL, hm, ⟨c, rfl⟩, _, _, ht.look hq.nodup c, Br.mk (fun hb => ?_) (fun hb => ?_)⟩
 ·have hn : gG q.l c = none := by simpa using hb
  refine ⟨by rw [hn]; rfl, s, ?_, ao.ar x0.drew⟩
  have : cF q.l c = q.l := by
   unfold cF; rw [List.filter_eq_self]; intro y hy; simpa using ji hn y hy
  rw [this]; exact h0
 ·have hsome : (gG q.l c).isSome = true := by simpa using hb
  have h1 := h0.ext (Ext.dr _)
  refine ⟨some m, h1.row.at 3 rfl, GC, kvs, lL, rfl, (Mod.ar (F := fun _ => False) (Ext.dr _)).map hm (by simp), ⟨c, rfl⟩, ?_⟩
  intro w9 hrec hmap9
  have hm9 := Mod.rV hrec
  have hr9 : Row w9 g (kg q s m) ea := hm9.row h1.row h.jh
  refine ⟨s, hr9.at 2 rfl, ?_⟩
  have hlen := hq.len
  have hroom := hq.room
  have hbox9 : Row w9 w.heap.size (dp c) mE := hm9.row (hbox0.ext (Ext.dr _ |>.tr (Ext.dr _))) (fun e => by
   have : w.heap.size = m := e
   have := h.lt m (.inr (.inl rfl)); omega)
  have ho9 : af 0 aU 4 w9 s (q.l.map dJ) := hm9.cr h1.own fun b hb hf => h1.kh (by rw [hb]; exact congrArg some hf)
  refine (tj ho9 hbox9 (by omega)).mono ?_
  rintro e w11 ⟨s12, rfl, ho12, hm12, hs12⟩
  have hsm : s.ax ≠ some m := h.kh
  have hr11 : Row w11 g (kg q s m) ea := hm12.row hr9 h.r6
  obtain ⟨p1, p2⟩ := hr11.iR (j := 2) (v := .slice s12.a s12.n s12.c) (by simp) rfl
  refine ⟨s12, rfl, ⟨rfl, p1⟩, fun w13 e13 => ?_⟩
  obtain ⟨q1, q2⟩ := p2 w13 e13
  refine ⟨by rw [hsome], s12, ⟨q1, ?_, _, q2.map (hm12.map hmap9 hsm) (Ne.symm h.jh), ht.del c⟩, da.eK ?_ ?_⟩
  ·refine q2.cr ho12 fun b hb hf => ?_
   obtain ⟨cs, hr⟩ := au ho12 (by decide) hb
   exact hr.ne hr11 (by decide) hf
  ·exact (((Mod.ar (x0.drew.drew)).trans (hm9.mono fun b _ hb => .inr (.inl hb))).trans (hm12.mono fun b _ hb => .inr (.inr hb))).trans (q2.mono fun b _ hb => .inl hb)
  ·intro b hb; exact .inl (hs12 ▸ hb)
end Go.Proofs.YtalpkjfpmdpbiaaGreatDoor.Q
namespace Go.Proofs.YtalpkjfpmdpbiaaGreatDoor.Q
open Go Go.Vc Go.RowKit Go.Proofs Go.kW
set_option maxRecDepth 100000
theorem zh {w : World} {g m : Nat} {s : Sl} {q : QS} (h : oM w g m s q) (hq : sQ q) (hl : 0 ≤ q.lost ∧ q.lost ≤ 1000000) (c : Cl) (t : Int) :
  Calls Tryz.prog jU #[.pointer (some ⟨g, 0, none⟩), cv c, t] w fun e w' => e = .returned (.bool (cX q c t).2) ∧ ∃ s', oM w' g m s' (cX q c t).1 ∧ ao (da g m s) (da g m s') w w' := by
 apply ia.vc
 intro w0 e0
 have x0 : Ext w w0 := (Ext.aq w).ab e0
 have Ap := dR e0
 have h0 := h.ext x0
 have hn : s.n = q.l.length := by rw [(h.own.rd (by decide)).n, List.length_map]
 have hlen := hq.len
 have hroom := hq.room
 have hbg : g < w.heap.size := h.row.lt
 have hbf : ∀ {s' : Sl} {w1 w' : World}, w.heap.size < w1.heap.size → ao (da g m s) (da g m s') w1 w' → w'.heap[w.heap.size]? = w1.heap[w.heap.size]? := fun hlt ht =>
  ht.mod.same _ hlt fun hf => by have := h.lt _ hf; omega
 refine (tE h0 hq c).mono ?_
 rintro e w1 ⟨rfl, x1⟩
 have h1 := h0.ext x1
 have x01 := x0.tr x1
 have hz1 : w.heap.size < w1.heap.size := by have := x1.size; omega
 refine ⟨_, _, rfl, x1.heap (show w.heap.size < w0.heap.size by omega), Br.mk (fun hb => ?_) (fun hb => ?_)⟩
 ·obtain ⟨was, hw⟩ := Option.isSome_iff_exists.1 hb
  have hg : (gG q.l c).getD 0 = was := by rw [hw]; rfl
  rw [hg]
  refine Br.mk (fun hc => ?_) (fun hc => Br.mk (fun _ => ?_) (fun hn => by rw [hb] at hn; cases hn))
  ·replace hc := eN hc
   have e : cX q c t = (q, false) := by unfold cX; rw [hw]; simp [hc]
   rw [e]
   exact ⟨rfl, s, h1, ao.ar x01⟩
  ·replace hc := eO hc
   have e : cX q c t = ({ q with l := pO (cF q.l c) (t, c) }, true) := by unfold cX; rw [hw]; simp [hc]
   rw [e]
   refine (CZ h1 hq c).mono ?_
   rintro e w4 ⟨rfl, s4, h4, t4⟩
   refine ⟨_, rfl, hbf hz1 t4, ?_⟩
   have hq4 := hq.drop c
   have hl4 := hq4.len
   have hz4 := t4.mod.size
   refine (wO (x := (t, c)) h4 hq4.sorted (by simp only at hl4 ⊢; omega) (fun y hy => by
    have := (List.mem_filter.1 hy).2
    simpa using this)).mono ?_
   rintro e w6 ⟨rfl, s6, h6, t6⟩
   refine ⟨rfl, t6.mod.same _ (by omega) (fun hf => ?_), rfl, s6, h6, ((ao.ar x01).trans t4).trans t6⟩
   rcases t4.sub _ hf with hf | hf
   ·have := h.lt _ hf; omega
   ·omega
 ·refine Br.mk (fun hb' => by rw [hb] at hb'; cases hb') (fun _ => ?_)
  have hw : gG q.l c = none := by simpa using hb
  have h1d := h1.ext (Ext.dr w1)
  refine ⟨s, h1d.row.at 2 rfl, q.room, h1d.row.at 0 rfl, ?_⟩
  rw [hn]
  refine Br.mk (fun hc => ?_) (fun hc => ?_)
  ·have hc' : ((q.l.length : Nat) : Int) = q.room := by simpa using hc
   have e : cX q c t = ({ q with lost := q.lost + 1 }, false) := by unfold cX; rw [hw]; simp [hc']
   rw [e]
   obtain ⟨p1, p2⟩ := h1d.row.iR (j := 1) (v := .int .i64 (IntKind.wrap .i64 (q.lost + 1))) (by simp) rfl
   refine ⟨q.lost, h1d.row.at 1 rfl, ⟨rfl, p1⟩, ?_, fun w10 e10 => ?_⟩
   ·rw [br]
    intro e
    have : g = w.heap.size := by simpa [bD] using e
    omega
   ·obtain ⟨q1, q2⟩ := p2 w10 e10
    rw [wI] at q1
    obtain ⟨kvs, hm, ht⟩ := h1d.map
    refine ⟨rfl, s, ⟨q1, q2.cr h1d.own fun b hb hf => h.r6 (by rw [hb]; exact congrArg some hf), kvs, q2.map hm (Ne.symm h.jh), ht⟩, (ao.ar x01.drew).trans (da.eK (q2.mono fun b _ hb => .inl hb) fun b hb => .inl hb)⟩
  ·have hc' : ((q.l.length : Nat) : Int) ≠ q.room := by simpa using hc
   have e : cX q c t = ({ q with l := pO q.l (t, c) }, true) := by
    unfold cX; rw [hw]
    have : ¬ (q.l.length : Int) ≥ q.room := by omega
    simp only
    rw [if_neg this]
   rw [e]
   refine (wO (x := (t, c)) h1d hq.sorted (by omega) (ji hw)).mono ?_
   rintro e w6 ⟨rfl, s6, h6, t6⟩
   exact ⟨rfl, hbf hz1 t6, rfl, s6, h6, (ao.ar x01.drew).trans t6⟩
end Go.Proofs.YtalpkjfpmdpbiaaGreatDoor.Q
namespace Go.Proofs.YtalpkjfpmdpbiaaGreatDoor.Q
open Go Go.Vc Go.RowKit Go.Proofs Go.kW
set_option maxRecDepth 100000
theorem EZ {w : World} {g m : Nat} {s : Sl} {q : QS} (h : oM w g m s q) (hq : sQ q) (now many : Int) :
  Calls Tryz.prog jP #[.pointer (some ⟨g, 0, none⟩), now, many] w fun e w' => ∃ so : Sl, e = .returned (.slice so.a so.n so.c) ∧ ∃ s', af w.heap.size mE 3 w' so ((mv q now many).2.map dp) ∧ oM w' g m s' (mv q now many).1 ∧ ao (da g m s) (da g m s') w w' := by
 have hn : s.n = q.l.length := by rw [(h.own.rd (by decide)).n, List.length_map]
 have hlen := hq.len
 have hroom := hq.room
 have hcap : s.n ≤ s.c := by
  rcases h.own.form (by decide) with ⟨hs, -⟩ | ⟨g0, cs, ha, hg0, hr, hc, hnc, -⟩
  ·rw [hs]; exact Nat.le_refl _
  ·exact hnc
 have hql := C4 q.l now many
 apply g8.vc
 refine ⟨fun n x wr => w = wr ∧ ∃ k : Nat, x = k ∧ k + n = db q.l now many, ⟨db q.l now many, rfl, 0, rfl, by omega⟩, ?_⟩
 rintro n0 us x wr ⟨rfl, k, rfl, hk⟩
 have hkl : k ≤ q.l.length := by omega
 refine ⟨s, h.row.at 2 rfl, Br.mk (fun hc => ?_) (fun hc => ?_)⟩
 ·replace hc := eN hc
  have hget : q.l[k]? = some (q.l[k]'(by omega)) := List.getElem?_eq_getElem (by omega)
  have hat := C3 hq now many hget
  generalize q.l[k]'(by omega) = y at hget hat
  refine Br.mk (fun hc2 => ?_) (fun hc2 => ?_)
  ·replace hc2 := eN hc2
   have hrd := h.own.rd (by decide)
   refine ⟨s, h.row.at 2 rfl, ⟨hrd.isSome (by decide) (i := k) (by simp; omega), by omega, by omega⟩, ?_⟩
   have hsm : (ae s.a ((k : Int).toNat * 4)).isSome = true := by
    rw [gH]; exact hrd.isSome (by decide) (i := k) (by simp; omega)
   refine aK.2 ⟨kP.2 hsm, y.1, ?_, Br.mk (fun hc3 => ?_) (fun hc3 => ?_)⟩
   ·exact hrd.at (i := k) (r := dJ y) (by rw [List.getElem?_map, hget]; rfl) rfl
   ·replace hc3 := eN hc3
    have := hat.2 ⟨hc2, hc3⟩
    have hw : IntKind.wrap .i64 ((k : Int) + 1) = ((k + 1 : Nat) : Int) := by rw [wI]; omega
    exact ⟨n0 - 1, by omega, rfl, k + 1, hw, by omega⟩
   ·replace hc3 := eO hc3
    have hkq : k = db q.l now many := by
     have : ¬ k < db q.l now many := fun hlt => hc3 (hat.1 hlt).2
     omega
    (
     refine ⟨s, h.row.at 2 rfl, by omega, by omega, by omega, by omega, fun n x so wr => ∃ j : Nat, x = j ∧ j + n = k ∧ Go.Vc.Mod (fun i => i = m) w wr ∧ af w.heap.size mE 3 wr so ((q.l.take j).map fun y => dp y.2) ∧ ∃ kvs, aJ GC wr (some m) kvs ∧ ij kvs (q.l.drop j), ⟨k, 0, rfl, by omega, Go.Vc.Mod.refl _ _, af.nil, by simpa using h.map⟩, ?_⟩
     rintro n us x so wr ⟨j, rfl, hj, hmod, hout, kvs, hmap, htk⟩
     have hrow : Row wr g (kg q s m) ea := hmod.row h.row h.jh
     have hown : af 0 aU 4 wr s (q.l.map dJ) := hmod.cr h.own fun b hb hf => h.kh (by rw [hb]; exact congrArg some hf)
     refine Br.mk (fun hc => ?_) (fun hc => ?_)
     ·replace hc := eN hc
      have hjl : j < q.l.length := by omega
      have hget : q.l[j]? = some (q.l[j]'hjl) := List.getElem?_eq_getElem hjl
      generalize q.l[j]'hjl = y at hget
      have hrd := hown.rd (by decide)
      refine ⟨⟨?_, by omega, by omega⟩, y.1, y.2.1, y.2.2.1, y.2.2.2, ?_, ?_⟩
      ·have := hrd.isSome (by decide) (i := j) (by simp; omega)
       unfold ai; split <;> simpa using this
      ·rw [gB]; exact ba.item hrd hget
      intro w21 e21 w22 e22 w23 e23
      have x21 : Ext wr w21 := (Ext.aq wr).ab e21
      have x22 : Ext wr w22 := x21.ah e22 (Nat.le_refl _)
      have x23 : Ext wr w23 := x22.ab e23
      have hz22 : w22.heap.size = wr.heap.size + 1 := by rw [e22, setRow_size, e21]; simp
      have hz23 := dR e23
      have hon : so.n = j := by rw [(hout.rd (by decide)).n, List.length_map, List.length_take]; omega
      have hzw := hmod.size
      obtain ⟨hp, hr⟩ := (hout.ext x23).append (bytes := 24) (news := dp y.2) (by omega) rfl (by intro u hu; simp at hu; rcases hu with rfl | rfl | rfl <;> rfl) (by omega) (by omega)
      refine ⟨hp, fun s24 w25 hres => ?_⟩
      obtain ⟨h1, h2, h3, h4, h5⟩ := hr s24 w25 hres
      have hsb : ∀ b, so.ax = some b → b < wr.heap.size := fun b hb => (hout.own.lt hb).2
      have hm25 : Go.Vc.Mod (fun i => so.ax = some i) w23 w25 := ⟨h3.os, h3.tape, h3.output, h3.size, fun i hi hn => h4 i hn hi⟩
      have hsm : so.ax ≠ some m := fun e => by
       have h1 := (hout.own.lt e).1
       have h2 := h.lt m (.inr (.inl rfl)); omega
      refine ⟨h4 _ (fun e => by have := hsb _ e; omega) (by omega), h4 _ (fun e => by have := hsb _ e; omega) (by omega), ?_⟩
      have hm2 : Go.Vc.Mod (fun i => so.ax = some i) wr w25.drew := ((Go.Vc.Mod.ar x23).trans hm25).trans (Go.Vc.Mod.ar (Ext.dr _))
      have hsg : so.ax ≠ some g := fun e => by
       have h1 := (hout.own.lt e).1
       have h2 := h.lt g (.inl rfl); omega
      refine ⟨some m, (hm2.row hrow hsg).at 3 rfl, GC, kvs, lL, rfl, hm2.map hmap hsm, ⟨y.2, rfl⟩, ?_⟩
      intro w29 hrec hmap29
      have hm29 := Go.Vc.Mod.rV hrec
      have hwj : IntKind.wrap .i64 ((j : Int) + 1) = ((j + 1 : Nat) : Int) := by rw [wI]; omega
      rw [hwj]
      refine ⟨n - 1, by omega, j + 1, rfl, by omega, (hmod.tr hm2 (fun i hi => .inr (hout.own.lt hi).1)).trans hm29, ?_, _, hmap29, ?_⟩
      ·have e : (q.l.take (j + 1)).map (fun y => dp y.2) = (q.l.take j).map (fun y => dp y.2) ++ [dp y.2] := by rw [List.take_add_one, hget, List.map_append]; rfl
       rw [e]
       refine hm29.cr (h1.ext (Ext.dr _)) fun b hb hf => ?_
       have hb' : s24.ax = some m := by rw [hb]; exact congrArg some hf
       have := h.lt m (.inr (.inl rfl))
       rcases h5 with h5 | h5
       ·exact hsm (h5 ▸ hb')
       ·rw [h5] at hb'; have : w23.heap.size = m := by simpa using hb'
        omega
      ·have hd := htk.del y.2
       refine hd.perm fun z => ?_
       have hcons : q.l.drop j = y :: q.l.drop (j + 1) := by
        obtain ⟨hlt, he⟩ := List.getElem?_eq_some_iff.1 hget
        rw [List.drop_eq_getElem_cons hlt, he]
       have hnd : ((y :: q.l.drop (j + 1)).map (·.2)).Nodup := by
        rw [← hcons]; exact ((List.drop_sublist j q.l).map _).nodup hq.nodup
       rw [hcons]
       unfold cF
       rw [List.map_cons, List.nodup_cons] at hnd
       constructor
       ·intro hz
        obtain ⟨hz1, hz2⟩ := List.mem_filter.1 hz
        rcases List.mem_cons.1 hz1 with rfl | hz1
        ·simp at hz2
        ·exact hz1
       ·intro hz
        refine List.mem_filter.2 ⟨List.mem_cons_of_mem _ hz, ?_⟩
        have : z.2 ≠ y.2 := fun e => hnd.1 (e ▸ List.mem_map_of_mem hz)
        simpa using this
     ·replace hc := eO hc
      have hjk : j = k := by omega
      subst hjk
      refine ⟨s, hrow.at 2 rfl, (mF hown hkl (by omega)).mono ?_⟩
      rintro e w31 ⟨s32, rfl, ho32, hm32, hs32⟩
      have hr31 : Row w31 g (kg q s m) ea := hm32.row hrow h.r6
      obtain ⟨p1, p2⟩ := hr31.iR (j := 2) (v := .slice s32.a s32.n s32.c) (by simp) rfl
      refine ⟨s32, rfl, ⟨rfl, p1⟩, fun w33 e33 => ?_⟩
      obtain ⟨q1, q2⟩ := p2 w33 e33
      have hso : ∀ b, so.ax = some b → w.heap.size ≤ b := fun b hb => (hout.own.lt hb).1
      refine ⟨so, rfl, s32, ?_, ?_, ?_⟩
      ·unfold mv
       rw [← hkq, List.map_map]
       refine q2.cr (hm32.cr hout fun b hb hf => ?_) fun b hb hf => ?_
       ·have := hso b hb
        have := h.lt b (.inr (.inr hf)); omega
       ·have := hso b hb
        have := h.lt b (.inl hf); omega
      ·unfold mv
       rw [← hkq]
       refine ⟨q1, q2.cr ho32 fun b hb hf => ?_, kvs, q2.map (hm32.map hmap h.kh) (Ne.symm h.jh), htk⟩
       obtain ⟨cs, hr⟩ := au ho32 (by decide) hb
       exact hr.ne hr31 (by decide) hf
      ·refine da.eK (((hmod.mono fun b _ hb => .inr (.inl hb)).trans (hm32.mono fun b _ hb => .inr (.inr hb))).trans (q2.mono fun b _ hb => .inl hb)) fun b hb => .inl (hs32 ▸ hb))
  ·replace hc2 := eO hc2
   have hkq : k = db q.l now many := by
    have : ¬ k < db q.l now many := fun hlt => hc2 (hat.1 hlt).1
    omega
   (
    refine ⟨s, h.row.at 2 rfl, by omega, by omega, by omega, by omega, fun n x so wr => ∃ j : Nat, x = j ∧ j + n = k ∧ Go.Vc.Mod (fun i => i = m) w wr ∧ af w.heap.size mE 3 wr so ((q.l.take j).map fun y => dp y.2) ∧ ∃ kvs, aJ GC wr (some m) kvs ∧ ij kvs (q.l.drop j), ⟨k, 0, rfl, by omega, Go.Vc.Mod.refl _ _, af.nil, by simpa using h.map⟩, ?_⟩
    rintro n us x so wr ⟨j, rfl, hj, hmod, hout, kvs, hmap, htk⟩
    have hrow : Row wr g (kg q s m) ea := hmod.row h.row h.jh
    have hown : af 0 aU 4 wr s (q.l.map dJ) := hmod.cr h.own fun b hb hf => h.kh (by rw [hb]; exact congrArg some hf)
    refine Br.mk (fun hc => ?_) (fun hc => ?_)
    ·replace hc := eN hc
     have hjl : j < q.l.length := by omega
     have hget : q.l[j]? = some (q.l[j]'hjl) := List.getElem?_eq_getElem hjl
     generalize q.l[j]'hjl = y at hget
     have hrd := hown.rd (by decide)
     refine ⟨⟨?_, by omega, by omega⟩, y.1, y.2.1, y.2.2.1, y.2.2.2, ?_, ?_⟩
     ·have := hrd.isSome (by decide) (i := j) (by simp; omega)
      unfold ai; split <;> simpa using this
     ·rw [gB]; exact ba.item hrd hget
     intro w21 e21 w22 e22 w23 e23
     have x21 : Ext wr w21 := (Ext.aq wr).ab e21
     have x22 : Ext wr w22 := x21.ah e22 (Nat.le_refl _)
     have x23 : Ext wr w23 := x22.ab e23
     have hz22 : w22.heap.size = wr.heap.size + 1 := by rw [e22, setRow_size, e21]; simp
     have hz23 := dR e23
     have hon : so.n = j := by rw [(hout.rd (by decide)).n, List.length_map, List.length_take]; omega
     have hzw := hmod.size
     obtain ⟨hp, hr⟩ := (hout.ext x23).append (bytes := 24) (news := dp y.2) (by omega) rfl (by intro u hu; simp at hu; rcases hu with rfl | rfl | rfl <;> rfl) (by omega) (by omega)
     refine ⟨hp, fun s24 w25 hres => ?_⟩
     obtain ⟨h1, h2, h3, h4, h5⟩ := hr s24 w25 hres
     have hsb : ∀ b, so.ax = some b → b < wr.heap.size := fun b hb => (hout.own.lt hb).2
     have hm25 : Go.Vc.Mod (fun i => so.ax = some i) w23 w25 := ⟨h3.os, h3.tape, h3.output, h3.size, fun i hi hn => h4 i hn hi⟩
     have hsm : so.ax ≠ some m := fun e => by
      have h1 := (hout.own.lt e).1
      have h2 := h.lt m (.inr (.inl rfl)); omega
     refine ⟨h4 _ (fun e => by have := hsb _ e; omega) (by omega), h4 _ (fun e => by have := hsb _ e; omega) (by omega), ?_⟩
     have hm2 : Go.Vc.Mod (fun i => so.ax = some i) wr w25.drew := ((Go.Vc.Mod.ar x23).trans hm25).trans (Go.Vc.Mod.ar (Ext.dr _))
     have hsg : so.ax ≠ some g := fun e => by
      have h1 := (hout.own.lt e).1
      have h2 := h.lt g (.inl rfl); omega
     refine ⟨some m, (hm2.row hrow hsg).at 3 rfl, GC, kvs, lL, rfl, hm2.map hmap hsm, ⟨y.2, rfl⟩, ?_⟩
     intro w29 hrec hmap29
     have hm29 := Go.Vc.Mod.rV hrec
     have hwj : IntKind.wrap .i64 ((j : Int) + 1) = ((j + 1 : Nat) : Int) := by rw [wI]; omega
     rw [hwj]
     refine ⟨n - 1, by omega, j + 1, rfl, by omega, (hmod.tr hm2 (fun i hi => .inr (hout.own.lt hi).1)).trans hm29, ?_, _, hmap29, ?_⟩
     ·have e : (q.l.take (j + 1)).map (fun y => dp y.2) = (q.l.take j).map (fun y => dp y.2) ++ [dp y.2] := by rw [List.take_add_one, hget, List.map_append]; rfl
      rw [e]
      refine hm29.cr (h1.ext (Ext.dr _)) fun b hb hf => ?_
      have hb' : s24.ax = some m := by rw [hb]; exact congrArg some hf
      have := h.lt m (.inr (.inl rfl))
      rcases h5 with h5 | h5
      ·exact hsm (h5 ▸ hb')
      ·rw [h5] at hb'; have : w23.heap.size = m := by simpa using hb'
       omega
     ·have hd := htk.del y.2
      refine hd.perm fun z => ?_
      have hcons : q.l.drop j = y :: q.l.drop (j + 1) := by
       obtain ⟨hlt, he⟩ := List.getElem?_eq_some_iff.1 hget
       rw [List.drop_eq_getElem_cons hlt, he]
      have hnd : ((y :: q.l.drop (j + 1)).map (·.2)).Nodup := by
       rw [← hcons]; exact ((List.drop_sublist j q.l).map _).nodup hq.nodup
      rw [hcons]
      unfold cF
      rw [List.map_cons, List.nodup_cons] at hnd
      constructor
      ·intro hz
       obtain ⟨hz1, hz2⟩ := List.mem_filter.1 hz
       rcases List.mem_cons.1 hz1 with rfl | hz1
       ·simp at hz2
       ·exact hz1
      ·intro hz
       refine List.mem_filter.2 ⟨List.mem_cons_of_mem _ hz, ?_⟩
       have : z.2 ≠ y.2 := fun e => hnd.1 (e ▸ List.mem_map_of_mem hz)
       simpa using this
    ·replace hc := eO hc
     have hjk : j = k := by omega
     subst hjk
     refine ⟨s, hrow.at 2 rfl, (mF hown hkl (by omega)).mono ?_⟩
     rintro e w31 ⟨s32, rfl, ho32, hm32, hs32⟩
     have hr31 : Row w31 g (kg q s m) ea := hm32.row hrow h.r6
     obtain ⟨p1, p2⟩ := hr31.iR (j := 2) (v := .slice s32.a s32.n s32.c) (by simp) rfl
     refine ⟨s32, rfl, ⟨rfl, p1⟩, fun w33 e33 => ?_⟩
     obtain ⟨q1, q2⟩ := p2 w33 e33
     have hso : ∀ b, so.ax = some b → w.heap.size ≤ b := fun b hb => (hout.own.lt hb).1
     refine ⟨so, rfl, s32, ?_, ?_, ?_⟩
     ·unfold mv
      rw [← hkq, List.map_map]
      refine q2.cr (hm32.cr hout fun b hb hf => ?_) fun b hb hf => ?_
      ·have := hso b hb
       have := h.lt b (.inr (.inr hf)); omega
      ·have := hso b hb
       have := h.lt b (.inl hf); omega
     ·unfold mv
      rw [← hkq]
      refine ⟨q1, q2.cr ho32 fun b hb hf => ?_, kvs, q2.map (hm32.map hmap h.kh) (Ne.symm h.jh), htk⟩
      obtain ⟨cs, hr⟩ := au ho32 (by decide) hb
      exact hr.ne hr31 (by decide) hf
     ·refine da.eK (((hmod.mono fun b _ hb => .inr (.inl hb)).trans (hm32.mono fun b _ hb => .inr (.inr hb))).trans (q2.mono fun b _ hb => .inl hb)) fun b hb => .inl (hs32 ▸ hb))
 ·replace hc := eO hc
  have hkq : k = db q.l now many := by omega
  (
   refine ⟨s, h.row.at 2 rfl, by omega, by omega, by omega, by omega, fun n x so wr => ∃ j : Nat, x = j ∧ j + n = k ∧ Go.Vc.Mod (fun i => i = m) w wr ∧ af w.heap.size mE 3 wr so ((q.l.take j).map fun y => dp y.2) ∧ ∃ kvs, aJ GC wr (some m) kvs ∧ ij kvs (q.l.drop j), ⟨k, 0, rfl, by omega, Go.Vc.Mod.refl _ _, af.nil, by simpa using h.map⟩, ?_⟩
   rintro n us x so wr ⟨j, rfl, hj, hmod, hout, kvs, hmap, htk⟩
   have hrow : Row wr g (kg q s m) ea := hmod.row h.row h.jh
   have hown : af 0 aU 4 wr s (q.l.map dJ) := hmod.cr h.own fun b hb hf => h.kh (by rw [hb]; exact congrArg some hf)
   refine Br.mk (fun hc => ?_) (fun hc => ?_)
   ·replace hc := eN hc
    have hjl : j < q.l.length := by omega
    have hget : q.l[j]? = some (q.l[j]'hjl) := List.getElem?_eq_getElem hjl
    generalize q.l[j]'hjl = y at hget
    have hrd := hown.rd (by decide)
    refine ⟨⟨?_, by omega, by omega⟩, y.1, y.2.1, y.2.2.1, y.2.2.2, ?_, ?_⟩
    ·have := hrd.isSome (by decide) (i := j) (by simp; omega)
     unfold ai; split <;> simpa using this
    ·rw [gB]; exact ba.item hrd hget
    intro w21 e21 w22 e22 w23 e23
    have x21 : Ext wr w21 := (Ext.aq wr).ab e21
    have x22 : Ext wr w22 := x21.ah e22 (Nat.le_refl _)
    have x23 : Ext wr w23 := x22.ab e23
    have hz22 : w22.heap.size = wr.heap.size + 1 := by rw [e22, setRow_size, e21]; simp
    have hz23 := dR e23
    have hon : so.n = j := by rw [(hout.rd (by decide)).n, List.length_map, List.length_take]; omega
    have hzw := hmod.size
    obtain ⟨hp, hr⟩ := (hout.ext x23).append (bytes := 24) (news := dp y.2) (by omega) rfl (by intro u hu; simp at hu; rcases hu with rfl | rfl | rfl <;> rfl) (by omega) (by omega)
    refine ⟨hp, fun s24 w25 hres => ?_⟩
    obtain ⟨h1, h2, h3, h4, h5⟩ := hr s24 w25 hres
    have hsb : ∀ b, so.ax = some b → b < wr.heap.size := fun b hb => (hout.own.lt hb).2
    have hm25 : Go.Vc.Mod (fun i => so.ax = some i) w23 w25 := ⟨h3.os, h3.tape, h3.output, h3.size, fun i hi hn => h4 i hn hi⟩
    have hsm : so.ax ≠ some m := fun e => by
     have h1 := (hout.own.lt e).1
     have h2 := h.lt m (.inr (.inl rfl)); omega
    refine ⟨h4 _ (fun e => by have := hsb _ e; omega) (by omega), h4 _ (fun e => by have := hsb _ e; omega) (by omega), ?_⟩
    have hm2 : Go.Vc.Mod (fun i => so.ax = some i) wr w25.drew := ((Go.Vc.Mod.ar x23).trans hm25).trans (Go.Vc.Mod.ar (Ext.dr _))
    have hsg : so.ax ≠ some g := fun e => by
     have h1 := (hout.own.lt e).1
     have h2 := h.lt g (.inl rfl); omega
    refine ⟨some m, (hm2.row hrow hsg).at 3 rfl, GC, kvs, lL, rfl, hm2.map hmap hsm, ⟨y.2, rfl⟩, ?_⟩
    intro w29 hrec hmap29
    have hm29 := Go.Vc.Mod.rV hrec
    have hwj : IntKind.wrap .i64 ((j : Int) + 1) = ((j + 1 : Nat) : Int) := by rw [wI]; omega
    rw [hwj]
    refine ⟨n - 1, by omega, j + 1, rfl, by omega, (hmod.tr hm2 (fun i hi => .inr (hout.own.lt hi).1)).trans hm29, ?_, _, hmap29, ?_⟩
    ·have e : (q.l.take (j + 1)).map (fun y => dp y.2) = (q.l.take j).map (fun y => dp y.2) ++ [dp y.2] := by rw [List.take_add_one, hget, List.map_append]; rfl
     rw [e]
     refine hm29.cr (h1.ext (Ext.dr _)) fun b hb hf => ?_
     have hb' : s24.ax = some m := by rw [hb]; exact congrArg some hf
     have := h.lt m (.inr (.inl rfl))
     rcases h5 with h5 | h5
     ·exact hsm (h5 ▸ hb')
     ·rw [h5] at hb'; have : w23.heap.size = m := by simpa using hb'
      omega
    ·have hd := htk.del y.2
     refine hd.perm fun z => ?_
     have hcons : q.l.drop j = y :: q.l.drop (j + 1) := by
      obtain ⟨hlt, he⟩ := List.getElem?_eq_some_iff.1 hget
      rw [List.drop_eq_getElem_cons hlt, he]
     have hnd : ((y :: q.l.drop (j + 1)).map (·.2)).Nodup := by
      rw [← hcons]; exact ((List.drop_sublist j q.l).map _).nodup hq.nodup
     rw [hcons]
     unfold cF
     rw [List.map_cons, List.nodup_cons] at hnd
     constructor
     ·intro hz
      obtain ⟨hz1, hz2⟩ := List.mem_filter.1 hz
      rcases List.mem_cons.1 hz1 with rfl | hz1
      ·simp at hz2
      ·exact hz1
     ·intro hz
      refine List.mem_filter.2 ⟨List.mem_cons_of_mem _ hz, ?_⟩
      have : z.2 ≠ y.2 := fun e => hnd.1 (e ▸ List.mem_map_of_mem hz)
      simpa using this
   ·replace hc := eO hc
    have hjk : j = k := by omega
    subst hjk
    refine ⟨s, hrow.at 2 rfl, (mF hown hkl (by omega)).mono ?_⟩
    rintro e w31 ⟨s32, rfl, ho32, hm32, hs32⟩
    have hr31 : Row w31 g (kg q s m) ea := hm32.row hrow h.r6
    obtain ⟨p1, p2⟩ := hr31.iR (j := 2) (v := .slice s32.a s32.n s32.c) (by simp) rfl
    refine ⟨s32, rfl, ⟨rfl, p1⟩, fun w33 e33 => ?_⟩
    obtain ⟨q1, q2⟩ := p2 w33 e33
    have hso : ∀ b, so.ax = some b → w.heap.size ≤ b := fun b hb => (hout.own.lt hb).1
    refine ⟨so, rfl, s32, ?_, ?_, ?_⟩
    ·unfold mv
     rw [← hkq, List.map_map]
     refine q2.cr (hm32.cr hout fun b hb hf => ?_) fun b hb hf => ?_
     ·have := hso b hb
      have := h.lt b (.inr (.inr hf)); omega
     ·have := hso b hb
      have := h.lt b (.inl hf); omega
    ·unfold mv
     rw [← hkq]
     refine ⟨q1, q2.cr ho32 fun b hb hf => ?_, kvs, q2.map (hm32.map hmap h.kh) (Ne.symm h.jh), htk⟩
     obtain ⟨cs, hr⟩ := au ho32 (by decide) hb
     exact hr.ne hr31 (by decide) hf
    ·refine da.eK (((hmod.mono fun b _ hb => .inr (.inl hb)).trans (hm32.mono fun b _ hb => .inr (.inr hb))).trans (q2.mono fun b _ hb => .inl hb)) fun b hb => .inl (hs32 ▸ hb))
end Go.Proofs.YtalpkjfpmdpbiaaGreatDoor.Q
