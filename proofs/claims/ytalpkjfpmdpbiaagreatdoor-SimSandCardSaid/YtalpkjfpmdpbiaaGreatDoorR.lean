import Derived.Test.YtalpkjfpmdpbiaaGreatDoorC
import Derived.Test.YtalpkjfpmdpbiaaGreatDoorP
import Derived.Test.YtalpkjfpmdpbiaaGreatDoorLib
set_option linter.all false
namespace Go.Proofs.YtalpkjfpmdpbiaaGreatDoor
open Go Go.Vc Go.RowKit Go.Proofs Go.aB
abbrev cg:TypeId:=166
abbrev xN:TypeId:=3
abbrev rv (r:Rn):List Value:=[.int .i64 r.1,.int .i64 r.2]
abbrev iv (b:Int):List Value:=[.int .i64 b]
abbrev dT (w:World) (s:Sl) (l:List Rn):Prop:=ba w s 2 (l.map rv)
abbrev vE (w:World) (s:Sl) (c:List Int):Prop:=ba w s 1 (c.map iv)
abbrev jG (B:Nat) (w:World) (s:Sl) (l:List Rn):Prop:=af B cg 2 w s (l.map rv)
abbrev Is (B:Nat) (w:World) (s:Sl) (c:List Int):Prop:=af B xN 1 w s (c.map iv)
theorem jG.pa {B:Nat} {w:World} {s:Sl} {l:List Rn} (h:jG B w s l):dT w s l:=af.rd h (by omega)
theorem Is.II {B:Nat} {w:World} {s:Sl} {c:List Int} (h:Is B w s c):vE w s c:=af.rd h (by omega)
theorem dT.len {w:World} {s:Sl} {l:List Rn} (h:dT w s l):s.n=l.length:=by have:=h.n;simpa using this
theorem vE.len {w:World} {s:Sl} {c:List Int} (h:vE w s c):s.n=c.length:=by have:=h.n;simpa using this
theorem dT.get {w:World} {s:Sl} {l:List Rn} (_:dT w s l) {i:Nat} {r:Rn} (hi:l[i]? =some r):(l.map rv)[i]? =some (rv r):=by rw [List.getElem?_map,hi];rfl
theorem dT.c0 {w : World} {s : Sl} {l : List Rn} (h : dT w s l) {i : Nat} {r : Rn} (hi : l[i]? = some r) : ld w (ae (ae s.a (i * 2)) 0) = some (.int .i64 r.1) := ba.at h (dT.get h hi) (j := 0) rfl
theorem dT.c1 {w : World} {s : Sl} {l : List Rn} (h : dT w s l) {i : Nat} {r : Rn} (hi : l[i]? = some r) : ld w (ae (ae s.a (i * 2)) 1) = some (.int .i64 r.2) := ba.at h (dT.get h hi) (j := 1) rfl
theorem dT.ll {w : World} {s : Sl} {l : List Rn} (h : dT w s l) {i : Nat} {r : Rn} (hi : l[i]? = some r) : aj w (ae s.a (i * 2)) 0 [r.1, r.2] := ba.aX h (dT.get h hi)
theorem vE.c0 {w : World} {s : Sl} {l : List Int} (h : vE w s l) {i : Nat} {b : Int} (hi : l[i]? = some b) : ld w (ae s.a (i * 1)) = some (.int .i64 b) := by
 have := h.rd i (iv b) (by rw [List.getElem?_map, hi]; rfl) 0 _ rfl
 simpa using this
theorem dT.eV {w : World} {s : Sl} {l : List Rn} (h : dT w s l) {i : Nat} (hi : i < l.length) : cn s.a (i : Int) s.n := ba.eV h (by omega) (by omega) (by have := dT.len h; omega)
theorem vE.eV {w : World} {s : Sl} {l : List Int} (h : vE w s l) {i : Nat} (hi : i < l.length) : cn s.a (i : Int) s.n := ba.eV h (by omega) (by omega) (by have := vE.len h; omega)
theorem dT.some {w:World} {s:Sl} {l:List Rn} (h:dT w s l) {i:Nat} (hi:i<l.length):(ae s.a (i*2)).isSome=true:=by rw [gH];exact ba.isSome h (by omega) (i:=i) (by simpa using hi)
theorem aN {α:Type} {l:List α} {i:Nat} (h:i<l.length):∃r,l[i]? =some r:=⟨_,List.getElem?_eq_getElem h⟩
abbrev Bd (n:Nat):Prop:=n<=1099511627776
theorem ko (s : Sl) (l : List Rn) (w : World) (hs : dT w s l) (hb : Bd l.length) (hl : ∀ r ∈ l, 0 ≤ r.1) (hsum : aF l ≤ 1099511627776) :
  Calls Tryz.prog ja #[s] w fun e w' => e = .returned (.int .i64 (aF l)) ∧ Ext w w' := by
 have hsn := dT.len hs
 apply uC.vc
 refine ⟨fun n x y wr => ∃ k : Nat, x = k ∧ k + n = l.length ∧ Ext w wr ∧ y = aF (l.take k), ⟨l.length, 0, rfl, by omega, Ext.aq w, rfl⟩, ?_⟩
 rintro n us x y wr ⟨k, rfl, hk, xr, rfl⟩
 have hw := ag (n := (k : Int) + 1) (by unfold inI; omega)
 refine Br.mk (fun h => ?_) (fun h => ?_) <;> simp at h
 ·obtain ⟨r, hr⟩ := aN (l := l) (i := k) (by omega)
  refine ⟨dT.eV hs (by omega), _, _, dT.ll (hs.ext xr) hr, ?_⟩
  rintro w9 rfl w10 rfl
  have e : aF (l.take (k + 1)) = aF (l.take k) + r.1 := by
   rw [List.take_add_one, hr]
   simp [aF]
  have h0 : 0 ≤ aF (l.take k) ∧ 0 ≤ r.1 ∧ aF (l.take (k + 1)) ≤ aF l := by
   refine ⟨?_, hl r (List.mem_of_getElem? hr), ?_⟩
   ·rw [bI fun q hq => hl q (List.mem_of_mem_take hq)]; omega
   ·have := zy (l.take (k + 1)) (l.drop (k + 1))
    rw [List.take_append_drop] at this
    have h2 : 0 ≤ aF (l.drop (k + 1)) := by rw [bI fun q hq => hl q (List.mem_of_mem_drop hq)]; omega
    omega
  have hw2 := ag (n := aF (l.take k) + r.1) (by unfold inI; omega)
  refine ⟨n - 1, by omega, k + 1, by omega, by omega, ((xr.tr (Ext.al _ _)).setRow xr.size _), by rw [hw2, e]⟩
 ·obtain rfl : k = l.length := by omega
  rw [List.take_length]
  exact ⟨rfl, xr⟩
end Go.Proofs.YtalpkjfpmdpbiaaGreatDoor
namespace Go.Proofs.YtalpkjfpmdpbiaaGreatDoor
open Go Go.Vc Go.RowKit Go.Proofs Go.aB
abbrev HX (s:Sl) (w w':World):Prop:=∀j,s.ax≠some j->j<w.heap.size->w'.heap[j]? =w.heap[j]?
theorem uU (B : Nat) (s : Sl) (l : List Rn) (r : Rn) (w : World) (hB : B ≤ w.heap.size) (ho : jG B w s l) (hn : Bd l.length) (hl : ∀ q ∈ l, 0 ≤ q.1 ∧ q.1 ≤ 1099511627776) (hr : r.1 ≤ 1099511627776) :
  Calls Tryz.prog dC #[s, .agg #[r.1, r.2]] w fun e w' => ∃ s' : Sl, e = .returned s' ∧ jG B w' s' (dh l r) ∧ Below B w w' ∧ HX s w w' := by
 have hsn := dT.len ho.pa
 apply rG.vc
 rintro w0 rfl
 have xa := Ext.al w (.cells #[r.1, r.2] cg)
 have xd := xa.drew
 have hz : (w.alloc (.cells #[r.1, r.2] cg)).drew.heap.size = w.heap.size + 1 := by simp [World.drew]
 have hw := ag (n := ((s.n : Nat) : Int) - 1) (by unfold inI; omega)
 have grow : ∀ (_ : 1 ≤ r.1) (_ : ∀ q, l.getLast? = some q → q.2 ≠ r.2), (∀ w4 : World, w4 = (w.alloc (.cells #[r.1, r.2] cg)).drew.alloc (.cells #[r.1, r.2] cg) →
   az 16 2 w4 ⟨s.a, s.n, s.c⟩ 1 [r.1, r.2] ∧ ∀ (s5 : Sl) (w6 : World), av cg 2 w4 ⟨s.a, s.n, s.c⟩ 1 [r.1, r.2] s5 w6 → w6.heap[w.heap.size]? = w4.heap[w.heap.size]? ∧ w6.heap[(w.alloc (.cells #[r.1, r.2] cg)).drew.heap.size]? = w4.heap[(w.alloc (.cells #[r.1, r.2] cg)).drew.heap.size]? ∧
   ∃ s' : Sl, Ending.returned (.slice s5.a s5.n s5.c) = .returned s' ∧ jG B w6 s' (dh l r) ∧ Below B w w6 ∧ HX s w w6) := by
  rintro h1 h2 w4 rfl
  obtain ⟨hp, hres⟩ := (af.ext ho xd).mB (bytes := 16) (news := rv r) (.cells #[r.1, r.2] cg) (Nat.le_trans hB xd.size) rfl (kV _ _ _ _) (by omega) (by omega)
  refine ⟨hp, fun s5 w6 hr' => ?_⟩
  obtain ⟨k1, ho', hn', xb, hk, hb⟩ := hres s5 w6 hr'
  refine ⟨?_, k1, s5, rfl, ?_, (Below.mono xd hB).trans xb, fun j hj hlt => ?_⟩
  ·rw [hk _ (fun hb => absurd (ho.own.lt hb).2 (Nat.lt_irrefl _)) (by omega)]
   symm
   exact (Ext.al _ _).k
  ·rw [bL h1 h2]
   show af B cg 2 w6 s5 ((l ++ [r]).map rv)
   rw [List.map_append]; exact ho'
  ·rw [hk j hj (by omega)]
   exact xd.heap hlt
 refine Br.mk (fun h => ?_) (fun h => ?_) <;> simp at h
 ·exact ⟨s, rfl, by rw [fZ h]; exact af.ext ho xa, Below.mono xa hB, fun j _ hj => xa.heap hj⟩
 rw [hw]
 refine Br.mk (fun h' => ?_) (fun h' => ?_) <;> simp at h'
 ·rcases k8 l with rfl | ⟨m, q, rfl⟩
  ·simp at hsn; omega
  rw [List.length_append] at hsn; simp at hsn
  have hnat : (((s.n : Nat) : Int) - 1).toNat = m.length := by omega
  have hq : (m ++ [q])[m.length]? = some q := by simp
  have hin : cn s.a (((s.n : Nat) : Int) - 1) s.n := by
   have := dT.eV ho.pa (i := m.length) (by simp)
   rwa [show ((m.length : Nat) : Int) = ((s.n : Nat) : Int) - 1 from by omega] at this
  have hsome := dT.some ho.pa (i := m.length) (by simp)
  rw [hnat]
  have r1 := ba.ext ho.pa xd
  have r2 := ba.ext ho.pa xd.drew
  refine ⟨hin, kQ.2 ⟨hsome, _, dT.c1 r1 hq, Br.mk (fun h2 => ?_) (fun h2 => ?_)⟩⟩
  ·simp at h2
   obtain ⟨q1, q2, q3, q4, q5⟩ := (af.ext ho xd.drew).set (i := m.length) (j := 0) (r := rv q) (v := .int .i64 (IntKind.wrap .i64 (q.1 + r.1))) (by rw [List.getElem?_map, hq]; rfl) (by omega) rfl (Nat.le_trans hB xd.drew.size)
   refine ⟨hin, kQ.2 ⟨hsome, _, dT.c0 r2 hq, hin, kQ.2 ⟨hsome, ⟨q1, q2⟩, ?_, ?_⟩⟩⟩
   ·intro hb
    have : s.ax = some w.heap.size := by
     rw [br, br] at hb
     exact hb
    exact absurd (ho.own.lt this).2 (Nat.lt_irrefl _)
   ·rintro w3 rfl
    have hwq := ag (n := q.1 + r.1) (by have := hl q (by simp); unfold inI; omega)
    rw [hwq] at q3 q4 q5 ⊢
    refine ⟨s, rfl, ?_, (Below.mono xd.drew hB).trans q4, fun j hj hlt => ?_⟩
    ·rw [cY h h2]
     show af B cg 2 _ s ((m ++ [(q.1 + r.1, q.2)]).map rv)
     have e : ((m ++ [q]).map rv).set m.length ((rv q).set 0 (.int .i64 (q.1 + r.1))) = (m ++ [(q.1 + r.1, q.2)]).map rv := by
      rw [List.map_append, List.map_append, List.set_append_right _ _ (by simp)]
      simp
     rw [← e]; exact q3
    ·rw [q5 j hj]; exact xd.drew.heap hlt
  ·exact grow h (by intro p hp; simp at hp; subst hp; simpa using h2)
 ·have : l = [] := by
   apply List.eq_nil_of_length_eq_zero; omega
  subst this
  exact grow h (by simp)
theorem lM (B : Nat) (s : Sl) (c : List Int) (r : Rn) (w : World) (hB : B ≤ w.heap.size) (ho : jG B w s (bN c)) (hn : Bd c.length) (hr : r.1 ≤ 1099511627776) :
  Calls Tryz.prog dC #[s, .agg #[r.1, r.2]] w fun e w' => ∃ s' : Sl, e = .returned s' ∧ jG B w' s' (bN (c ++ List.replicate r.1.toNat r.2)) ∧ Below B w w' ∧ HX s w w' := by
 rw [← qi]
 refine uU B s _ r w hB ho (by have := jE c; unfold Bd at *; omega) (fun q hq => ?_) hr
 have := gm hq
 unfold Bd at hn
 omega
theorem uV (n b : Int) (w : World) (hn : n ≤ 1099511627776) :
  Calls Tryz.prog ni #[n, b] w fun e w' => ∃ s' : Sl, e = .returned s' ∧ jG w.heap.size w' s' (bN (List.replicate n.toNat b)) ∧ Ext w w' := by
 apply rI.vc
 refine (lM w.heap.size ⟨none, 0, 0⟩ [] (n, b) w (Nat.le_refl _) af.nil (by simp) hn).mono ?_
 rintro e w' ⟨s', rfl, ho, x, _⟩
 exact ⟨s', rfl, s', rfl, by simpa using ho, x⟩
theorem xM (s : Sl) (c : List Int) (w : World) (hs : vE w s c) (hn : Bd c.length) :
  Calls Tryz.prog rq #[s] w fun e w' => ∃ s' : Sl, e = .returned s' ∧ jG w.heap.size w' s' (bN c) ∧ Ext w w' := by
 have hsn := vE.len hs
 apply xV.vc
 refine ⟨fun n x o wr => ∃ k : Nat, x = k ∧ k + n = c.length ∧ Ext w wr ∧ jG w.heap.size wr o (bN (c.take k)), ⟨c.length, 0, rfl, by omega, Ext.aq w, af.nil⟩, ?_⟩
 rintro n us x o wr ⟨k, rfl, hk, xr, ho⟩
 unfold Bd at hn
 have hw := ag (n := (k : Int) + 1) (by unfold inI; omega)
 refine Br.mk (fun h => ?_) (fun h => ?_) <;> simp at h
 ·obtain ⟨b, hb⟩ := aN (l := c) (i := k) (by omega)
  refine ⟨vE.eV hs (by omega), _, vE.c0 (hs.ext xr) hb, ?_⟩
  refine (lM w.heap.size o _ (1, b) wr xr.size ho (by rw [List.length_take]; unfold Bd; omega) (by show (1 : Int) ≤ _; omega)).mono ?_
  rintro e w' ⟨s', rfl, ho', x', _⟩
  refine ⟨s', rfl, n - 1, by omega, k + 1, by omega, by omega, xr.trans x', ?_⟩
  rw [List.take_add_one, hb]
  exact ho'
 ·obtain rfl : k = c.length := by omega
  rw [List.take_length] at ho
  exact ⟨o, rfl, ho, xr⟩
end Go.Proofs.YtalpkjfpmdpbiaaGreatDoor
namespace Go.Proofs.YtalpkjfpmdpbiaaGreatDoor
open Go Go.Vc Go.RowKit Go.Proofs Go.aB
theorem jj {l:List Rn} {k:Nat} {r:Rn} (hr:l[k]? =some r):aF (l.take (k+1))=aF (l.take k)+r.1:=by
 rw [List.take_add_one,hr];simp [aF]
theorem B2 {l:List Rn} (hl:∀r ∈ l,0<=r.1):0<=aF l:=by rw [bI hl];omega
theorem fq {l : List Rn} (hl : ∀ r ∈ l, 0 ≤ r.1) (k : Nat) : 0 ≤ aF (l.take k) ∧ aF (l.take k) ≤ aF l := by
 refine ⟨B2 fun q hq => hl q (List.mem_of_mem_take hq), ?_⟩
 have := zy (l.take k) (l.drop k)
 rw [List.take_append_drop] at this
 have h2 := B2 (l := l.drop k) fun q hq => hl q (List.mem_of_mem_drop hq)
 omega
theorem mf {l:List Rn} {k:Nat} {r:Rn} (hr:l[k]? =some r):aH (l.take (k+1))=aH (l.take k)++List.replicate r.1.toNat r.2:=by
 rw [List.take_add_one,hr,cT];exact congrArg _ (dH r)
theorem H3 (c:List Int) (a b:Int):(vU c a b).length<=c.length:=by unfold vU;simp;omega
theorem oN (s : Sl) (l : List Rn) (a b : Int) (w : World) (hs : dT w s l) (hn : Bd l.length) (hl : ∀ r ∈ l, 0 ≤ r.1) (hsum : aF l ≤ 1099511627776) (ha : 0 ≤ a) (hb : 0 ≤ b) :
  Calls Tryz.prog ly #[s, a, b] w fun e w' => ∃ s' : Sl, e = .returned s' ∧ jG w.heap.size w' s' (bN (vU (aH l) a b)) ∧ Ext w w' := by
 have hsn := dT.len hs
 unfold Bd at hn
 apply uD.vc
 refine ⟨fun n x y o wr => ∃ k : Nat, x = k ∧ k + n = l.length ∧ Ext w wr ∧ y = aF (l.take k) ∧ jG w.heap.size wr o (bN (vU (aH (l.take k)) a b)), ⟨l.length, 0, rfl, by omega, Ext.aq w, rfl, ?_⟩, ?_⟩
 ·have : vU (aH (l.take 0)) a b = [] := by simp [vU, aH]
  rw [this]; exact af.nil
 rintro n us x y o wr ⟨k, rfl, hk, xr, rfl, ho⟩
 have hw := ag (n := (k : Int) + 1) (by unfold inI; omega)
 refine Br.mk (fun h => ?_) (fun h => ?_) <;> simp at h
 ·obtain ⟨r, hr⟩ := aN (l := l) (i := k) (by omega)
  have e := jj hr
  have hr0 := hl r (List.mem_of_getElem? hr)
  have b1 := fq hl k
  have b2 := fq hl (k + 1)
  have hw2 := ag (n := aF (l.take k) + r.1) (by unfold inI; omega)
  have hc : ((aH (l.take k)).length : Int) = aF (l.take k) := (bI fun q hq => hl q (List.mem_of_mem_take hq)).symm
  have hseg : vU (aH (l.take (k + 1))) a b = vU (aH (l.take k)) a b ++ List.replicate (min b (aF (l.take k) + r.1) - max a (aF (l.take k))).toNat r.2 := by
   rw [mf hr, EW _ _ _ _ _ ha hb]
   congr 2
   omega
  refine ⟨dT.eV hs (by omega), _, _, dT.ll (hs.ext xr) hr, ?_⟩
  rintro w9 rfl w10 rfl
  rw [hw2]
  have x10 := ((xr.tr (Ext.al _ (.cells #[(0:Int), (0:Int)] cg))).setRow xr.size #[r.1, r.2])
  have e1 : (if aF (l.take k) + r.1 < b then aF (l.take k) + r.1 else b) = min b (aF (l.take k) + r.1) := by split <;> omega
  have e2 : (if aF (l.take k) > a then aF (l.take k) else a) = max a (aF (l.take k)) := by split <;> omega
  rw [e1, e2]
  have hkeep : ∀ g, o.ax = some g → (((wr.alloc (.cells #[(0:Int), (0:Int)] cg)).setRow wr.heap.size #[r.1, r.2]).drew).heap[g]? = wr.heap[g]? := by
   intro g hg
   have := (ho.own.lt hg).2
   show ((wr.alloc _).setRow wr.heap.size _).heap[g]? = _
   rw [setRow_other _ _ _ _ (by omega)]
   exact (Ext.al _ _).heap this
  have ho2 := af.bC ho hkeep
  have hlen : (vU (aH (l.take k)) a b).length ≤ 1099511627776 := by have := H3 (aH (l.take k)) a b; omega
  refine Br.mk (fun h2 => ?_) (fun h2 => ?_) <;> simp only [decide_eq_true_eq, decide_eq_false_iff_not] at h2
  ·have hw3 := ag (n := min b (aF (l.take k) + r.1) - max a (aF (l.take k))) (by unfold inI; omega)
   rw [hw3]
   refine (lM w.heap.size o _ (min b (aF (l.take k) + r.1) - max a (aF (l.take k)), r.2) _ x10.drew.size ho2 hlen (by show min b (aF (l.take k) + r.1) - max a (aF (l.take k)) ≤ _; omega)).mono ?_
   rintro e w' ⟨s', rfl, ho', x', hkp⟩
   refine ⟨s', rfl, hkp _ (fun hb => absurd (ho.own.lt hb).2 (Nat.lt_irrefl _)) (by simp [World.drew, World.setRow]), n - 1, by omega, k + 1, by omega, by omega, x10.drew.trans x', by omega, ?_⟩
   rw [hseg]; exact ho'
  ·refine ⟨n - 1, by omega, k + 1, by omega, by omega, x10.drew, by omega, ?_⟩
   rw [hseg, show (min b (aF (l.take k) + r.1) - max a (aF (l.take k))).toNat = 0 from by omega]
   simpa using ho2
 ·obtain rfl : k = l.length := by omega
  rw [List.take_length] at ho
  exact ⟨o, rfl, ho, xr⟩
theorem ga (s : Sl) (l : List Rn) (w : World) (hs : dT w s l) (hn : Bd l.length) :
  Calls Tryz.prog aY #[s] w fun e w' => ∃ s' : Sl, e = .returned s' ∧ jG w.heap.size w' s' l ∧ Ext w w' := by
 have hsn := dT.len hs
 unfold Bd at hn
 apply fQ.vc
 refine Br.mk (fun h => ?_) (fun h => ?_)
 ·have : l = [] := by
   rcases Nat.eq_zero_or_pos l.length with h0 | h0
   ·exact List.eq_nil_of_length_eq_zero h0
   ·have := ba.isSome hs (by omega) (i := 0) (by simpa using h0)
    cases hsa : s.a <;> simp [hsa] at h this
  subst this
  exact ⟨⟨none, 0, 0⟩, rfl, af.nil, Ext.aq w⟩
 ·rintro w0 rfl
  have xa := Ext.al w (.cells #[] cg)
  have hz : Go.Vc.Own w.heap.size cg 2 (w.alloc (.cells #[] cg)) ⟨some ⟨w.heap.size, 0, none⟩, 0, 0⟩ [] := .row w.heap.size 0 0 [] (Nat.le_refl _) (Row.new w [] cg) (by simp) (Nat.le_refl _)
  have hf : (l.map rv).flatten.length = s.n * 2 := by rw [aL hs.wd]; simp [hsn]
  have h1 : One (l.map rv).flatten := cl fun r hr => by
   obtain ⟨q, _, rfl⟩ := List.mem_map.1 hr
   exact kV _ _ _ _
  obtain ⟨hp, hr⟩ := hz.append (bytes := 16) (m := s.n) (news := (l.map rv).flatten) xa.size hf h1 (by simp; omega) (by simp; omega)
  refine ⟨(l.map rv).flatten, ba.flat (hs.ext xa) (by omega), hp, fun s2 w3 hres => ?_⟩
  obtain ⟨ho, hn2, xb, _, _⟩ := hr s2 w3 hres
  refine ⟨sH hres hf (by simp), s2, rfl, ⟨by simpa using ho, hs.wd⟩, xa.trans xb⟩
theorem u4 (s : Sl) (ss : List Sl) (cs : List (List Int)) (w : World) (hs : ba w s 1 (ss.map fun t => [.slice t.a t.n t.c])) (hlen : ss.length = cs.length)
  (hr : ∀ (i : Nat) (t : Sl) (c : List Int), ss[i]? = some t → cs[i]? = some c → dT w t (bN c)) (hb : Bd ss.length) (hn : Bd cs.flatten.length) :
  Calls Tryz.prog nh #[s] w fun e w' => ∃ s' : Sl, e = .returned s' ∧ jG w.heap.size w' s' (bN cs.flatten) ∧ Ext w w' := by
 have hsn : s.n = ss.length := by have := hs.n; simpa using this
 unfold Bd at hn hb
 apply rH.vc
 refine ⟨fun n x o wr => ∃ k : Nat, x = k ∧ k + n = ss.length ∧ Ext w wr ∧ jG w.heap.size wr o (bN (cs.take k).flatten), ⟨ss.length, 0, rfl, by omega, Ext.aq w, af.nil⟩, ?_⟩
 rintro n us x o wr ⟨k, rfl, hk, xr, ho⟩
 have hw := ag (n := (k : Int) + 1) (by unfold inI; omega)
 refine Br.mk (fun h => ?_) (fun h => ?_) <;> simp at h
 ·obtain ⟨t, ht⟩ := aN (l := ss) (i := k) (by omega)
  obtain ⟨c, hc⟩ := aN (l := cs) (i := k) (by omega)
  have hrt := hr k t c ht hc
  have htn := dT.len hrt
  have hfl : (cs.take (k + 1)).flatten = (cs.take k).flatten ++ c := by rw [List.take_add_one, hc]; simp
  have hle : (cs.take k).flatten.length + c.length ≤ cs.flatten.length := by
   have e := congrArg List.length (congrArg List.flatten (List.take_append_drop (k + 1) cs))
   rw [List.flatten_append, hfl] at e
   simp only [List.length_append] at e
   omega
  have hcl := jE c
  have hld := hs.rd k [.slice t.a t.n t.c] (by rw [List.getElem?_map, ht]; rfl) 0 _ rfl
  refine ⟨ba.eV hs (by omega) (by omega) (by omega), t, xr.ld (by simpa using hld), ?_⟩
  refine ⟨fun n x o wr => ∃ j : Nat, x = j ∧ j + n = (bN c).length ∧ Ext w wr ∧ jG w.heap.size wr o (bN ((cs.take k).flatten ++ aH ((bN c).take j))), ⟨(bN c).length, 0, rfl, by omega, xr, by simpa [aH] using ho⟩, ?_⟩
  rintro n2 us2 x2 o2 w2 ⟨j, rfl, hj, x2, ho2⟩
  have hw2 := ag (n := (j : Int) + 1) (by unfold inI; omega)
  refine Br.mk (fun h2 => ?_) (fun h2 => ?_) <;> simp at h2
  ·obtain ⟨r, hrr⟩ := aN (l := bN c) (i := j) (by omega)
   have hrm := gm (List.mem_of_getElem? hrr)
   refine ⟨dT.eV hrt (by omega), _, _, dT.ll (hrt.ext x2) hrr, ?_⟩
   rintro w9 rfl w10 rfl
   have x10 := ((x2.tr (Ext.al _ (.cells #[(0:Int), (0:Int)] cg))).setRow x2.size #[r.1, r.2])
   have ho3 := af.bC (w' := (w2.alloc (.cells #[(0:Int), (0:Int)] cg)).setRow w2.heap.size #[r.1, r.2]) ho2 (by
    intro g hg
    have := (ho2.own.lt hg).2
    rw [setRow_other _ _ _ _ (by omega)]
    exact (Ext.al _ _).heap this)
   have hl2 : ((cs.take k).flatten ++ aH ((bN c).take j)).length ≤ 1099511627776 := by
    rw [List.length_append]
    have h3 := fq (l := bN c) (fun q hq => by have := gm hq; omega) j
    rw [gF, bI fun q hq => by have := gm (List.mem_of_mem_take hq); omega] at h3
    omega
   refine (lM w.heap.size o2 _ r _ x10.size ho3 hl2 (by omega)).mono ?_
   rintro e w' ⟨s', rfl, ho', x', hkp⟩
   refine ⟨s', rfl, hkp _ (fun hb => absurd (ho2.own.lt hb).2 (Nat.lt_irrefl _)) (by simp [World.setRow]), n2 - 1, by omega, j + 1, by omega, by omega, x10.trans x', ?_⟩
   rw [mf hrr, ← List.append_assoc]; exact ho'
  ·obtain rfl : j = (bN c).length := by omega
   refine ⟨n - 1, by omega, k + 1, by omega, by omega, x2, ?_⟩
   rw [List.take_length, iL] at ho2
   rw [hfl]; exact ho2
 ·obtain rfl : k = ss.length := by omega
  rw [hlen, List.take_length] at ho
  exact ⟨o, rfl, ho, xr⟩
end Go.Proofs.YtalpkjfpmdpbiaaGreatDoor
namespace Go.Proofs.YtalpkjfpmdpbiaaGreatDoor
open Go Go.Vc Go.RowKit Go.Proofs Go.aB
theorem vx (s : Sl) (c : List Int) (a b x : Int) (w : World) (hs : dT w s (bN c)) (hn : Bd c.length) (ha : inI a) (hb : inI b) :
  Calls Tryz.prog ng #[s, a, b, x] w fun e w' => ∃ s' : Sl, e = .returned s' ∧ jG w.heap.size w' s' (bN (if aC x then qF c a b x else c)) ∧ Ext w w' := by
 have hl : Bd (bN c).length := Nat.le_trans (jE c) hn
 have hp : ∀ r ∈ bN c, 0 ≤ r.1 := fun r hr => by have := gm hr; omega
 have hsum : aF (bN c) ≤ 1099511627776 := by rw [gF]; unfold Bd at hn; omega
 unfold Bd at hn
 unfold inI at ha hb
 apply rF.vc
 refine (ko s _ w hs hl hp hsum).mono ?_
 rintro e w1 ⟨rfl, x1⟩
 rw [gF]
 refine ⟨_, rfl, (dG x w1).mono ?_⟩
 rintro e w2 ⟨rfl, x2⟩
 have x12 := x1.tr x2
 have e1 : (if ((c.length : Nat) : Int) < (if 0 > a then 0 else a) then ((c.length : Nat) : Int) else (if 0 > a then 0 else a)) = min (max a 0) (c.length : Int) := by split <;> split <;> omega
 have e2 : (if ((c.length : Nat) : Int) < (if 0 > b then 0 else b) then ((c.length : Nat) : Int) else (if 0 > b then 0 else b)) = min (max b 0) (c.length : Int) := by split <;> split <;> omega
 rw [e1, e2]
 refine ⟨_, rfl, Br.mk (fun h => ?_) (fun h => Br.mk (fun h2 => ?_) (fun h2 => ?_))⟩
 ·simp at h
  refine (ga s _ w2 (hs.ext x12) hl).mono ?_
  rintro e w3 ⟨s', rfl, ho, x3⟩
  refine ⟨s', rfl, s', rfl, ?_, x12.tr x3⟩
  rw [h]
  exact af.low ho x12.size
 ·simp at h h2
  refine (ga s _ w2 (hs.ext x12) hl).mono ?_
  rintro e w3 ⟨s', rfl, ho, x3⟩
  refine ⟨s', rfl, s', rfl, ?_, x12.tr x3⟩
  rw [h, if_pos rfl, Be c a b x (by omega)]
  exact af.low ho x12.size
 ·replace h2 := eO h2
  have hm : aC x = true := by simpa using h
  have hw := ag (n := min (max b 0) (c.length : Int) - min (max a 0) (c.length : Int)) (by unfold inI; omega)
  rw [hw]
  refine (oN s _ 0 (min (max a 0) (c.length : Int)) w2 (hs.ext x12) hl hp hsum (by omega) (by omega)).mono ?_
  rintro e w3 ⟨s1, rfl, o1, x3⟩
  refine ⟨s1, rfl, (uV (min (max b 0) (c.length : Int) - min (max a 0) (c.length : Int)) x w3 (by omega)).mono ?_⟩
  rintro e w4 ⟨s2, rfl, o2, x4⟩
  refine ⟨s2, rfl, (oN s _ (min (max b 0) (c.length : Int)) c.length w4 (((hs.ext x12).ext x3).ext x4) hl hp hsum (by omega) (by omega)).mono ?_⟩
  rintro e w5 ⟨s3, rfl, o3, x5⟩
  refine ⟨s3, rfl, ?_⟩
  rintro w6 rfl
  have x6 := Ext.al w5 (.cells #[s1, s2, s3] 106)
  rw [iL] at o1 o3
  have hrow := Row.new w5 [s1, s2, s3] 106
  have hrd : ba (w5.alloc (.cells #[s1, s2, s3] 106)) ⟨some ⟨w5.heap.size, 0, none⟩, 3, 3⟩ 1 ([s1, s2, s3].map fun t => [.slice t.a t.n t.c]) := by
   refine ⟨rfl, by simp, fun i r hi j v hj => ?_⟩
   show ld _ (ae (some ⟨w5.heap.size, 0, none⟩) _) = _
   rw [aP, hrow.ld]
   rcases i with _ | _ | _ | i <;> simp at hi
   all_goals subst hi
   all_goals rcases j with _ | j <;> simp at hj
   all_goals subst hj; rfl
  refine (u4 _ [s1, s2, s3] [vU c 0 (min (max a 0) (c.length : Int)), List.replicate (min (max b 0) (c.length : Int) - min (max a 0) (c.length : Int)).toNat x, vU c (min (max b 0) (c.length : Int)) c.length] _ hrd rfl ?_ (by simp) ?_).mono ?_
  ·intro i t d ht hd
   rcases i with _ | _ | _ | i <;> simp at ht hd
   ·subst ht; subst hd
    exact (((o1.ext x4).ext x5).ext x6).rd (by omega)
   ·subst ht; subst hd
    exact ((o2.ext x5).ext x6).rd (by omega)
   ·subst ht; subst hd
    exact (o3.ext x6).rd (by omega)
  ·have e := congrArg List.length (wQ c a b x (by omega))
   rw [Da] at e
   simp only [List.flatten_cons, List.flatten_nil, List.append_nil, List.length_append] at e ⊢
   unfold Bd
   omega
  ·rintro e w7 ⟨s', rfl, ho, x7⟩
   have xx := (((x12.tr x3).tr x4).tr x5).tr x6
   refine ⟨s', rfl, s', rfl, ?_, xx.tr x7⟩
   rw [if_pos hm, wQ c a b x (by omega)]
   have ho := af.low ho xx.size
   simpa using ho
def DB (c:List Int) (i x:Int):List Int:=if aC x=true/\0<=i/\i<(c.length:Int)then c.set i.toNat x else c
theorem vZ (s : Sl) (c : List Int) (i x : Int) (w : World) (hs : dT w s (bN c)) (hn : Bd c.length) (hi : inI i) :
  Calls Tryz.prog pn #[s, i, x] w fun e w' => ∃ s' : Sl, e = .returned s' ∧ jG w.heap.size w' s' (bN (DB c i x)) ∧ Ext w w' := by
 have hl : Bd (bN c).length := Nat.le_trans (jE c) hn
 have hp : ∀ r ∈ bN c, 0 ≤ r.1 := fun r hr => by have := gm hr; omega
 have hsum : aF (bN c) ≤ 1099511627776 := by rw [gF]; unfold Bd at hn; omega
 have hi' := hi
 have hn' := hn
 unfold Bd at hn'
 unfold inI at hi'
 apply uz.vc
 refine Br.mk (fun h => ?_) (fun h => ?_) <;> simp at h
 ·refine (ga s _ w hs hl).mono ?_
  rintro e w3 ⟨s', rfl, ho, x3⟩
  refine ⟨s', rfl, s', rfl, ?_, x3⟩
  unfold DB
  rw [if_neg (by omega)]; exact ho
 ·refine (ko s _ w hs hl hp hsum).mono ?_
  rintro e w1 ⟨rfl, x1⟩
  rw [gF]
  refine ⟨_, rfl, Br.mk (fun h2 => ?_) (fun h2 => ?_)⟩ <;> simp at h2
  ·refine (ga s _ w1 (hs.ext x1) hl).mono ?_
   rintro e w3 ⟨s', rfl, ho, x3⟩
   refine ⟨s', rfl, s', rfl, ?_, x1.tr x3⟩
   unfold DB
   rw [if_neg (by omega)]; exact af.low ho x1.size
  ·have hw := ag (n := i + 1) (by unfold inI; omega)
   rw [hw]
   refine (vx s c i (i + 1) x w1 (hs.ext x1) hn hi (by unfold inI; omega)).mono ?_
   rintro e w3 ⟨s', rfl, ho, x3⟩
   refine ⟨s', rfl, s', rfl, ?_, x1.tr x3⟩
   unfold DB
   have := af.low ho x1.size
   rw [Db c i x h h2] at this
   cases hm : aC x
   ·rw [hm] at this
    rw [if_neg (by simp)]; exact this
   ·rw [hm] at this
    rw [if_pos ⟨rfl, h, h2⟩]; exact this
theorem FH (a b:Int):IntKind.wrap .i64 (IntKind.wrap .i64 a-b)=IntKind.wrap .i64 (a-b):=by
 unfold IntKind.wrap
 simp only [IntKind.bits,IntKind.signed,Bool.true_and]
 split<;>split<;>split<;>simp_all<;>omega
theorem yw (s : Sl) (l : List Rn) (i : Int) (w : World) (hs : dT w s l) (hn : Bd l.length) (hl : ∀ r ∈ l, 0 ≤ r.1) (hsum : aF l ≤ 1099511627776) (hi : inI i) :
  Calls Tryz.prog rp #[s, i] w fun e w' => e = .returned (.int .i64 (FT (aH l) i)) ∧ Ext w w' := by
 have hsn := dT.len hs
 unfold Bd at hn
 apply xU.vc
 refine ⟨fun n x y wr => ∃ k : Nat, x = k ∧ k + n = l.length ∧ Ext w wr ∧ y = IntKind.wrap .i64 (i - aF (l.take k)) ∧ (i < 0 ∨ aF (l.take k) ≤ i), ⟨l.length, 0, rfl, by omega, Ext.aq w, ?_, ?_⟩, ?_⟩
 ·rw [show aF (l.take 0) = 0 from rfl, Int.sub_zero, ag hi]
 ·rw [show aF (l.take 0) = 0 from rfl]; omega
 rintro n us x y wr ⟨k, rfl, hk, xr, rfl, hno⟩
 have hw := ag (n := (k : Int) + 1) (by unfold inI; omega)
 unfold inI at hi
 have hc : ∀ k, ((aH (l.take k)).length : Int) = aF (l.take k) := fun k => (bI fun q hq => hl q (List.mem_of_mem_take hq)).symm
 refine Br.mk (fun h => ?_) (fun h => ?_) <;> simp at h
 ·obtain ⟨r, hr⟩ := aN (l := l) (i := k) (by omega)
  have e := jj hr
  have hr0 := hl r (List.mem_of_getElem? hr)
  have b1 := fq hl k
  have b2 := fq hl (k + 1)
  refine ⟨dT.eV hs (by omega), _, _, dT.ll (hs.ext xr) hr, ?_⟩
  rintro w9 rfl w10 rfl
  have x10 := ((xr.tr (Ext.al _ (.cells #[(0:Int), (0:Int)] cg))).setRow xr.size #[r.1, r.2])
  have hwi := E4 (i - aF (l.take k))
  unfold inI at hwi
  have hneg : i < 0 → (0 ≤ IntKind.wrap .i64 (i - aF (l.take k)) → IntKind.wrap .i64 (i - aF (l.take k)) < r.1 → False) := by
   intro h0 h1 h2
   revert h1 h2
   unfold IntKind.wrap
   simp only [IntKind.bits, IntKind.signed, Bool.true_and]
   split <;> simp_all <;> omega
  have hpos : 0 ≤ i → aF (l.take k) ≤ i → IntKind.wrap .i64 (i - aF (l.take k)) = i - aF (l.take k) := fun _ _ => wI
  have nx : (i < 0 ∨ aF (l.take (k + 1)) ≤ i) → ∃ n6, n6 < n ∧ ∃ k_1 : Nat, IntKind.wrap .i64 ((k : Int) + 1) = k_1 ∧ k_1 + n6 = l.length ∧ Ext w ((wr.alloc (.cells #[(0:Int), (0:Int)] cg)).setRow wr.heap.size #[r.1, r.2]) ∧
    IntKind.wrap .i64 (IntKind.wrap .i64 (i - aF (l.take k)) - r.1) = IntKind.wrap .i64 (i - aF (l.take k_1)) ∧ (i < 0 ∨ aF (l.take k_1) ≤ i) :=
   fun hh => ⟨n - 1, by omega, k + 1, by omega, by omega, x10, by rw [FH, e, Int.sub_sub], hh⟩
  refine Br.mk (fun h1 => Br.mk (fun h2 => ?_) (fun h2 => ?_)) (fun h1 => ?_) <;> simp only [decide_eq_true_eq, decide_eq_false_iff_not] at *
  ·rcases Int.lt_or_le i 0 with h0 | h0
   ·exact (hneg h0 h1 h2).elim
   ·have hle : aF (l.take k) ≤ i := by omega
    have := hpos h0 hle
    have ht : l = l.take k ++ [r] ++ l.drop (k + 1) := by
     have := List.take_append_drop (k + 1) l
     rw [List.take_add_one, hr] at this
     exact this.symm
    refine ⟨?_, x10⟩
    have hcell : aH l = aH (l.take k) ++ List.replicate r.1.toNat r.2 ++ aH (l.drop (k + 1)) := by
     rw [← dH r, ← cT, ← cT, ← ht]
    rw [hcell, H2 _ _ _ _ _ (by rw [hc]; exact hle) (by rw [hc]; omega)]
  ·refine nx ?_
   rcases Int.lt_or_le i 0 with h0 | h0
   ·exact .inl h0
   ·have := hpos h0 (by omega); right; omega
  ·refine nx ?_
   rcases Int.lt_or_le i 0 with h0 | h0
   ·exact .inl h0
   ·have := hpos h0 (by omega); omega
 ·obtain rfl : k = l.length := by omega
  refine ⟨?_, xr⟩
  have := hc l.length
  rw [List.take_length] at this hno
  rw [GJ _ _ (by omega)]
theorem DC (may : Int → Bool) (prev : Option Int) (left : Int) (r : Rn) (t : List Rn) : oz may prev left (r :: t) = if r.1 < 1 ∨ r.1 > left ∨ may r.2 = false ∨ prev = some r.2 then false else oz may (some r.2) (left - r.1) t := rfl
theorem oS (s : Sl) (l : List Rn) (m : Int) (w : World) (hs : dT w s l) (hn : Bd l.length) (hm : inI m) :
  Calls Tryz.prog lv #[s, m] w fun e w' => e = .returned (.bool (j3 aC l m)) ∧ Ext w w' := by
 have hsn := dT.len hs
 unfold Bd at hn
 unfold inI at hm
 apply uB.vc
 have hprev : ∀ k, k < l.length → (l.take k).getLast? = if k = 0 then none else l[k - 1]? := by
  intro k hk
  rw [List.getLast?_eq_getElem?, List.getElem?_take, List.length_take, Nat.min_eq_left (by omega)]
  rcases Nat.eq_zero_or_pos k with rfl | h0
  ·simp
  ·rw [if_pos (by omega), if_neg (by omega)]
 refine ⟨fun n x y wr => ∃ k : Nat, x = k ∧ k + n = l.length ∧ Ext w wr ∧ y ≤ max m 0 ∧ (min m 0 ≤ y) ∧ oz aC ((l.take k).getLast?.map (·.2)) y (l.drop k) = oz aC none m l, ⟨l.length, 0, rfl, by omega, Ext.aq w, by omega, by omega, rfl⟩, ?_⟩
 rintro n us x y wr ⟨k, rfl, hk, xr, hy, hy0, heq⟩
 have hw := ag (n := (k : Int) + 1) (by unfold inI; omega)
 refine Br.mk (fun h => ?_) (fun h => ?_) <;> simp at h
 ·obtain ⟨r, hr⟩ := aN (l := l) (i := k) (by omega)
  have hd : l.drop k = r :: l.drop (k + 1) := by
   rw [List.drop_eq_getElem_cons (by omega)]
   rw [List.getElem?_eq_getElem (by omega)] at hr
   cases hr; rfl
  rw [hd] at heq
  rw [DC] at heq
  refine ⟨dT.eV hs (by omega), _, _, dT.ll (hs.ext xr) hr, ?_⟩
  rintro w9 rfl w10 rfl
  have x10 := ((xr.tr (Ext.al _ (.cells #[(0:Int), (0:Int)] cg))).setRow xr.size #[r.1, r.2]).drew
  have fin : ∀ w', Ext w w' → (r.1 < 1 ∨ r.1 > y ∨ aC r.2 = false ∨ (l.take k).getLast?.map (·.2) = some r.2) → Ending.returned (.bool false) = .returned (.bool (j3 aC l m)) ∧ Ext w w' := by
   intro w' x' hh
   rw [if_pos hh] at heq
   refine ⟨?_, x'⟩
   unfold j3
   rw [← heq]; simp
  refine Br.mk (fun h1 => ?_) (fun h1 => Br.mk (fun h2 => ?_) (fun h2 => ?_)) <;> simp only [decide_eq_true_eq, decide_eq_false_iff_not] at *
  ·exact fin _ x10 (.inl h1)
  ·exact fin _ x10 (.inr (.inl h2))
  ·refine (dG r.2 _).mono ?_
   rintro e w3 ⟨rfl, x3⟩
   have x4 := x10.tr x3
   have hrow : Row ((wr.alloc (.cells #[(0:Int), (0:Int)] cg)).setRow wr.heap.size #[r.1, r.2]).drew wr.heap.size [r.1, r.2] cg := (Row.new wr [(0:Int), (0:Int)] cg).set [r.1, r.2]
   have hrow3 := hrow.ext x3
   have hkeep := x3.heap hrow.lt
   have hll : aj w3 (some ⟨wr.heap.size, 0, none⟩) 0 [r.1] := by
    refine hrow3.aX (o := 0) fun j hj => ?_
    have : j = 0 := by simpa using hj
    subst this; rfl
   have nx : ((l.take k).getLast?.map (·.2) ≠ some r.2) → aC r.2 = true → ∃ n6, n6 < n ∧ ∃ k_1 : Nat, IntKind.wrap .i64 ((k : Int) + 1) = k_1 ∧ k_1 + n6 = l.length ∧ Ext w w3 ∧ IntKind.wrap .i64 (y - r.1) ≤ max m 0 ∧ min m 0 ≤ IntKind.wrap .i64 (y - r.1) ∧ oz aC ((l.take k_1).getLast?.map (·.2)) (IntKind.wrap .i64 (y - r.1)) (l.drop k_1) = oz aC none m l := by
    intro hne hbm
    have hwy := ag (n := y - r.1) (by unfold inI; omega)
    refine ⟨n - 1, by omega, k + 1, by omega, by omega, x4, by omega, by omega, ?_⟩
    rw [hwy]
    rw [if_neg (by
     rintro (h | h | h | h)
     ·omega
     ·omega
     ·rw [hbm] at h; cases h
     ·exact hne h)] at heq
    rw [← heq, List.take_add_one, hr]
    simp
   refine ⟨_, rfl, hkeep, hll, hll, Br.mk (fun h3 => ?_) (fun h3 => ?_)⟩
   ·exact fin _ x4 (.inr (.inr (.inl (by simpa using h3))))
   ·have hbm : aC r.2 = true := by simpa using h3
    refine Br.mk (fun h4 => ?_) (fun h4 => ?_) <;> simp at h4
    ·have hwk := ag (n := (k : Int) - 1) (by unfold inI; omega)
     rw [hwk]
     obtain ⟨q, hq⟩ := aN (l := l) (i := k - 1) (by omega)
     have hin := dT.eV hs (i := k - 1) (by omega)
     rw [show ((k - 1 : Nat) : Int) = (k : Int) - 1 from by omega] at hin
     have hcq := dT.c1 (hs.ext x4) hq
     have hsm := dT.some hs (i := k - 1) (by omega)
     rw [show ((k : Int) - 1).toNat = k - 1 from by omega]
     have hlast := hprev k (by omega)
     rw [if_neg (by omega), hq] at hlast
     refine ⟨hin, kQ.2 ⟨hsm, _, hcq, Br.mk (fun h5 => ?_) (fun h5 => ?_)⟩⟩
     ·exact fin _ x4 (.inr (.inr (.inr (by rw [hlast]; simpa using h5))))
     ·exact nx (by rw [hlast]; simpa using h5) hbm
    ·refine nx ?_ hbm
     have : k = 0 := by omega
     subst this; simp
 ·obtain rfl : k = l.length := by omega
  rw [List.drop_length] at heq
  refine Br.mk (fun h1 => ?_) (fun h1 => ?_) <;> simp at h1
  ·refine ⟨?_, xr⟩
   unfold j3
   rw [← heq, decide_eq_true h1]
   rfl
  ·refine ⟨?_, xr⟩
   unfold j3
   rw [decide_eq_false (by omega)]; rfl
end Go.Proofs.YtalpkjfpmdpbiaaGreatDoor
namespace Go.Proofs.YtalpkjfpmdpbiaaGreatDoor
open Go Go.Vc Go.RowKit Go.Proofs Go.aB
theorem oF {c:List Int} {k:Nat} {b:Int} (hb:c[k]? =some b):bN (c.take (k+1))=dh (bN (c.take k)) (1,b):=by
 rw [List.take_add_one,hb,qi];rfl
theorem El {c : List Int} {b : Int} : ∃ m q, bN (c ++ [b]) = m ++ [q] ∧ q.2 = b := by
 have e : bN (c ++ [b]) = dh (bN c) (1, b) := by rw [qi]; rfl
 rw [e]
 rcases k8 (bN c) with h | ⟨m, q, h⟩
 ·rw [h, bL (l := []) (r := (1, b)) (by show (1 : Int) ≤ 1; omega) (by simp)]
  exact ⟨[], (1, b), rfl, rfl⟩
 ·rw [h]
  by_cases e : q.2 = b
  ·rw [cY (r := (1, b)) (by show (1 : Int) ≤ 1; omega) e]
   exact ⟨m, _, rfl, e⟩
  ·rw [bL (r := (1, b)) (by show (1 : Int) ≤ 1; omega) (by intro p hp; simp at hp; subst hp; exact e)]
   exact ⟨m ++ [q], (1, b), rfl, rfl⟩
theorem vN (s : Sl) (c : List Int) (w : World) (hs : vE w s c) (hn : Bd c.length) :
  Calls Tryz.prog o5 #[s] w fun e w' => ∃ s' : Sl, e = .returned s' ∧ jG w.heap.size w' s' (bN c) ∧ Ext w w' := by
 have hsn := vE.len hs
 unfold Bd at hn
 apply uq.vc
 refine ⟨fun n x o wr => ∃ k : Nat, x = k ∧ k + n = c.length ∧ Ext w wr ∧ jG w.heap.size wr o (bN (c.take k)), ⟨c.length, 0, rfl, by omega, Ext.aq w, af.nil⟩, ?_⟩
 rintro n us x o wr ⟨k, rfl, hk, xr, ho⟩
 have hw := ag (n := (k : Int) + 1) (by unfold inI; omega)
 have xd := xr.drew
 have hod := af.ext ho (Ext.dr wr)
 have hon := dT.len ho.pa
 have hol := jE (c.take k)
 rw [List.length_take] at hol
 refine Br.mk (fun h => ?_) (fun h => ?_) <;> simp at h
 ·obtain ⟨b, hb⟩ := aN (l := c) (i := k) (by omega)
  have hin := vE.eV hs (i := k) (by omega)
  have hcb := vE.c0 (hs.ext xd) hb
  have grow : (∀ q, (bN (c.take k)).getLast? = some q → q.2 ≠ b) → ∀ w12 : World, w12 = wr.drew.alloc (.cells #[(1:Int), b] cg) →
    az 16 2 w12 ⟨o.a, o.n, o.c⟩ 1 [(1:Int), b] ∧ ∀ (s13 : Sl) (w14 : World), av cg 2 w12 ⟨o.a, o.n, o.c⟩ 1 [(1:Int), b] s13 w14 → w14.heap[wr.drew.heap.size]? = w12.heap[wr.drew.heap.size]? ∧
    ∃ n6, n6 < n ∧ ∃ k_1 : Nat, IntKind.wrap .i64 ((k : Int) + 1) = k_1 ∧ k_1 + n6 = c.length ∧ Ext w w14 ∧ jG w.heap.size w14 ⟨s13.a, s13.n, s13.c⟩ (bN (c.take k_1)) := by
   rintro hne w12 rfl
   obtain ⟨hp, hres⟩ := af.mB hod (bytes := 16) (news := rv (1, b)) (.cells #[(1:Int), b] cg) xd.size rfl (kV _ _ _ _) (by omega) (by omega)
   refine ⟨hp, fun s17 w18 hr' => ?_⟩
   obtain ⟨k1, ho', _, xb, _, _⟩ := hres s17 w18 hr'
   refine ⟨k1, n - 1, by omega, k + 1, by omega, by omega, xd.trans xb, ?_⟩
   rw [oF hb, bL (r := (1, b)) (by show (1 : Int) ≤ 1; omega) hne]
   show af _ _ 2 _ _ ((bN (c.take k) ++ [(1, b)]).map rv)
   rw [List.map_append]; exact ho'
  refine Br.mk (fun h1 => ?_) (fun h1 => ?_) <;> simp at h1
  ·obtain ⟨a, ha⟩ := aN (l := c) (i := k - 1) (by omega)
   have hwk := ag (n := (k : Int) - 1) (by unfold inI; omega)
   rw [hwk]
   have hin2 := vE.eV hs (i := k - 1) (by omega)
   rw [show ((k - 1 : Nat) : Int) = (k : Int) - 1 from by omega] at hin2
   have hca := vE.c0 (hs.ext xd) ha
   have hcat : c.take k = c.take (k - 1) ++ [a] := by
    have : k = k - 1 + 1 := by omega
    rw [this, List.take_add_one, Nat.add_sub_cancel, ha]; rfl
   obtain ⟨m, q, hmq, hqa⟩ := El (c := c.take (k - 1)) (b := a)
   rw [← hcat] at hmq
   refine ⟨hin2, a, by rw [show ((k : Int) - 1).toNat = k - 1 from by omega]; exact hca, hin, b, hcb, Br.mk (fun h2 => ?_) (fun h2 => ?_)⟩
   ·simp at h2
    have hob : o.n = m.length + 1 := by rw [hon, hmq]; simp
    have hwo := ag (n := ((o.n : Nat) : Int) - 1) (by unfold inI; omega)
    rw [hwo]
    have hnat : (((o.n : Nat) : Int) - 1).toNat = m.length := by omega
    have hgq : (bN (c.take k))[m.length]? = some q := by rw [hmq]; simp
    have hin3 := dT.eV ho.pa (i := m.length) (by rw [hmq]; simp)
    rw [show ((m.length : Nat) : Int) = ((o.n : Nat) : Int) - 1 from by omega] at hin3
    have hsm := dT.some ho.pa (i := m.length) (by rw [hmq]; simp)
    rw [hnat]
    have hqm := gm (List.mem_of_getElem? hgq)
    rw [List.length_take] at hqm
    have hwq := ag (n := q.1 + 1) (by unfold inI; omega)
    obtain ⟨q1, q2, q3, q4, q5⟩ := af.set hod (i := m.length) (j := 0) (r := rv q) (v := .int .i64 (q.1 + 1)) (by rw [List.getElem?_map, hgq]; rfl) (by omega) rfl xd.size
    refine ⟨hin3, kQ.2 ⟨hsm, _, dT.c0 (jG.pa hod) hgq, hin3, kQ.2 ⟨hsm, ⟨q1, q2⟩, ?_⟩⟩⟩
    rintro w10 rfl
    rw [hwq]
    refine ⟨n - 1, by omega, k + 1, by omega, by omega, xd.trans q4, ?_⟩
    rw [oF hb, hmq, cY (r := (1, b)) (by show (1 : Int) ≤ 1; omega) (hqa.trans h2)]
    show af _ _ 2 _ _ ((m ++ [(q.1 + 1, q.2)]).map rv)
    have e : ((m ++ [q]).map rv).set m.length ((rv q).set 0 (.int .i64 (q.1 + 1))) = (m ++ [(q.1 + 1, q.2)]).map rv := by
     rw [List.map_append, List.map_append, List.set_append_right _ _ (by simp)]
     simp
    rw [← e, ← hmq]; exact q3
   ·refine ⟨hin, b, hcb, grow ?_⟩
    intro p hp
    rw [hmq] at hp
    simp at hp; subst hp
    rw [hqa]; simpa using h2
  ·refine ⟨hin, b, hcb, grow ?_⟩
   have : k = 0 := by omega
   subst this
   intro p hp; simp [bN] at hp
 ·obtain rfl : k = c.length := by omega
  rw [List.take_length] at ho
  exact ⟨o, rfl, ho, xr⟩
end Go.Proofs.YtalpkjfpmdpbiaaGreatDoor
namespace Go.Proofs.YtalpkjfpmdpbiaaGreatDoor
open Go Go.Vc Go.RowKit Go.Proofs Go.aB
end Go.Proofs.YtalpkjfpmdpbiaaGreatDoor
namespace Go.Proofs.YtalpkjfpmdpbiaaGreatDoor
open Go Go.Vc Go.RowKit Go.Proofs Go.aB
end Go.Proofs.YtalpkjfpmdpbiaaGreatDoor
namespace Go.Proofs.YtalpkjfpmdpbiaaGreatDoor
open Go Go.Vc Go.RowKit Go.Proofs Go.aB
end Go.Proofs.YtalpkjfpmdpbiaaGreatDoor
