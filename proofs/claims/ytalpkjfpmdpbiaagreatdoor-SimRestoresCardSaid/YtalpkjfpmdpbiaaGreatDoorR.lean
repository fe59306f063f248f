import Derived.Test.YtalpkjfpmdpbiaaGreatDoorC
import Derived.Test.YtalpkjfpmdpbiaaGreatDoorP
import Derived.Test.YtalpkjfpmdpbiaaGreatDoorLib
set_option linter.all false
namespace Go.Proofs.YtalpkjfpmdpbiaaGreatDoor
open Go Go.Vc Go.RowKit Go.Proofs Go.aD
abbrev cz:TypeId:=166
abbrev yq:TypeId:=3
abbrev rv(r:Rn):List Value:=[.int .i64 r.1,.int .i64 r.2]
abbrev iv(b:Int):List Value:=[.int .i64 b]
abbrev cU (w : World) (s : Sl) (l : List Rn) : Prop := RdK w s 2 (l.map rv)
abbrev vp (w : World) (s : Sl) (c : List Int) : Prop := RdK w s 1 (c.map iv)
abbrev jX (B : Nat) (w : World) (s : Sl) (l : List Rn) : Prop := ag B cz 2 w s (l.map rv)
abbrev HZ (B : Nat) (w : World) (s : Sl) (c : List Int) : Prop := ag B yq 1 w s (c.map iv)
theorem jX.qy {B : Nat} {w : World} {s : Sl} {l : List Rn} (h : jX B w s l) : cU w s l := ag.rd h (by omega)
theorem HZ.H0 {B : Nat} {w : World} {s : Sl} {c : List Int} (h : HZ B w s c) : vp w s c := ag.rd h (by omega)
theorem cU.len {w : World} {s : Sl} {l : List Rn} (h : cU w s l) : s.n = l.length := by have := h.n; simpa using this
theorem vp.len {w : World} {s : Sl} {c : List Int} (h : vp w s c) : s.n = c.length := by have := h.n; simpa using this
theorem cU.get {w : World} {s : Sl} {l : List Rn} (_ : cU w s l) {i : Nat} {r : Rn} (hi : l[i]? = some r) : (l.map rv)[i]? = some (rv r) := by rw [List.getElem?_map, hi]; rfl
theorem cU.c0 {w : World} {s : Sl} {l : List Rn} (h : cU w s l) {i : Nat} {r : Rn} (hi : l[i]? = some r) : ld w (ab (ab s.a (i * 2)) 0) = some (.int .i64 r.1) := RdK.at h (cU.get h hi) (j := 0) rfl
theorem cU.c1 {w : World} {s : Sl} {l : List Rn} (h : cU w s l) {i : Nat} {r : Rn} (hi : l[i]? = some r) : ld w (ab (ab s.a (i * 2)) 1) = some (.int .i64 r.2) := RdK.at h (cU.get h hi) (j := 1) rfl
theorem cU.ll {w : World} {s : Sl} {l : List Rn} (h : cU w s l) {i : Nat} {r : Rn} (hi : l[i]? = some r) : ah w (ab s.a (i * 2)) 0 [r.1, r.2] := RdK.aL h (cU.get h hi)
theorem vp.c0 {w : World} {s : Sl} {l : List Int} (h : vp w s l) {i : Nat} {b : Int} (hi : l[i]? = some b) : ld w (ab s.a (i * 1)) = some (.int .i64 b) := by
 have := h.rd i (iv b) (by rw [List.getElem?_map, hi]; rfl) 0 _ rfl
 simpa using this
theorem cU.ee {w : World} {s : Sl} {l : List Rn} (h : cU w s l) {i : Nat} (hi : i < l.length) : bA s.a (i : Int) s.n := RdK.ee h (by omega) (by omega) (by have := cU.len h; omega)
theorem vp.ee {w : World} {s : Sl} {l : List Int} (h : vp w s l) {i : Nat} (hi : i < l.length) : bA s.a (i : Int) s.n := RdK.ee h (by omega) (by omega) (by have := vp.len h; omega)
theorem cU.some {w : World} {s : Sl} {l : List Rn} (h : cU w s l) {i : Nat} (hi : i < l.length) : (ab s.a (i * 2)).isSome = true := by rw [cF]; exact RdK.isSome h (by omega) (i := i) (by simpa using hi)
theorem aI{α:Type}{l:List α}{i:Nat}(h:i<l.length):∃r,l[i]? =some r:=⟨_,List.getElem?_eq_getElem h⟩
abbrev Bd(n:Nat):Prop:=n<=1099511627776
theorem lp (s : Sl) (l : List Rn) (w : World) (hs : cU w s l) (hb : Bd l.length) (hl : ∀ r ∈ l, 0 ≤ r.1) (hsum : aC l ≤ 1099511627776) :
  Calls Tryz.prog jH #[s] w fun e w' => e = .returned (.int .i64 (aC l)) ∧ Ext w w' := by
 have hsn := cU.len hs
 apply wO.vc
 refine ⟨fun n x y wr => ∃ k : Nat, x = k ∧ k + n = l.length ∧ Ext w wr ∧ y = aC (l.take k), ⟨l.length, 0, rfl, by omega, Ext.ao w, rfl⟩, ?_⟩
 rintro n us x y wr ⟨k, rfl, hk, xr, rfl⟩
 have hw := aj (n := (k : Int) + 1) (by unfold inI; omega)
 refine Br.mk (fun h => ?_) (fun h => ?_) <;> simp at h
 ·obtain ⟨r, hr⟩ := aI (l := l) (i := k) (by omega)
  refine ⟨cU.ee hs (by omega), _, _, cU.ll (hs.ext xr) hr, ?_⟩
  rintro w9 rfl w10 rfl
  have e : aC (l.take (k + 1)) = aC (l.take k) + r.1 := by
   rw [List.take_add_one, hr]
   simp [aC]
  have h0 : 0 ≤ aC (l.take k) ∧ 0 ≤ r.1 ∧ aC (l.take (k + 1)) ≤ aC l := by
   refine ⟨?_, hl r (List.mem_of_getElem? hr), ?_⟩
   ·rw [bq fun q hq => hl q (List.mem_of_mem_take hq)]; omega
   ·have := BN (l.take (k + 1)) (l.drop (k + 1))
    rw [List.take_append_drop] at this
    have h2 : 0 ≤ aC (l.drop (k + 1)) := by rw [bq fun q hq => hl q (List.mem_of_mem_drop hq)]; omega
    omega
  have hw2 := aj (n := aC (l.take k) + r.1) (by unfold inI; omega)
  refine ⟨n - 1, by omega, k + 1, by omega, by omega, ((xr.tr (Ext.al _ _)).setRow xr.size _), by rw [hw2, e]⟩
 ·obtain rfl : k = l.length := by omega
  rw [List.take_length]
  exact ⟨rfl, xr⟩
end Go.Proofs.YtalpkjfpmdpbiaaGreatDoor
namespace Go.Proofs.YtalpkjfpmdpbiaaGreatDoor
open Go Go.Vc Go.RowKit Go.Proofs Go.aD
abbrev J8(s:Sl)(w w':World):Prop:=∀j,s.ay≠some j->j<w.heap.size->w'.heap[j]? =w.heap[j]?
theorem xp (B : Nat) (s : Sl) (l : List Rn) (r : Rn) (w : World) (hB : B ≤ w.heap.size) (ho : jX B w s l) (hn : Bd l.length) (hl : ∀ q ∈ l, 0 ≤ q.1 ∧ q.1 ≤ 1099511627776) (hr : r.1 ≤ 1099511627776) :
  Calls Tryz.prog dU #[s, .agg #[r.1, r.2]] w fun e w' => ∃ s' : Sl, e = .returned s' ∧ jX B w' s' (dB l r) ∧ Below B w w' ∧ J8 s w w' := by
 have hsn := cU.len ho.qy
 apply tP.vc
 rintro w0 rfl
 have xa := Ext.al w (.cells #[r.1, r.2] cz)
 have xd := xa.drew
 have hz : (w.alloc (.cells #[r.1, r.2] cz)).drew.heap.size = w.heap.size + 1 := by simp [World.drew]
 have hw := aj (n := ((s.n : Nat) : Int) - 1) (by unfold inI; omega)
 have grow : ∀ (_ : 1 ≤ r.1) (_ : ∀ q, l.getLast? = some q → q.2 ≠ r.2), (∀ w4 : World, w4 = (w.alloc (.cells #[r.1, r.2] cz)).drew.alloc (.cells #[r.1, r.2] cz) →
   au 16 2 w4 ⟨s.a, s.n, s.c⟩ 1 [r.1, r.2] ∧ ∀ (s5 : Sl) (w6 : World), aq cz 2 w4 ⟨s.a, s.n, s.c⟩ 1 [r.1, r.2] s5 w6 → w6.heap[w.heap.size]? = w4.heap[w.heap.size]? ∧ w6.heap[(w.alloc (.cells #[r.1, r.2] cz)).drew.heap.size]? = w4.heap[(w.alloc (.cells #[r.1, r.2] cz)).drew.heap.size]? ∧
   ∃ s' : Sl, Ending.returned (.slice s5.a s5.n s5.c) = .returned s' ∧ jX B w6 s' (dB l r) ∧ Below B w w6 ∧ J8 s w w6) := by
  rintro h1 h2 w4 rfl
  obtain ⟨hp, hres⟩ := (ag.ext ho xd).ly (bytes := 16) (news := rv r) (.cells #[r.1, r.2] cz) (Nat.le_trans hB xd.size) rfl (lU _ _ _ _) (by omega) (by omega)
  refine ⟨hp, fun s5 w6 hr' => ?_⟩
  obtain ⟨k1, ho', hn', xb, hk, hb⟩ := hres s5 w6 hr'
  refine ⟨?_, k1, s5, rfl, ?_, (Below.mono xd hB).trans xb, fun j hj hlt => ?_⟩
  ·rw [hk _ (fun hb => absurd (ho.own.lt hb).2 (Nat.lt_irrefl _)) (by omega)]
   symm
   exact (Ext.al _ _).k
  ·rw [bV h1 h2]
   show ag B cz 2 w6 s5 ((l ++ [r]).map rv)
   rw [List.map_append]; exact ho'
  ·rw [hk j hj (by omega)]
   exact xd.heap hlt
 refine Br.mk (fun h => ?_) (fun h => ?_) <;> simp at h
 ·exact ⟨s, rfl, by rw [gE h]; exact ag.ext ho xa, Below.mono xa hB, fun j _ hj => xa.heap hj⟩
 rw [hw]
 refine Br.mk (fun h' => ?_) (fun h' => ?_) <;> simp at h'
 ·rcases lZ l with rfl | ⟨m, q, rfl⟩
  ·simp at hsn; omega
  rw [List.length_append] at hsn; simp at hsn
  have hnat : (((s.n : Nat) : Int) - 1).toNat = m.length := by omega
  have hq : (m ++ [q])[m.length]? = some q := by simp
  have hin : bA s.a (((s.n : Nat) : Int) - 1) s.n := by
   have := cU.ee ho.qy (i := m.length) (by simp)
   rwa [show ((m.length : Nat) : Int) = ((s.n : Nat) : Int) - 1 from by omega] at this
  have hsome := cU.some ho.qy (i := m.length) (by simp)
  rw [hnat]
  have r1 := RdK.ext ho.qy xd
  have r2 := RdK.ext ho.qy xd.drew
  refine ⟨hin, iV.2 ⟨hsome, _, cU.c1 r1 hq, Br.mk (fun h2 => ?_) (fun h2 => ?_)⟩⟩
  ·simp at h2
   obtain ⟨q1, q2, q3, q4, q5⟩ := (ag.ext ho xd.drew).set (i := m.length) (j := 0) (r := rv q) (v := .int .i64 (IntKind.wrap .i64 (q.1 + r.1))) (by rw [List.getElem?_map, hq]; rfl) (by omega) rfl (Nat.le_trans hB xd.drew.size)
   refine ⟨hin, iV.2 ⟨hsome, _, cU.c0 r2 hq, hin, iV.2 ⟨hsome, ⟨q1, q2⟩, ?_, ?_⟩⟩⟩
   ·intro hb
    have : s.ay = some w.heap.size := by
     rw [bC, bC] at hb
     exact hb
    exact absurd (ho.own.lt this).2 (Nat.lt_irrefl _)
   ·rintro w3 rfl
    have hwq := aj (n := q.1 + r.1) (by have := hl q (by simp); unfold inI; omega)
    rw [hwq] at q3 q4 q5 ⊢
    refine ⟨s, rfl, ?_, (Below.mono xd.drew hB).trans q4, fun j hj hlt => ?_⟩
    ·rw [dq h h2]
     show ag B cz 2 _ s ((m ++ [(q.1 + r.1, q.2)]).map rv)
     have e : ((m ++ [q]).map rv).set m.length ((rv q).set 0 (.int .i64 (q.1 + r.1))) = (m ++ [(q.1 + r.1, q.2)]).map rv := by
      rw [List.map_append, List.map_append, List.set_append_right _ _ (by simp)]
      simp
     rw [← e]; exact q3
    ·rw [q5 j hj]; exact xd.drew.heap hlt
  ·exact grow h (by intro p hp; simp at hp; subst hp; simpa using h2)
 ·have : l = [] := by
   apply List.eq_nil_of_length_eq_zero; omega
  subst this
  exact grow h (by simp)
theorem mK (B : Nat) (s : Sl) (c : List Int) (r : Rn) (w : World) (hB : B ≤ w.heap.size) (ho : jX B w s (bk c)) (hn : Bd c.length) (hr : r.1 ≤ 1099511627776) :
  Calls Tryz.prog dU #[s, .agg #[r.1, r.2]] w fun e w' => ∃ s' : Sl, e = .returned s' ∧ jX B w' s' (bk (c ++ List.replicate r.1.toNat r.2)) ∧ Below B w w' ∧ J8 s w w' := by
 rw [← rK]
 refine xp B s _ r w hB ho (by have := jb c; unfold Bd at *; omega) (fun q hq => ?_) hr
 have := fG hq
 unfold Bd at hn
 omega
theorem xq (n b : Int) (w : World) (hn : n ≤ 1099511627776) :
  Calls Tryz.prog oC #[n, b] w fun e w' => ∃ s' : Sl, e = .returned s' ∧ jX w.heap.size w' s' (bk (List.replicate n.toNat b)) ∧ Ext w w' := by
 apply tR.vc
 refine (mK w.heap.size ⟨none, 0, 0⟩ [] (n, b) w (Nat.le_refl _) ag.nil (by simp) hn).mono ?_
 rintro e w' ⟨s', rfl, ho, x, _⟩
 exact ⟨s', rfl, s', rfl, by simpa using ho, x⟩
theorem Ac (s : Sl) (c : List Int) (w : World) (hs : vp w s c) (hn : Bd c.length) :
  Calls Tryz.prog tE #[s] w fun e w' => ∃ s' : Sl, e = .returned s' ∧ jX w.heap.size w' s' (bk c) ∧ Ext w w' := by
 have hsn := vp.len hs
 apply Am.vc
 refine ⟨fun n x o wr => ∃ k : Nat, x = k ∧ k + n = c.length ∧ Ext w wr ∧ jX w.heap.size wr o (bk (c.take k)), ⟨c.length, 0, rfl, by omega, Ext.ao w, ag.nil⟩, ?_⟩
 rintro n us x o wr ⟨k, rfl, hk, xr, ho⟩
 unfold Bd at hn
 have hw := aj (n := (k : Int) + 1) (by unfold inI; omega)
 refine Br.mk (fun h => ?_) (fun h => ?_) <;> simp at h
 ·obtain ⟨b, hb⟩ := aI (l := c) (i := k) (by omega)
  refine ⟨vp.ee hs (by omega), _, vp.c0 (hs.ext xr) hb, ?_⟩
  refine (mK w.heap.size o _ (1, b) wr xr.size ho (by rw [List.length_take]; unfold Bd; omega) (by show (1 : Int) ≤ _; omega)).mono ?_
  rintro e w' ⟨s', rfl, ho', x', _⟩
  refine ⟨s', rfl, n - 1, by omega, k + 1, by omega, by omega, xr.trans x', ?_⟩
  rw [List.take_add_one, hb]
  exact ho'
 ·obtain rfl : k = c.length := by omega
  rw [List.take_length] at ho
  exact ⟨o, rfl, ho, xr⟩
end Go.Proofs.YtalpkjfpmdpbiaaGreatDoor
namespace Go.Proofs.YtalpkjfpmdpbiaaGreatDoor
open Go Go.Vc Go.RowKit Go.Proofs Go.aD
theorem fQ {l : List Rn} {k : Nat} {r : Rn} (hr : l[k]? = some r) : aC (l.take (k + 1)) = aC (l.take k) + r.1 := by
 rw [List.take_add_one, hr]; simp [aC]
theorem D8{l:List Rn}(hl:∀r ∈ l,0<=r.1):0<=aC l:=by rw [bq hl];omega
theorem cD {l : List Rn} (hl : ∀ r ∈ l, 0 ≤ r.1) (k : Nat) : 0 ≤ aC (l.take k) ∧ aC (l.take k) ≤ aC l := by
 refine ⟨D8 fun q hq => hl q (List.mem_of_mem_take hq), ?_⟩
 have := BN (l.take k) (l.drop k)
 rw [List.take_append_drop] at this
 have h2 := D8 (l := l.drop k) fun q hq => hl q (List.mem_of_mem_drop hq)
 omega
theorem eL {l : List Rn} {k : Nat} {r : Rn} (hr : l[k]? = some r) : aA (l.take (k + 1)) = aA (l.take k) ++ List.replicate r.1.toNat r.2 := by
 rw [List.take_add_one, hr, cK]; exact congrArg _ (ea r)
theorem Kc(c:List Int)(a b:Int):(yD c a b).length<=c.length:=by unfold yD;simp;omega
theorem qd (s : Sl) (l : List Rn) (a b : Int) (w : World) (hs : cU w s l) (hn : Bd l.length) (hl : ∀ r ∈ l, 0 ≤ r.1) (hsum : aC l ≤ 1099511627776) (ha : 0 ≤ a) (hb : 0 ≤ b) :
  Calls Tryz.prog mr #[s, a, b] w fun e w' => ∃ s' : Sl, e = .returned s' ∧ jX w.heap.size w' s' (bk (yD (aA l) a b)) ∧ Ext w w' := by
 have hsn := cU.len hs
 unfold Bd at hn
 apply wP.vc
 refine ⟨fun n x y o wr => ∃ k : Nat, x = k ∧ k + n = l.length ∧ Ext w wr ∧ y = aC (l.take k) ∧ jX w.heap.size wr o (bk (yD (aA (l.take k)) a b)), ⟨l.length, 0, rfl, by omega, Ext.ao w, rfl, ?_⟩, ?_⟩
 ·have : yD (aA (l.take 0)) a b = [] := by simp [yD, aA]
  rw [this]; exact ag.nil
 rintro n us x y o wr ⟨k, rfl, hk, xr, rfl, ho⟩
 have hw := aj (n := (k : Int) + 1) (by unfold inI; omega)
 refine Br.mk (fun h => ?_) (fun h => ?_) <;> simp at h
 ·obtain ⟨r, hr⟩ := aI (l := l) (i := k) (by omega)
  have e := fQ hr
  have hr0 := hl r (List.mem_of_getElem? hr)
  have b1 := cD hl k
  have b2 := cD hl (k + 1)
  have hw2 := aj (n := aC (l.take k) + r.1) (by unfold inI; omega)
  have hc : ((aA (l.take k)).length : Int) = aC (l.take k) := (bq fun q hq => hl q (List.mem_of_mem_take hq)).symm
  have hseg : yD (aA (l.take (k + 1))) a b = yD (aA (l.take k)) a b ++ List.replicate (min b (aC (l.take k) + r.1) - max a (aC (l.take k))).toNat r.2 := by
   rw [eL hr, Hb _ _ _ _ _ ha hb]
   congr 2
   omega
  refine ⟨cU.ee hs (by omega), _, _, cU.ll (hs.ext xr) hr, ?_⟩
  rintro w9 rfl w10 rfl
  rw [hw2]
  have x10 := ((xr.tr (Ext.al _ (.cells #[(0:Int), (0:Int)] cz))).setRow xr.size #[r.1, r.2])
  have e1 : (if aC (l.take k) + r.1 < b then aC (l.take k) + r.1 else b) = min b (aC (l.take k) + r.1) := by split <;> omega
  have e2 : (if aC (l.take k) > a then aC (l.take k) else a) = max a (aC (l.take k)) := by split <;> omega
  rw [e1, e2]
  have hkeep : ∀ g, o.ay = some g → (((wr.alloc (.cells #[(0:Int), (0:Int)] cz)).setRow wr.heap.size #[r.1, r.2]).drew).heap[g]? = wr.heap[g]? := by
   intro g hg
   have := (ho.own.lt hg).2
   show ((wr.alloc _).setRow wr.heap.size _).heap[g]? = _
   rw [setRow_other _ _ _ _ (by omega)]
   exact (Ext.al _ _).heap this
  have ho2 := ag.aW ho hkeep
  have hlen : (yD (aA (l.take k)) a b).length ≤ 1099511627776 := by have := Kc (aA (l.take k)) a b; omega
  refine Br.mk (fun h2 => ?_) (fun h2 => ?_) <;> simp only [decide_eq_true_eq, decide_eq_false_iff_not] at h2
  ·have hw3 := aj (n := min b (aC (l.take k) + r.1) - max a (aC (l.take k))) (by unfold inI; omega)
   rw [hw3]
   refine (mK w.heap.size o _ (min b (aC (l.take k) + r.1) - max a (aC (l.take k)), r.2) _ x10.drew.size ho2 hlen (by show min b (aC (l.take k) + r.1) - max a (aC (l.take k)) ≤ _; omega)).mono ?_
   rintro e w' ⟨s', rfl, ho', x', hkp⟩
   refine ⟨s', rfl, hkp _ (fun hb => absurd (ho.own.lt hb).2 (Nat.lt_irrefl _)) (by simp [World.drew, World.setRow]), n - 1, by omega, k + 1, by omega, by omega, x10.drew.trans x', by omega, ?_⟩
   rw [hseg]; exact ho'
  ·refine ⟨n - 1, by omega, k + 1, by omega, by omega, x10.drew, by omega, ?_⟩
   rw [hseg, show (min b (aC (l.take k) + r.1) - max a (aC (l.take k))).toNat = 0 from by omega]
   simpa using ho2
 ·obtain rfl : k = l.length := by omega
  rw [List.take_length] at ho
  exact ⟨o, rfl, ho, xr⟩
theorem gF (s : Sl) (l : List Rn) (w : World) (hs : cU w s l) (hn : Bd l.length) :
  Calls Tryz.prog a6 #[s] w fun e w' => ∃ s' : Sl, e = .returned s' ∧ jX w.heap.size w' s' l ∧ Ext w w' := by
 have hsn := cU.len hs
 unfold Bd at hn
 apply gu.vc
 refine Br.mk (fun h => ?_) (fun h => ?_)
 ·have : l = [] := by
   rcases Nat.eq_zero_or_pos l.length with h0 | h0
   ·exact List.eq_nil_of_length_eq_zero h0
   ·have := RdK.isSome hs (by omega) (i := 0) (by simpa using h0)
    cases hsa : s.a <;> simp [hsa] at h this
  subst this
  exact ⟨⟨none, 0, 0⟩, rfl, ag.nil, Ext.ao w⟩
 ·rintro w0 rfl
  have xa := Ext.al w (.cells #[] cz)
  have hz : Go.Vc.Own w.heap.size cz 2 (w.alloc (.cells #[] cz)) ⟨some ⟨w.heap.size, 0, none⟩, 0, 0⟩ [] := .row w.heap.size 0 0 [] (Nat.le_refl _) (Row.new w [] cz) (by simp) (Nat.le_refl _)
  have hf : (l.map rv).flatten.length = s.n * 2 := by rw [aN hs.wd]; simp [hsn]
  have h1 : One (l.map rv).flatten := cC fun r hr => by
   obtain ⟨q, _, rfl⟩ := List.mem_map.1 hr
   exact lU _ _ _ _
  obtain ⟨hp, hr⟩ := hz.append (bytes := 16) (m := s.n) (news := (l.map rv).flatten) xa.size hf h1 (by simp; omega) (by simp; omega)
  refine ⟨(l.map rv).flatten, RdK.flat (hs.ext xa) (by omega), hp, fun s2 w3 hres => ?_⟩
  obtain ⟨ho, hn2, xb, _, _⟩ := hr s2 w3 hres
  refine ⟨nH hres hf (by simp), s2, rfl, ⟨by simpa using ho, hs.wd⟩, xa.trans xb⟩
theorem xA (s : Sl) (ss : List Sl) (cs : List (List Int)) (w : World) (hs : RdK w s 1 (ss.map fun t => [.slice t.a t.n t.c])) (hlen : ss.length = cs.length)
  (hr : ∀ (i : Nat) (t : Sl) (c : List Int), ss[i]? = some t → cs[i]? = some c → cU w t (bk c)) (hb : Bd ss.length) (hn : Bd cs.flatten.length) :
  Calls Tryz.prog oB #[s] w fun e w' => ∃ s' : Sl, e = .returned s' ∧ jX w.heap.size w' s' (bk cs.flatten) ∧ Ext w w' := by
 have hsn : s.n = ss.length := by have := hs.n; simpa using this
 unfold Bd at hn hb
 apply tQ.vc
 refine ⟨fun n x o wr => ∃ k : Nat, x = k ∧ k + n = ss.length ∧ Ext w wr ∧ jX w.heap.size wr o (bk (cs.take k).flatten), ⟨ss.length, 0, rfl, by omega, Ext.ao w, ag.nil⟩, ?_⟩
 rintro n us x o wr ⟨k, rfl, hk, xr, ho⟩
 have hw := aj (n := (k : Int) + 1) (by unfold inI; omega)
 refine Br.mk (fun h => ?_) (fun h => ?_) <;> simp at h
 ·obtain ⟨t, ht⟩ := aI (l := ss) (i := k) (by omega)
  obtain ⟨c, hc⟩ := aI (l := cs) (i := k) (by omega)
  have hrt := hr k t c ht hc
  have htn := cU.len hrt
  have hfl : (cs.take (k + 1)).flatten = (cs.take k).flatten ++ c := by rw [List.take_add_one, hc]; simp
  have hle : (cs.take k).flatten.length + c.length ≤ cs.flatten.length := by
   have e := congrArg List.length (congrArg List.flatten (List.take_append_drop (k + 1) cs))
   rw [List.flatten_append, hfl] at e
   simp only [List.length_append] at e
   omega
  have hcl := jb c
  have hld := hs.rd k [.slice t.a t.n t.c] (by rw [List.getElem?_map, ht]; rfl) 0 _ rfl
  refine ⟨RdK.ee hs (by omega) (by omega) (by omega), t, xr.ld (by simpa using hld), ?_⟩
  refine ⟨fun n x o wr => ∃ j : Nat, x = j ∧ j + n = (bk c).length ∧ Ext w wr ∧ jX w.heap.size wr o (bk ((cs.take k).flatten ++ aA ((bk c).take j))), ⟨(bk c).length, 0, rfl, by omega, xr, by simpa [aA] using ho⟩, ?_⟩
  rintro n2 us2 x2 o2 w2 ⟨j, rfl, hj, x2, ho2⟩
  have hw2 := aj (n := (j : Int) + 1) (by unfold inI; omega)
  refine Br.mk (fun h2 => ?_) (fun h2 => ?_) <;> simp at h2
  ·obtain ⟨r, hrr⟩ := aI (l := bk c) (i := j) (by omega)
   have hrm := fG (List.mem_of_getElem? hrr)
   refine ⟨cU.ee hrt (by omega), _, _, cU.ll (hrt.ext x2) hrr, ?_⟩
   rintro w9 rfl w10 rfl
   have x10 := ((x2.tr (Ext.al _ (.cells #[(0:Int), (0:Int)] cz))).setRow x2.size #[r.1, r.2])
   have ho3 := ag.aW (w' := (w2.alloc (.cells #[(0:Int), (0:Int)] cz)).setRow w2.heap.size #[r.1, r.2]) ho2 (by
    intro g hg
    have := (ho2.own.lt hg).2
    rw [setRow_other _ _ _ _ (by omega)]
    exact (Ext.al _ _).heap this)
   have hl2 : ((cs.take k).flatten ++ aA ((bk c).take j)).length ≤ 1099511627776 := by
    rw [List.length_append]
    have h3 := cD (l := bk c) (fun q hq => by have := fG hq; omega) j
    rw [eG, bq fun q hq => by have := fG (List.mem_of_mem_take hq); omega] at h3
    omega
   refine (mK w.heap.size o2 _ r _ x10.size ho3 hl2 (by omega)).mono ?_
   rintro e w' ⟨s', rfl, ho', x', hkp⟩
   refine ⟨s', rfl, hkp _ (fun hb => absurd (ho2.own.lt hb).2 (Nat.lt_irrefl _)) (by simp [World.setRow]), n2 - 1, by omega, j + 1, by omega, by omega, x10.trans x', ?_⟩
   rw [eL hrr, ← List.append_assoc]; exact ho'
  ·obtain rfl : j = (bk c).length := by omega
   refine ⟨n - 1, by omega, k + 1, by omega, by omega, x2, ?_⟩
   rw [List.take_length, fo] at ho2
   rw [hfl]; exact ho2
 ·obtain rfl : k = ss.length := by omega
  rw [hlen, List.take_length] at ho
  exact ⟨o, rfl, ho, xr⟩
end Go.Proofs.YtalpkjfpmdpbiaaGreatDoor
namespace Go.Proofs.YtalpkjfpmdpbiaaGreatDoor
open Go Go.Vc Go.RowKit Go.Proofs Go.aD
theorem xZ (s : Sl) (c : List Int) (a b x : Int) (w : World) (hs : cU w s (bk c)) (hn : Bd c.length) (ha : inI a) (hb : inI b) :
  Calls Tryz.prog oA #[s, a, b, x] w fun e w' => ∃ s' : Sl, e = .returned s' ∧ jX w.heap.size w' s' (bk (if aE x then sC c a b x else c)) ∧ Ext w w' := by
 have hl : Bd (bk c).length := Nat.le_trans (jb c) hn
 have hp : ∀ r ∈ bk c, 0 ≤ r.1 := fun r hr => by have := fG hr; omega
 have hsum : aC (bk c) ≤ 1099511627776 := by rw [eG]; unfold Bd at hn; omega
 unfold Bd at hn
 unfold inI at ha hb
 apply tO.vc
 refine (lp s _ w hs hl hp hsum).mono ?_
 rintro e w1 ⟨rfl, x1⟩
 rw [eG]
 refine ⟨_, rfl, (dY x w1).mono ?_⟩
 rintro e w2 ⟨rfl, x2⟩
 have x12 := x1.tr x2
 have e1 : (if ((c.length : Nat) : Int) < (if 0 > a then 0 else a) then ((c.length : Nat) : Int) else (if 0 > a then 0 else a)) = min (max a 0) (c.length : Int) := by split <;> split <;> omega
 have e2 : (if ((c.length : Nat) : Int) < (if 0 > b then 0 else b) then ((c.length : Nat) : Int) else (if 0 > b then 0 else b)) = min (max b 0) (c.length : Int) := by split <;> split <;> omega
 rw [e1, e2]
 refine ⟨_, rfl, Br.mk (fun h => ?_) (fun h => Br.mk (fun h2 => ?_) (fun h2 => ?_))⟩
 ·simp at h
  refine (gF s _ w2 (hs.ext x12) hl).mono ?_
  rintro e w3 ⟨s', rfl, ho, x3⟩
  refine ⟨s', rfl, s', rfl, ?_, x12.tr x3⟩
  rw [h]
  exact ag.low ho x12.size
 ·simp at h h2
  refine (gF s _ w2 (hs.ext x12) hl).mono ?_
  rintro e w3 ⟨s', rfl, ho, x3⟩
  refine ⟨s', rfl, s', rfl, ?_, x12.tr x3⟩
  rw [h, if_pos rfl, Da c a b x (by omega)]
  exact ag.low ho x12.size
 ·replace h2 := dH h2
  have hm : aE x = true := by simpa using h
  have hw := aj (n := min (max b 0) (c.length : Int) - min (max a 0) (c.length : Int)) (by unfold inI; omega)
  rw [hw]
  refine (qd s _ 0 (min (max a 0) (c.length : Int)) w2 (hs.ext x12) hl hp hsum (by omega) (by omega)).mono ?_
  rintro e w3 ⟨s1, rfl, o1, x3⟩
  refine ⟨s1, rfl, (xq (min (max b 0) (c.length : Int) - min (max a 0) (c.length : Int)) x w3 (by omega)).mono ?_⟩
  rintro e w4 ⟨s2, rfl, o2, x4⟩
  refine ⟨s2, rfl, (qd s _ (min (max b 0) (c.length : Int)) c.length w4 (((hs.ext x12).ext x3).ext x4) hl hp hsum (by omega) (by omega)).mono ?_⟩
  rintro e w5 ⟨s3, rfl, o3, x5⟩
  refine ⟨s3, rfl, ?_⟩
  rintro w6 rfl
  have x6 := Ext.al w5 (.cells #[s1, s2, s3] 106)
  rw [fo] at o1 o3
  have hrow := Row.new w5 [s1, s2, s3] 106
  have hrd : RdK (w5.alloc (.cells #[s1, s2, s3] 106)) ⟨some ⟨w5.heap.size, 0, none⟩, 3, 3⟩ 1 ([s1, s2, s3].map fun t => [.slice t.a t.n t.c]) := by
   refine ⟨rfl, by simp, fun i r hi j v hj => ?_⟩
   show ld _ (ab (some ⟨w5.heap.size, 0, none⟩) _) = _
   rw [aV, hrow.ld]
   rcases i with _ | _ | _ | i <;> simp at hi
   all_goals subst hi
   all_goals rcases j with _ | j <;> simp at hj
   all_goals subst hj; rfl
  refine (xA _ [s1, s2, s3] [yD c 0 (min (max a 0) (c.length : Int)), List.replicate (min (max b 0) (c.length : Int) - min (max a 0) (c.length : Int)).toNat x, yD c (min (max b 0) (c.length : Int)) c.length] _ hrd rfl ?_ (by simp) ?_).mono ?_
  ·intro i t d ht hd
   rcases i with _ | _ | _ | i <;> simp at ht hd
   ·subst ht; subst hd
    exact (((o1.ext x4).ext x5).ext x6).rd (by omega)
   ·subst ht; subst hd
    exact ((o2.ext x5).ext x6).rd (by omega)
   ·subst ht; subst hd
    exact (o3.ext x6).rd (by omega)
  ·have e := congrArg List.length (zi c a b x (by omega))
   rw [E9] at e
   simp only [List.flatten_cons, List.flatten_nil, List.append_nil, List.length_append] at e ⊢
   unfold Bd
   omega
  ·rintro e w7 ⟨s', rfl, ho, x7⟩
   have xx := (((x12.tr x3).tr x4).tr x5).tr x6
   refine ⟨s', rfl, s', rfl, ?_, xx.tr x7⟩
   rw [if_pos hm, zi c a b x (by omega)]
   have ho := ag.low ho xx.size
   simpa using ho
def qA(c:List Int)(i x:Int):List Int:=if aE x=true/\0<=i/\i<(c.length:Int)then c.set i.toNat x else c
theorem yH (s : Sl) (c : List Int) (i x : Int) (w : World) (hs : cU w s (bk c)) (hn : Bd c.length) (hi : inI i) :
  Calls Tryz.prog qI #[s, i, x] w fun e w' => ∃ s' : Sl, e = .returned s' ∧ jX w.heap.size w' s' (bk (qA c i x)) ∧ Ext w w' := by
 have hl : Bd (bk c).length := Nat.le_trans (jb c) hn
 have hp : ∀ r ∈ bk c, 0 ≤ r.1 := fun r hr => by have := fG hr; omega
 have hsum : aC (bk c) ≤ 1099511627776 := by rw [eG]; unfold Bd at hn; omega
 have hi' := hi
 have hn' := hn
 unfold Bd at hn'
 unfold inI at hi'
 apply wL.vc
 refine Br.mk (fun h => ?_) (fun h => ?_) <;> simp at h
 ·refine (gF s _ w hs hl).mono ?_
  rintro e w3 ⟨s', rfl, ho, x3⟩
  refine ⟨s', rfl, s', rfl, ?_, x3⟩
  unfold qA
  rw [if_neg (by omega)]; exact ho
 ·refine (lp s _ w hs hl hp hsum).mono ?_
  rintro e w1 ⟨rfl, x1⟩
  rw [eG]
  refine ⟨_, rfl, Br.mk (fun h2 => ?_) (fun h2 => ?_)⟩ <;> simp at h2
  ·refine (gF s _ w1 (hs.ext x1) hl).mono ?_
   rintro e w3 ⟨s', rfl, ho, x3⟩
   refine ⟨s', rfl, s', rfl, ?_, x1.tr x3⟩
   unfold qA
   rw [if_neg (by omega)]; exact ag.low ho x1.size
  ·have hw := aj (n := i + 1) (by unfold inI; omega)
   rw [hw]
   refine (xZ s c i (i + 1) x w1 (hs.ext x1) hn hi (by unfold inI; omega)).mono ?_
   rintro e w3 ⟨s', rfl, ho, x3⟩
   refine ⟨s', rfl, s', rfl, ?_, x1.tr x3⟩
   unfold qA
   have := ag.low ho x1.size
   rw [Fc c i x h h2] at this
   cases hm : aE x
   ·rw [hm] at this
    rw [if_neg (by simp)]; exact this
   ·rw [hm] at this
    rw [if_pos ⟨rfl, h, h2⟩]; exact this
theorem HO (a b : Int) : IntKind.wrap .i64 (IntKind.wrap .i64 a - b) = IntKind.wrap .i64 (a - b) := by
 unfold IntKind.wrap
 simp only [IntKind.bits, IntKind.signed, Bool.true_and]
 split <;> split <;> split <;> simp_all <;> omega
theorem AL (s : Sl) (l : List Rn) (i : Int) (w : World) (hs : cU w s l) (hn : Bd l.length) (hl : ∀ r ∈ l, 0 ≤ r.1) (hsum : aC l ≤ 1099511627776) (hi : inI i) :
  Calls Tryz.prog tD #[s, i] w fun e w' => e = .returned (.int .i64 (EG (aA l) i)) ∧ Ext w w' := by
 have hsn := cU.len hs
 unfold Bd at hn
 apply Al.vc
 refine ⟨fun n x y wr => ∃ k : Nat, x = k ∧ k + n = l.length ∧ Ext w wr ∧ y = IntKind.wrap .i64 (i - aC (l.take k)) ∧ (i < 0 ∨ aC (l.take k) ≤ i), ⟨l.length, 0, rfl, by omega, Ext.ao w, ?_, ?_⟩, ?_⟩
 ·rw [show aC (l.take 0) = 0 from rfl, Int.sub_zero, aj hi]
 ·rw [show aC (l.take 0) = 0 from rfl]; omega
 rintro n us x y wr ⟨k, rfl, hk, xr, rfl, hno⟩
 have hw := aj (n := (k : Int) + 1) (by unfold inI; omega)
 unfold inI at hi
 have hc : ∀ k, ((aA (l.take k)).length : Int) = aC (l.take k) := fun k => (bq fun q hq => hl q (List.mem_of_mem_take hq)).symm
 refine Br.mk (fun h => ?_) (fun h => ?_) <;> simp at h
 ·obtain ⟨r, hr⟩ := aI (l := l) (i := k) (by omega)
  have e := fQ hr
  have hr0 := hl r (List.mem_of_getElem? hr)
  have b1 := cD hl k
  have b2 := cD hl (k + 1)
  refine ⟨cU.ee hs (by omega), _, _, cU.ll (hs.ext xr) hr, ?_⟩
  rintro w9 rfl w10 rfl
  have x10 := ((xr.tr (Ext.al _ (.cells #[(0:Int), (0:Int)] cz))).setRow xr.size #[r.1, r.2])
  have hwi := Hh (i - aC (l.take k))
  unfold inI at hwi
  have hneg : i < 0 → (0 ≤ IntKind.wrap .i64 (i - aC (l.take k)) → IntKind.wrap .i64 (i - aC (l.take k)) < r.1 → False) := by
   intro h0 h1 h2
   revert h1 h2
   unfold IntKind.wrap
   simp only [IntKind.bits, IntKind.signed, Bool.true_and]
   split <;> simp_all <;> omega
  have hpos : 0 ≤ i → aC (l.take k) ≤ i → IntKind.wrap .i64 (i - aC (l.take k)) = i - aC (l.take k) := fun _ _ => wI
  have nx : (i < 0 ∨ aC (l.take (k + 1)) ≤ i) → ∃ n6, n6 < n ∧ ∃ k_1 : Nat, IntKind.wrap .i64 ((k : Int) + 1) = k_1 ∧ k_1 + n6 = l.length ∧ Ext w ((wr.alloc (.cells #[(0:Int), (0:Int)] cz)).setRow wr.heap.size #[r.1, r.2]) ∧
    IntKind.wrap .i64 (IntKind.wrap .i64 (i - aC (l.take k)) - r.1) = IntKind.wrap .i64 (i - aC (l.take k_1)) ∧ (i < 0 ∨ aC (l.take k_1) ≤ i) :=
   fun hh => ⟨n - 1, by omega, k + 1, by omega, by omega, x10, by rw [HO, e, Int.sub_sub], hh⟩
  refine Br.mk (fun h1 => Br.mk (fun h2 => ?_) (fun h2 => ?_)) (fun h1 => ?_) <;> simp only [decide_eq_true_eq, decide_eq_false_iff_not] at *
  ·rcases Int.lt_or_le i 0 with h0 | h0
   ·exact (hneg h0 h1 h2).elim
   ·have hle : aC (l.take k) ≤ i := by omega
    have := hpos h0 hle
    have ht : l = l.take k ++ [r] ++ l.drop (k + 1) := by
     have := List.take_append_drop (k + 1) l
     rw [List.take_add_one, hr] at this
     exact this.symm
    refine ⟨?_, x10⟩
    have hcell : aA l = aA (l.take k) ++ List.replicate r.1.toNat r.2 ++ aA (l.drop (k + 1)) := by
     rw [← ea r, ← cK, ← cK, ← ht]
    rw [hcell, Kb _ _ _ _ _ (by rw [hc]; exact hle) (by rw [hc]; omega)]
  ·refine nx ?_
   rcases Int.lt_or_le i 0 with h0 | h0
   ·exact .inl h0
   ·have := hpos h0 (by omega); right; omega
  ·refine nx ?_
   rcases Int.lt_or_le i 0 with h0 | h0
   ·exact .inl h0
   ·have := hpos h0 (by omega); omega
 ·obtain rfl : k = l.length := by omega
  refine ⟨?_, xr⟩
  have := hc l.length
  rw [List.take_length] at this hno
  rw [IP _ _ (by omega)]
theorem FC (may : Int → Bool) (prev : Option Int) (left : Int) (r : Rn) (t : List Rn) : pM may prev left (r :: t) = if r.1 < 1 ∨ r.1 > left ∨ may r.2 = false ∨ prev = some r.2 then false else pM may (some r.2) (left - r.1) t := rfl
theorem qm (s : Sl) (l : List Rn) (m : Int) (w : World) (hs : cU w s l) (hn : Bd l.length) (hm : inI m) :
  Calls Tryz.prog mo #[s, m] w fun e w' => e = .returned (.bool (kQ aE l m)) ∧ Ext w w' := by
 have hsn := cU.len hs
 unfold Bd at hn
 unfold inI at hm
 apply wN.vc
 have hprev : ∀ k, k < l.length → (l.take k).getLast? = if k = 0 then none else l[k - 1]? := by
  intro k hk
  rw [List.getLast?_eq_getElem?, List.getElem?_take, List.length_take, Nat.min_eq_left (by omega)]
  rcases Nat.eq_zero_or_pos k with rfl | h0
  ·simp
  ·rw [if_pos (by omega), if_neg (by omega)]
 refine ⟨fun n x y wr => ∃ k : Nat, x = k ∧ k + n = l.length ∧ Ext w wr ∧ y ≤ max m 0 ∧ (min m 0 ≤ y) ∧ pM aE ((l.take k).getLast?.map (·.2)) y (l.drop k) = pM aE none m l, ⟨l.length, 0, rfl, by omega, Ext.ao w, by omega, by omega, rfl⟩, ?_⟩
 rintro n us x y wr ⟨k, rfl, hk, xr, hy, hy0, heq⟩
 have hw := aj (n := (k : Int) + 1) (by unfold inI; omega)
 refine Br.mk (fun h => ?_) (fun h => ?_) <;> simp at h
 ·obtain ⟨r, hr⟩ := aI (l := l) (i := k) (by omega)
  have hd : l.drop k = r :: l.drop (k + 1) := by
   rw [List.drop_eq_getElem_cons (by omega)]
   rw [List.getElem?_eq_getElem (by omega)] at hr
   cases hr; rfl
  rw [hd] at heq
  rw [FC] at heq
  refine ⟨cU.ee hs (by omega), _, _, cU.ll (hs.ext xr) hr, ?_⟩
  rintro w9 rfl w10 rfl
  have x10 := ((xr.tr (Ext.al _ (.cells #[(0:Int), (0:Int)] cz))).setRow xr.size #[r.1, r.2]).drew
  have fin : ∀ w', Ext w w' → (r.1 < 1 ∨ r.1 > y ∨ aE r.2 = false ∨ (l.take k).getLast?.map (·.2) = some r.2) → Ending.returned (.bool false) = .returned (.bool (kQ aE l m)) ∧ Ext w w' := by
   intro w' x' hh
   rw [if_pos hh] at heq
   refine ⟨?_, x'⟩
   unfold kQ
   rw [← heq]; simp
  refine Br.mk (fun h1 => ?_) (fun h1 => Br.mk (fun h2 => ?_) (fun h2 => ?_)) <;> simp only [decide_eq_true_eq, decide_eq_false_iff_not] at *
  ·exact fin _ x10 (.inl h1)
  ·exact fin _ x10 (.inr (.inl h2))
  ·refine (dY r.2 _).mono ?_
   rintro e w3 ⟨rfl, x3⟩
   have x4 := x10.tr x3
   have hrow : Row ((wr.alloc (.cells #[(0:Int), (0:Int)] cz)).setRow wr.heap.size #[r.1, r.2]).drew wr.heap.size [r.1, r.2] cz := (Row.new wr [(0:Int), (0:Int)] cz).set [r.1, r.2]
   have hrow3 := hrow.ext x3
   have hkeep := x3.heap hrow.lt
   have hll : ah w3 (some ⟨wr.heap.size, 0, none⟩) 0 [r.1] := by
    refine hrow3.aL (o := 0) fun j hj => ?_
    have : j = 0 := by simpa using hj
    subst this; rfl
   have nx : ((l.take k).getLast?.map (·.2) ≠ some r.2) → aE r.2 = true → ∃ n6, n6 < n ∧ ∃ k_1 : Nat, IntKind.wrap .i64 ((k : Int) + 1) = k_1 ∧ k_1 + n6 = l.length ∧ Ext w w3 ∧ IntKind.wrap .i64 (y - r.1) ≤ max m 0 ∧ min m 0 ≤ IntKind.wrap .i64 (y - r.1) ∧ pM aE ((l.take k_1).getLast?.map (·.2)) (IntKind.wrap .i64 (y - r.1)) (l.drop k_1) = pM aE none m l := by
    intro hne hbm
    have hwy := aj (n := y - r.1) (by unfold inI; omega)
    refine ⟨n - 1, by omega, k + 1, by omega, by omega, x4, by omega, by omega, ?_⟩
    rw [hwy]
    rw [if_neg (by
     rintro (h | h | h | h)
     ·omega
     ·omega
     ·rw [hbm] at h; cases h
     ·exact hne h)] at heq
    rw [← heq, List.take_add_one, hr]
    simp
   refine ⟨_, rfl, hkeep, hll, hll, Br.mk (fun h3 => ?_) (fun h3 => ?_)⟩
   ·exact fin _ x4 (.inr (.inr (.inl (by simpa using h3))))
   ·have hbm : aE r.2 = true := by simpa using h3
    refine Br.mk (fun h4 => ?_) (fun h4 => ?_) <;> simp at h4
    ·have hwk := aj (n := (k : Int) - 1) (by unfold inI; omega)
     rw [hwk]
     obtain ⟨q, hq⟩ := aI (l := l) (i := k - 1) (by omega)
     have hin := cU.ee hs (i := k - 1) (by omega)
     rw [show ((k - 1 : Nat) : Int) = (k : Int) - 1 from by omega] at hin
     have hcq := cU.c1 (hs.ext x4) hq
     have hsm := cU.some hs (i := k - 1) (by omega)
     rw [show ((k : Int) - 1).toNat = k - 1 from by omega]
     have hlast := hprev k (by omega)
     rw [if_neg (by omega), hq] at hlast
     refine ⟨hin, iV.2 ⟨hsm, _, hcq, Br.mk (fun h5 => ?_) (fun h5 => ?_)⟩⟩
     ·exact fin _ x4 (.inr (.inr (.inr (by rw [hlast]; simpa using h5))))
     ·exact nx (by rw [hlast]; simpa using h5) hbm
    ·refine nx ?_ hbm
     have : k = 0 := by omega
     subst this; simp
 ·obtain rfl : k = l.length := by omega
  rw [List.drop_length] at heq
  refine Br.mk (fun h1 => ?_) (fun h1 => ?_) <;> simp at h1
  ·refine ⟨?_, xr⟩
   unfold kQ
   rw [← heq, decide_eq_true h1]
   rfl
  ·refine ⟨?_, xr⟩
   unfold kQ
   rw [decide_eq_false (by omega)]; rfl
end Go.Proofs.YtalpkjfpmdpbiaaGreatDoor
namespace Go.Proofs.YtalpkjfpmdpbiaaGreatDoor
open Go Go.Vc Go.RowKit Go.Proofs Go.aD
theorem tm (s : Sl) (l : List Rn) (w : World) (hs : cU w s l) (hn : Bd l.length) (hl : ∀ r ∈ l, 0 ≤ r.1) (hsum : aC l ≤ 1099511627776) :
  Calls Tryz.prog kL #[s] w fun e w' => ∃ s' : Sl, e = .returned s' ∧ HZ w.heap.size w' s' (aA l) ∧ Ext w w' := by
 have hsn := cU.len hs
 unfold Bd at hn
 apply nU.vc
 refine ⟨fun n x o wr => ∃ k : Nat, x = k ∧ k + n = l.length ∧ Ext w wr ∧ HZ w.heap.size wr o (aA (l.take k)), ⟨l.length, 0, rfl, by omega, Ext.ao w, ag.nil⟩, ?_⟩
 rintro n us x o wr ⟨k, rfl, hk, xr, ho⟩
 have hw := aj (n := (k : Int) + 1) (by unfold inI; omega)
 refine Br.mk (fun h => ?_) (fun h => ?_) <;> simp at h
 ·obtain ⟨r, hr⟩ := aI (l := l) (i := k) (by omega)
  have hr0 := hl r (List.mem_of_getElem? hr)
  have b2 := cD hl (k + 1)
  have b3 : aC (l.take (k + 1)) = _ := bq fun q hq => hl q (List.mem_of_mem_take hq)
  rw [eL hr, List.length_append, List.length_replicate] at b3
  refine ⟨fun n x o wr => ∃ j : Nat, x = j ∧ j + n = r.1.toNat ∧ Ext w wr ∧ HZ w.heap.size wr o (aA (l.take k) ++ List.replicate j r.2), ⟨r.1.toNat, 0, rfl, by omega, xr, by simpa using ho⟩, ?_⟩
  rintro n2 us2 x2 o2 w2 ⟨j, rfl, hj, x2, ho2⟩
  have hw2 := aj (n := (j : Int) + 1) (by unfold inI; omega)
  have hin := cU.ee hs (i := k) (by omega)
  have hsm := cU.some hs (i := k) (by omega)
  have hon := vp.len ho2.H0
  rw [List.length_append, List.length_replicate] at hon
  refine ⟨hin, iV.2 ⟨hsm, _, cU.c0 (hs.ext x2) hr, Br.mk (fun h2 => ?_) (fun h2 => ?_)⟩⟩ <;> simp only [decide_eq_true_eq, decide_eq_false_iff_not] at h2
  ·refine ⟨hin, iV.2 ⟨hsm, _, cU.c1 (hs.ext x2) hr, ?_⟩⟩
   rintro w16 rfl
   obtain ⟨hp, hres⟩ := ag.ly ho2 (bytes := 8) (news := iv r.2) (.cells #[r.2] yq) x2.size rfl (pQ _ _) (by omega) (by omega)
   refine ⟨hp, fun s17 w18 hr' => ?_⟩
   obtain ⟨k1, ho', _, xb, _, _⟩ := hres s17 w18 hr'
   refine ⟨k1, n2 - 1, by omega, j + 1, by omega, by omega, x2.trans xb, ?_⟩
   show ag _ _ 1 _ _ ((aA (l.take k) ++ List.replicate (j + 1) r.2).map iv)
   rw [List.replicate_succ', ← List.append_assoc, List.map_append]; exact ho'
  ·have : j = r.1.toNat := by omega
   subst this
   exact ⟨n - 1, by omega, k + 1, by omega, by omega, x2, by rw [eL hr]; exact ho2⟩
 ·obtain rfl : k = l.length := by omega
  rw [List.take_length] at ho
  exact ⟨o, rfl, ho, xr⟩
theorem pT {c : List Int} {k : Nat} {b : Int} (hb : c[k]? = some b) : bk (c.take (k + 1)) = dB (bk (c.take k)) (1, b) := by
 rw [List.take_add_one, hb, rK]; rfl
theorem Gr {c : List Int} {b : Int} : ∃ m q, bk (c ++ [b]) = m ++ [q] ∧ q.2 = b := by
 have e : bk (c ++ [b]) = dB (bk c) (1, b) := by rw [rK]; rfl
 rw [e]
 rcases lZ (bk c) with h | ⟨m, q, h⟩
 ·rw [h, bV (l := []) (r := (1, b)) (by show (1 : Int) ≤ 1; omega) (by simp)]
  exact ⟨[], (1, b), rfl, rfl⟩
 ·rw [h]
  by_cases e : q.2 = b
  ·rw [dq (r := (1, b)) (by show (1 : Int) ≤ 1; omega) e]
   exact ⟨m, _, rfl, e⟩
  ·rw [bV (r := (1, b)) (by show (1 : Int) ≤ 1; omega) (by intro p hp; simp at hp; subst hp; exact e)]
   exact ⟨m ++ [q], (1, b), rfl, rfl⟩
theorem kM (s : Sl) (c : List Int) (w : World) (hs : vp w s c) (hn : Bd c.length) :
  Calls Tryz.prog dP #[s] w fun e w' => ∃ s' : Sl, e = .returned s' ∧ jX w.heap.size w' s' (bk c) ∧ Ext w w' := by
 have hsn := vp.len hs
 unfold Bd at hn
 apply wx.vc
 refine ⟨fun n x o wr => ∃ k : Nat, x = k ∧ k + n = c.length ∧ Ext w wr ∧ jX w.heap.size wr o (bk (c.take k)), ⟨c.length, 0, rfl, by omega, Ext.ao w, ag.nil⟩, ?_⟩
 rintro n us x o wr ⟨k, rfl, hk, xr, ho⟩
 have hw := aj (n := (k : Int) + 1) (by unfold inI; omega)
 have xd := xr.drew
 have hod := ag.ext ho (Ext.dr wr)
 have hon := cU.len ho.qy
 have hol := jb (c.take k)
 rw [List.length_take] at hol
 refine Br.mk (fun h => ?_) (fun h => ?_) <;> simp at h
 ·obtain ⟨b, hb⟩ := aI (l := c) (i := k) (by omega)
  have hin := vp.ee hs (i := k) (by omega)
  have hcb := vp.c0 (hs.ext xd) hb
  have grow : (∀ q, (bk (c.take k)).getLast? = some q → q.2 ≠ b) → ∀ w12 : World, w12 = wr.drew.alloc (.cells #[(1:Int), b] cz) →
    au 16 2 w12 ⟨o.a, o.n, o.c⟩ 1 [(1:Int), b] ∧ ∀ (s13 : Sl) (w14 : World), aq cz 2 w12 ⟨o.a, o.n, o.c⟩ 1 [(1:Int), b] s13 w14 → w14.heap[wr.drew.heap.size]? = w12.heap[wr.drew.heap.size]? ∧
    ∃ n6, n6 < n ∧ ∃ k_1 : Nat, IntKind.wrap .i64 ((k : Int) + 1) = k_1 ∧ k_1 + n6 = c.length ∧ Ext w w14 ∧ jX w.heap.size w14 ⟨s13.a, s13.n, s13.c⟩ (bk (c.take k_1)) := by
   rintro hne w12 rfl
   obtain ⟨hp, hres⟩ := ag.ly hod (bytes := 16) (news := rv (1, b)) (.cells #[(1:Int), b] cz) xd.size rfl (lU _ _ _ _) (by omega) (by omega)
   refine ⟨hp, fun s17 w18 hr' => ?_⟩
   obtain ⟨k1, ho', _, xb, _, _⟩ := hres s17 w18 hr'
   refine ⟨k1, n - 1, by omega, k + 1, by omega, by omega, xd.trans xb, ?_⟩
   rw [pT hb, bV (r := (1, b)) (by show (1 : Int) ≤ 1; omega) hne]
   show ag _ _ 2 _ _ ((bk (c.take k) ++ [(1, b)]).map rv)
   rw [List.map_append]; exact ho'
  refine Br.mk (fun h1 => ?_) (fun h1 => ?_) <;> simp at h1
  ·obtain ⟨a, ha⟩ := aI (l := c) (i := k - 1) (by omega)
   have hwk := aj (n := (k : Int) - 1) (by unfold inI; omega)
   rw [hwk]
   have hin2 := vp.ee hs (i := k - 1) (by omega)
   rw [show ((k - 1 : Nat) : Int) = (k : Int) - 1 from by omega] at hin2
   have hca := vp.c0 (hs.ext xd) ha
   have hcat : c.take k = c.take (k - 1) ++ [a] := by
    have : k = k - 1 + 1 := by omega
    rw [this, List.take_add_one, Nat.add_sub_cancel, ha]; rfl
   obtain ⟨m, q, hmq, hqa⟩ := Gr (c := c.take (k - 1)) (b := a)
   rw [← hcat] at hmq
   refine ⟨hin2, a, by rw [show ((k : Int) - 1).toNat = k - 1 from by omega]; exact hca, hin, b, hcb, Br.mk (fun h2 => ?_) (fun h2 => ?_)⟩
   ·simp at h2
    have hob : o.n = m.length + 1 := by rw [hon, hmq]; simp
    have hwo := aj (n := ((o.n : Nat) : Int) - 1) (by unfold inI; omega)
    rw [hwo]
    have hnat : (((o.n : Nat) : Int) - 1).toNat = m.length := by omega
    have hgq : (bk (c.take k))[m.length]? = some q := by rw [hmq]; simp
    have hin3 := cU.ee ho.qy (i := m.length) (by rw [hmq]; simp)
    rw [show ((m.length : Nat) : Int) = ((o.n : Nat) : Int) - 1 from by omega] at hin3
    have hsm := cU.some ho.qy (i := m.length) (by rw [hmq]; simp)
    rw [hnat]
    have hqm := fG (List.mem_of_getElem? hgq)
    rw [List.length_take] at hqm
    have hwq := aj (n := q.1 + 1) (by unfold inI; omega)
    obtain ⟨q1, q2, q3, q4, q5⟩ := ag.set hod (i := m.length) (j := 0) (r := rv q) (v := .int .i64 (q.1 + 1)) (by rw [List.getElem?_map, hgq]; rfl) (by omega) rfl xd.size
    refine ⟨hin3, iV.2 ⟨hsm, _, cU.c0 (jX.qy hod) hgq, hin3, iV.2 ⟨hsm, ⟨q1, q2⟩, ?_⟩⟩⟩
    rintro w10 rfl
    rw [hwq]
    refine ⟨n - 1, by omega, k + 1, by omega, by omega, xd.trans q4, ?_⟩
    rw [pT hb, hmq, dq (r := (1, b)) (by show (1 : Int) ≤ 1; omega) (hqa.trans h2)]
    show ag _ _ 2 _ _ ((m ++ [(q.1 + 1, q.2)]).map rv)
    have e : ((m ++ [q]).map rv).set m.length ((rv q).set 0 (.int .i64 (q.1 + 1))) = (m ++ [(q.1 + 1, q.2)]).map rv := by
     rw [List.map_append, List.map_append, List.set_append_right _ _ (by simp)]
     simp
    rw [← e, ← hmq]; exact q3
   ·refine ⟨hin, b, hcb, grow ?_⟩
    intro p hp
    rw [hmq] at hp
    simp at hp; subst hp
    rw [hqa]; simpa using h2
  ·refine ⟨hin, b, hcb, grow ?_⟩
   have : k = 0 := by omega
   subst this
   intro p hp; simp [bk] at hp
 ·obtain rfl : k = c.length := by omega
  rw [List.take_length] at ho
  exact ⟨o, rfl, ho, xr⟩
theorem wy (s : Sl) (c : List Int) (i x : Int) (w : World) (hs : cU w s (bk c)) (hn : Bd c.length) :
  Calls Tryz.prog nV #[s, i, x] w fun e w' => ∃ s' : Sl, e = .returned s' ∧ jX w.heap.size w' s' (bk (qA c i x)) ∧ Ext w w' := by
 have hl : Bd (bk c).length := Nat.le_trans (jb c) hn
 apply tn.vc
 refine (tm s _ w hs hl (fun r hr => by have := fG hr; omega) (by rw [eG]; unfold Bd at hn; omega)).mono ?_
 rintro e w1 ⟨s1, rfl, o1, x1⟩
 rw [fo] at o1
 have hn1 := vp.len o1.H0
 refine ⟨s1, rfl, (fH x w1).mono ?_⟩
 rintro e w2 ⟨rfl, rfl⟩
 have same : qA c i x = c → Calls Tryz.prog dP #[s1] w2 (fun e w7 => ∃ (s8 : Sl), e = .returned s8 ∧ ∃ s' : Sl, Ending.returned s8 = .returned s' ∧ jX w.heap.size w7 s' (bk (qA c i x)) ∧ Ext w w7) := by
  intro e
  refine (kM s1 c w2 o1.H0 hn).mono ?_
  rintro _ w3 ⟨s', rfl, ho, x3⟩
  exact ⟨s', rfl, s', rfl, by rw [e]; exact ag.low ho x1.size, x1.tr x3⟩
 refine ⟨_, rfl, Br.mk (fun h1 => Br.mk (fun h2 => Br.mk (fun h3 => ?_) (fun h3 => ?_)) (fun h2 => ?_)) (fun h1 => ?_)⟩ <;> simp only [decide_eq_true_eq, decide_eq_false_iff_not] at *
 ·obtain ⟨b, hb⟩ := aI (l := c) (i := i.toNat) (by omega)
  have hin := vp.ee o1.H0 (i := i.toNat) (by omega)
  rw [show ((i.toNat : Nat) : Int) = i from by omega] at hin
  obtain ⟨q1, q2, q3, q4, q5⟩ := ag.set o1 (i := i.toNat) (j := 0) (r := iv b) (v := .int .i64 x) (by rw [List.getElem?_map, hb]; rfl) (by omega) rfl x1.size
  have e0 : ab (ab s1.a (i.toNat * 1)) 0 = ab s1.a (i.toNat * 1) := by rw [cj]; rfl
  rw [e0] at q1 q2 q3 q4 q5
  refine ⟨hin, ⟨q1, q2⟩, ?_⟩
  rintro w4 rfl
  have e1 : (c.map iv).set i.toNat ((iv b).set 0 (x)) = (c.set i.toNat x).map iv := by rw [List.map_set]; rfl
  rw [e1] at q3
  have q3' : HZ w.heap.size _ s1 (c.set i.toNat x) := q3
  refine (kM s1 _ _ q3'.H0 (by simpa using hn)).mono ?_
  rintro _ w5 ⟨s', rfl, ho, x5⟩
  have hx : Ext w (aB w2 (ab s1.a (i.toNat * 1)) [x]) := x1.trans q4
  refine ⟨s', rfl, s', rfl, ?_, hx.tr x5⟩
  unfold qA
  rw [if_pos ⟨h1, h2, by omega⟩]
  exact ag.low ho hx.size
 ·exact same (by unfold qA; rw [if_neg (by omega)])
 ·exact same (by unfold qA; rw [if_neg (by omega)])
 ·exact same (by unfold qA; rw [if_neg (by rw [h1]; simp)])
end Go.Proofs.YtalpkjfpmdpbiaaGreatDoor
namespace Go.Proofs.YtalpkjfpmdpbiaaGreatDoor
open Go Go.Vc Go.RowKit Go.Proofs Go.aD
end Go.Proofs.YtalpkjfpmdpbiaaGreatDoor
namespace Go.Proofs.YtalpkjfpmdpbiaaGreatDoor
open Go Go.Vc Go.RowKit Go.Proofs Go.aD
theorem Gz {l : List Rn} {k : Nat} {r : Rn} (hr : l[k]? = some r) {j : Nat} (hj : j < r.1.toNat) : (aA l)[(aA (l.take k)).length + j]? = some r.2 := by
 have e : l = l.take k ++ r :: l.drop (k + 1) := by
  have := List.take_append_drop k l
  rw [List.drop_eq_getElem_cons (List.getElem?_eq_some_iff.1 hr).1] at this
  rw [← (List.getElem?_eq_some_iff.1 hr).2]
  exact this.symm
 have e2 : aA l = aA (l.take k) ++ (List.replicate r.1.toNat r.2 ++ aA (l.drop (k + 1))) := by
  conv => lhs; rw [e]
  rw [cK]
  simp [aA]
 rw [e2, List.getElem?_append_right (by omega), Nat.add_sub_cancel_left, List.getElem?_append_left (by rw [List.length_replicate]; exact hj), List.getElem?_replicate, if_pos hj]
end Go.Proofs.YtalpkjfpmdpbiaaGreatDoor
namespace Go.Proofs.YtalpkjfpmdpbiaaGreatDoor
open Go Go.Vc Go.RowKit Go.Proofs Go.aD
end Go.Proofs.YtalpkjfpmdpbiaaGreatDoor
