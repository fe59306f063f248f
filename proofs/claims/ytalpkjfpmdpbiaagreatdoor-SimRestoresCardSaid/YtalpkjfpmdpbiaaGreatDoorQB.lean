import Derived.Test.YtalpkjfpmdpbiaaGreatDoorQA
import Derived.Test.YtalpkjfpmdpbiaaGreatDoorGD
set_option linter.all false
namespace Go.Proofs.YtalpkjfpmdpbiaaGreatDoor.Q
open Go Go.Vc Go.RowKit Go.Proofs Go.j3
set_option maxRecDepth 100000
abbrev tX:TypeId:=79
theorem pE {B E k : Nat} {w : World} {s : Sl} {rows : List (List Value)} (h : ag B E k w s rows) (hk : 0 < k) : s.n ≤ s.c := by
 rcases h.form hk with ⟨hs, -⟩ | ⟨g0, cs, ha, hg0, hr, hc, hnc, -⟩
 ·rw [hs]; exact Nat.le_refl _
 ·exact hnc
def ye(l:List It)(c:Cl):Int:=match l.findIdx? fun x=>x.2==c with|some i=>i|none=> -1
theorem yf {l : List It} {c : Cl} {k : Nat} {x : It} (hk : ∀ y ∈ l.take k, y.2 ≠ c) (hx : l[k]? = some x) (hc : x.2 = c) : ye l c = k := by
 unfold ye
 have : l.findIdx? (fun x => x.2 == c) = some k := by
  rw [List.findIdx?_eq_some_iff_getElem]
  obtain ⟨hlt, he⟩ := List.getElem?_eq_some_iff.1 hx
  refine ⟨hlt, by simp [he, hc], fun j hj => ?_⟩
  have := hk (l[j]'(by omega)) (List.mem_take_iff_getElem.2 ⟨j, by omega, rfl⟩)
  simpa using this
 rw [this]
theorem yg {l : List It} {c : Cl} (hk : ∀ y ∈ l, y.2 ≠ c) : ye l c = -1 := by
 unfold ye
 have : l.findIdx? (fun x => x.2 == c) = none := by
  rw [List.findIdx?_eq_none_iff]
  intro x hx
  simpa using hk x hx
 rw [this]
theorem u7 (l : List It) (c : Cl) : (ye l c = -1 ∧ (∀ y ∈ l, y.2 ≠ c) ∧ dX l c = none) ∨ ∃ k : Nat, ∃ x, ye l c = k ∧ l[k]? = some x ∧ x.2 = c ∧ (∀ y ∈ l.take k, y.2 ≠ c) ∧ dX l c = some x.1 := by
 induction l with
 | nil => exact .inl ⟨rfl, by simp, rfl⟩
 | cons a l ih =>
   by_cases ha : a.2 = c
   ·refine .inr ⟨0, a, yf (by simp) rfl ha, rfl, ha, by simp, ?_⟩
    unfold dX; rw [List.find?_cons_of_pos (by simp [ha])]; rfl
   ·rcases ih with ⟨-, h2, h3⟩ | ⟨k, x, h1, h2, h3, h4, h5⟩
    ·have hall : ∀ y ∈ a :: l, y.2 ≠ c := fun y hy => by
      rcases List.mem_cons.1 hy with rfl | hy
      ·exact ha
      ·exact h2 y hy
     refine .inl ⟨yg hall, hall, ?_⟩
     unfold dX at h3 ⊢; rw [List.find?_cons_of_neg (by simp [ha])]; exact h3
    ·have hall : ∀ y ∈ (a :: l).take (k + 1), y.2 ≠ c := fun y hy => by
      rw [List.take_succ_cons] at hy
      rcases List.mem_cons.1 hy with rfl | hy
      ·exact ha
      ·exact h4 y hy
     refine .inr ⟨k + 1, x, yf hall (by simpa using h2) h3, by simpa using h2, h3, hall, ?_⟩
     unfold dX at h5 ⊢; rw [List.find?_cons_of_neg (by simp [ha])]; exact h5
theorem gA {w : World} {s : Sl} {l : List It} (h : RdK w s 4 (l.map a9)) (hl : l.length ≤ 5000) (room lost : Int) (c : Cl) :
  Calls Tryz.prog jl #[.agg #[room, lost, s], cv c] w fun e w' => e = .returned (.int .i64 (ye l c)) ∧ Ext w w' := by
 apply ru.vc
 have hn : s.n = l.length := by rw [h.n, List.length_map]
 intro w0 e0 w1 e1
 have x1 : Ext w w1 := ((Ext.ao w).aa e0).aa e1
 refine ⟨fun n x wr => Ext w wr ∧ ∃ k : Nat, x = k ∧ k + n = l.length ∧ ∀ y ∈ l.take k, y.2 ≠ c, ⟨l.length, rfl, rfl, x1, 0, rfl, by omega, by simp⟩, ?_⟩
 rintro n us x wr ⟨xr, k, rfl, hk, hno⟩
 refine Br.mk (fun hc => ?_) (fun hc => ?_)
 ·replace hc := dj hc
  have hget : l[k]? = some (l[k]'(by omega)) := List.getElem?_eq_getElem (by omega)
  generalize l[k]'(by omega) = y at hget
  have hrd := h.ext xr.drew
  have hs := hrd.isSome (by decide) (i := k) (by simp; omega)
  refine ⟨⟨hs, by omega, by omega⟩, aG.2 ⟨ef.2 (by rw [cF]; exact hs), y.2.1, y.2.2.1, y.2.2.2, ?_, Br.mk (fun hb => ?_) (fun hb => ?_)⟩⟩
  ·rw [cj]
   refine dp fun j v hj => ?_
   have h1 := hrd.rd k (a9 y) (by rw [List.getElem?_map, hget]; rfl)
   rw [Nat.zero_add, cj, Nat.add_assoc]
   exact h1 (1 + j) v (by rw [Nat.add_comm]; exact hj)
  ·have hy : y.2 = c := by
    simp only [Bool.and_eq_true, beq_iff_eq] at hb
    obtain ⟨h1, h2, h3⟩ := hb
    exact Prod.ext h1 (Prod.ext h2 h3)
   exact ⟨by rw [yf hno hget hy], xr.drew⟩
  ·have hw : IntKind.wrap .i64 ((k : Int) + 1) = ((k + 1 : Nat) : Int) := by rw [wI]; omega
   rw [hw]
   refine ⟨n - 1, by omega, rfl, rfl, xr.drew, k + 1, rfl, by omega, fun z hz => ?_⟩
   rw [List.take_add_one, hget] at hz
   rcases List.mem_append.1 hz with hz | hz
   ·exact hno z hz
   ·simp only [Option.toList_some, List.mem_singleton] at hz
    subst hz
    intro e
    subst e
    simp at hb
 ·replace hc := dH hc
  rw [List.take_of_length_le (by omega)] at hno
  exact ⟨by rw [yg hno], xr⟩
end Go.Proofs.YtalpkjfpmdpbiaaGreatDoor.Q
namespace Go.Proofs.YtalpkjfpmdpbiaaGreatDoor.Q
open Go Go.Vc Go.RowKit Go.Proofs Go.j3
set_option maxRecDepth 100000
theorem GU {l : List It} (hn : (l.map (·.2)).Nodup) {k : Nat} {x : It} (hx : l[k]? = some x) : aP l x.2 = l.take k ++ l.drop (k + 1) := by
 obtain ⟨hlt, he⟩ := List.getElem?_eq_some_iff.1 hx
 have hd : l = l.take k ++ x :: l.drop (k + 1) := by rw [← he, ← List.drop_eq_getElem_cons hlt, List.take_append_drop]
 have hn2 := hn
 rw [hd, List.map_append, List.map_cons, List.nodup_append] at hn2
 unfold aP
 conv => lhs; rw [hd]
 rw [List.filter_append, List.filter_cons_of_neg (by simp), List.filter_eq_self.2 fun y hy => ?_, List.filter_eq_self.2 fun y hy => ?_]
 ·have h1 := (List.nodup_cons.1 hn2.2.1).1
  have : y.2 ≠ x.2 := fun e => h1 (e ▸ List.mem_map_of_mem hy)
  simpa using this
 ·have := hn2.2.2 y.2 (List.mem_map_of_mem hy) x.2 (List.mem_cons_self ..)
  simpa using this
theorem lH {w : World} {s : Sl} {l : List It} (ho : ag 0 tX 4 w s (l.map a9)) {k : Nat} (hk : k ≤ l.length) (hl : l.length ≤ 5000) (c' : Nat) :
  Rd w (ai s.a 0 c' 4) ((l.take k).map a9).flatten ∧ au 32 4 w ⟨none, 0, 0⟩ k ((l.take k).map a9).flatten ∧ ∀ s' w', aq 79 4 w ⟨none, 0, 0⟩ k ((l.take k).map a9).flatten s' w' →
   ag w.heap.size tX 4 w' s' ((l.take k).map a9) ∧ Ext w w' ∧ s'.n = k := by
 have hn : s.n = l.length := by rw [(ho.rd (by decide)).n, List.length_map]
 have hlen : ((l.take k).map a9).length = k := by rw [List.length_map, List.length_take]; omega
 obtain ⟨hp, hr⟩ := (ag.nil (B := w.heap.size) (E := tX) (k := 4) (w := w)).np (bytes := 32) (more := (l.take k).map a9) (Nat.le_refl _) (bN _) (dN _) (by rw [hlen]; simp; omega) (by rw [hlen]; simp; omega)
 rw [hlen] at hp hr
 refine ⟨?_, hp, fun s' w' hres => ?_⟩
 ·have := ((ho.rd (by decide)).cut (m := k) (c' := c') (c'' := 0) (by simpa using hk)).flat (by decide)
  rw [← List.map_take] at this
  exact this
 ·obtain ⟨h1, h2, h3, h4, h5⟩ := hr s' w' hres
  exact ⟨h1, h3, by simpa using h2⟩
theorem oQ {w : World} {B : Nat} {s d : Sl} {l r : List It} (ho : ag 0 tX 4 w s (l.map a9)) (hd : ag B tX 4 w d (r.map a9)) (hB : B ≤ w.heap.size) {k : Nat} (hl : l.length ≤ 5000) (hr : r.length ≤ 5000) :
  Rd w (ai s.a k s.c 4) ((l.drop k).map a9).flatten ∧ au 32 4 w ⟨d.a, d.n, d.c⟩ (s.n - k) ((l.drop k).map a9).flatten ∧ ∀ s' w', aq 79 4 w ⟨d.a, d.n, d.c⟩ (s.n - k) ((l.drop k).map a9).flatten s' w' →
   ag B tX 4 w' s' ((r ++ l.drop k).map a9) ∧ Below B w w' ∧ ∀ j, d.ay ≠ some j → j < w.heap.size → w'.heap[j]? = w.heap[j]? := by
 have hn : s.n = l.length := by rw [(ho.rd (by decide)).n, List.length_map]
 have hdn : d.n = r.length := by rw [(hd.rd (by decide)).n, List.length_map]
 have hc := pE ho (by decide)
 have hlen : ((l.drop k).map a9).length = s.n - k := by rw [List.length_map, List.length_drop]; omega
 obtain ⟨hp, hr⟩ := hd.np (bytes := 32) (more := (l.drop k).map a9) hB (bN _) (dN _) (by rw [hlen]; omega) (by rw [hlen]; omega)
 rw [hlen] at hp hr
 refine ⟨?_, hp, fun s' w' hres => ?_⟩
 ·have := ((ho.rd (by decide)).rest (l := k) (m := s.c) (n' := l.length - k) (c' := 0) (by simp) (fun e => by simp; omega)).flat (by decide)
  rw [← List.map_drop] at this
  exact this
 ·obtain ⟨h1, h2, h3, h4, h5⟩ := hr s' w' hres
  exact ⟨by rw [List.map_append]; exact h1, h3, h4⟩
theorem ag.boxed {B : Nat} {w w' : World} {s : Sl} {l : List It} (ho : ag B tX 4 w s (l.map a9)) {b : Nat} (hb : b < B) {cs : Array Value} (e : w' = w.setRow b cs) : ag B tX 4 w' s (l.map a9) := by
 subst e
 exact ho.aW fun g hg => setRow_other _ _ _ _ (by have := (ho.own.lt hg).1; omega)
theorem C0 {w : World} {s : Sl} {l : List It} (ho : ag 0 tX 4 w s (l.map a9)) (hn : (l.map (·.2)).Nodup) (hl : l.length ≤ 5000) (room lost : Int) (c : Cl) :
  Calls Tryz.prog mG #[.agg #[room, lost, s], cv c] w fun e w' => (∃ s' : Sl, e = .returned (.tuple #[.agg #[room, lost, s'], .bool (dX l c).isSome]) ∧ ag 0 tX 4 w' s' ((aP l c).map a9)) ∧ Ext w w' := by
 apply q8.vc
 have hsn : s.n = l.length := by rw [(ho.rd (by decide)).n, List.length_map]
 have hcap := pE ho (by decide)
 intro w0 e0 w1 e1 w2 e2
 have x2 : Ext w w2 := (((Ext.ao w).aa e0).aa e1).aa e2
 have z0 := cL e0
 have z1 : w1.heap.size = w.heap.size + 2 := by rw [e1]; simp [z0]
 have z2 : w2.heap.size = w.heap.size + 3 := by rw [e2]; simp [z1]
 refine (gA ((ho.ext x2).rd (by decide)) hl room lost c).mono ?_
 rintro e w3 ⟨rfl, x3⟩
 have x03 := x2.tr x3
 have z3 := x3.size
 refine ⟨_, rfl, ?_⟩
 (repeat (refine And.intro ((x3).block _ (by omega)) ?_))
 rcases u7 l c with ⟨hf, hall, hq⟩ | ⟨k, x, hf, hx, hc, hbef, hq⟩
 ·rw [hf]
  refine Br.mk (fun _ => ?_) (fun h => by simp at h)
  intro w5 e5
  have : aP l c = l := by unfold aP; rw [List.filter_eq_self]; intro y hy; simpa using hall y hy
  rw [this, hq]
  exact ⟨⟨s, rfl, (ho.ext (x03.af e5 (by omega)))⟩, x03.af e5 (by omega)⟩
 ·rw [hf]
  obtain ⟨hlt, -⟩ := List.getElem?_eq_some_iff.1 hx
  refine Br.mk (fun h => by simp at h; omega) (fun _ => ?_)
  have hw : IntKind.wrap .i64 ((k : Int) + 1) = ((k + 1 : Nat) : Int) := by rw [wI]; omega
  rw [hw]
  simp only [Int.toNat_natCast, Nat.sub_zero]
  have h3 := ho.ext x03
  obtain ⟨a1, a2, a3⟩ := lH h3 (k := k) (by omega) hl s.c
  refine ⟨by omega, by omega, _, a1, a2, fun s7 w8 hres => ?_⟩
  obtain ⟨b1, b2, b3⟩ := a3 s7 w8 hres
  (repeat (refine And.intro ((b2).block _ (by omega)) ?_))
  have h8 := h3.ext b2
  obtain ⟨c1, c2, c3⟩ := oQ (k := k + 1) h8 b1 b2.size hl (by rw [List.length_take]; omega)
  refine ⟨by omega, by omega, _, c1, c2, fun s10 w11 hres2 => ?_⟩
  obtain ⟨d1, d2, -⟩ := c3 s10 w11 hres2
  (repeat (refine And.intro ((d2).block _ (by omega)) ?_))
  intro w12 e12 w13 e13
  have hd := GU hn hx
  rw [hc] at hd
  have x11 : Ext w w11 := x03.tr (b2.trans d2)
  refine ⟨⟨s10, by rw [hq]; rfl, ?_⟩, (x11.af e12 (Nat.le_refl _)).af e13 (by omega)⟩
  rw [hd]
  exact (ag.boxed (ag.boxed d1 (by omega) e12) (by omega) e13).low (Nat.zero_le _)
end Go.Proofs.YtalpkjfpmdpbiaaGreatDoor.Q
namespace Go.Proofs.YtalpkjfpmdpbiaaGreatDoor.Q
open Go Go.Vc Go.RowKit Go.Proofs Go.j3
set_option maxRecDepth 100000
theorem sG {l : List It} (hs : l.Pairwise fun a b => a.1 ≤ b.1) {t : Int} {k : Nat} (hk : k ≤ l.length) (hb : ∀ y ∈ l.drop k, t < y.1) (ha : ∀ x, k ≠ 0 → l[k - 1]? = some x → x.1 ≤ t) : (l.takeWhile fun y => decide (y.1 ≤ t)).length = k := by
 have hle : (l.takeWhile fun y => decide (y.1 ≤ t)).length ≤ k := by
  rcases Nat.lt_or_ge k (l.takeWhile fun y => decide (y.1 ≤ t)).length with h | h
  ·have hkl : k < l.length := Nat.lt_of_lt_of_le h (List.takeWhile_sublist _).length_le
   have hg : l[k]? = some l[k] := List.getElem?_eq_getElem hkl
   have h1 := (ji hs t hg).1 h
   have h2 := hb l[k] (List.mem_drop_iff_getElem.2 ⟨0, by omega, by simp⟩)
   omega
  ·exact h
 rcases Nat.eq_zero_or_pos k with h0 | h0
 ·omega
 ·have hg : l[k - 1]? = some (l[k - 1]'(by omega)) := List.getElem?_eq_getElem (by omega)
  have := (ji hs t hg).2 (ha _ (by omega) hg)
  omega
theorem zj {w : World} {s : Sl} {q : QS} (ho : ag 0 tX 4 w s (q.l.map a9)) (hq : rV q) (hlost : 0 ≤ q.lost ∧ q.lost ≤ 1000000) (c : Cl) (t : Int) :
  Calls Tryz.prog kz #[.agg #[q.room, q.lost, s], cv c, t] w fun e w' => (∃ s' : Sl, e = .returned (.tuple #[.agg #[.int .i64 (bM q c t).1.room, .int .i64 (bM q c t).1.lost, s'], .bool (bM q c t).2]) ∧ ag 0 tX 4 w' s' ((bM q c t).1.l.map a9)) ∧ Ext w w' := by
 apply uA.vc
 have hsn : s.n = q.l.length := by rw [(ho.rd (by decide)).n, List.length_map]
 have hlen := hq.len
 have hroom := hq.room
 intro w0 e0 w1 e1 w2 e2
 have x2 : Ext w w2 := (((Ext.ao w).aa e0).aa e1).aa e2
 have z0 := cL e0
 have z1 : w1.heap.size = w.heap.size + 2 := by rw [e1]; simp [z0]
 have z2 : w2.heap.size = w.heap.size + 3 := by rw [e2]; simp [z1]
 refine (gA ((ho.ext x2).rd (by decide)) (by omega) q.room q.lost c).mono ?_
 rintro e w3 ⟨rfl, x3⟩
 have x03 := x2.tr x3
 have z3 := x3.size
 have h3 := ho.ext x03
 have hrd3 := h3.rd (by decide)
 refine ⟨_, rfl, ?_⟩
 (repeat (refine And.intro ((x3).block _ (by omega)) ?_))
 rcases u7 q.l c with ⟨hf, hall, hqt⟩ | ⟨i, x, hf, hx, hc, hbef, hqt⟩
 ·rw [hf]
  refine Br.mk (fun h => by simp at h) (fun _ => Br.mk (fun _ => ?_) (fun h => by simp at h))
  refine Br.mk (fun hb => ?_) (fun hb => ?_)
  ·replace hb := dj hb
   intro w75 e75 w76 e76
   have e : bM q c t = ({ q with lost := q.lost + 1 }, false) := by unfold bM; rw [hqt]; simp only; rw [if_pos (by omega)]
   rw [e, wI]
   have x76 := (x03.af e75 (Nat.le_refl _)).af e76 (by omega)
   exact ⟨⟨s, rfl, ho.ext x76⟩, x76⟩
  ·replace hb := dH hb
   have e : bM q c t = ({ q with l := lI q.l (t, c) }, true) := by unfold bM; rw [hqt]; simp only; rw [if_neg (by omega)]
   rw [e]
   refine ⟨fun n x wr => w3 = wr ∧ ∃ k : Nat, x = k ∧ k = n ∧ k ≤ q.l.length ∧ ∀ y ∈ q.l.drop k, t < y.1, ⟨q.l.length, rfl, rfl, rfl, rfl, q.l.length, by rw [hsn], rfl, Nat.le_refl _, by simp⟩, ?_⟩
   rintro n us x wr ⟨rfl, k, rfl, rfl, hkl, hbeh⟩
   have hsort := hq.sorted
   have hown := h3
   have hlr : q.l.length ≤ 5000 := by omega
   refine Br.mk (fun hc => ?_) (fun hc => ?_)
   ·replace hc := dj hc
    have hw : IntKind.wrap .i64 ((k : Int) - 1) = ((k - 1 : Nat) : Int) := by rw [wI]; omega
    rw [hw]
    have hget : q.l[k - 1]? = some (q.l[k - 1]'(by omega)) := List.getElem?_eq_getElem (by omega)
    have hcons : q.l.drop (k - 1) = q.l[k - 1]'(by omega) :: q.l.drop k := by
     rw [List.drop_eq_getElem_cons (by omega)]; congr 2; omega
    generalize q.l[k - 1]'(by omega) = y at hget hcons
    have hs := hrd3.isSome (by decide) (i := k - 1) (by simp; omega)
    refine ⟨⟨hs, by omega, by omega⟩, aG.2 ⟨ef.2 (by rw [cF]; exact hs), y.1, hrd3.at (i := k - 1) (r := a9 y) (by rw [List.getElem?_map, hget]; rfl) rfl, Br.mk (fun hb => ?_) (fun hb => ?_)⟩⟩
    ·replace hb := dj hb
     refine ⟨k - 1, by omega, rfl, rfl, rfl, rfl, k - 1, rfl, rfl, by omega, fun z hz => ?_⟩
     rw [hcons] at hz
     rcases List.mem_cons.1 hz with rfl | hz
     ·exact hb
     ·exact hbeh z hz
    ·replace hb := dH hb
     have hahd : ∀ x, k ≠ 0 → q.l[k - 1]? = some x → x.1 ≤ t := fun x _ hx => by rw [hget] at hx; cases hx; omega
     (
      have htw := sG hsort hkl hbeh hahd
      have hcapr := pE h3 (by decide)
      have hsrn : (s).n = (q.l).length := by rw [((h3).rd (by decide)).n, List.length_map]
      simp only [Int.toNat_natCast, Nat.sub_zero]
      obtain ⟨a1, a2, a3⟩ := lH h3 (k := k) hkl hlr (s).c
      refine ⟨by omega, by omega, _, a1, a2, fun s7 w8 hres => ?_⟩
      obtain ⟨b1, b2, b3⟩ := a3 s7 w8 hres
      (repeat (refine And.intro ((b2).block _ (by omega)) ?_))
      intro w27 e27
      have x27 : Ext w8 w27 := (Ext.ao _).aa e27
      have z27 := cL e27
      have z8 := b2.size
      have hown27 := ((h3).ext b2).ext x27
      have hlt : (((q.l).take k).map a9).length = k := by rw [List.length_map, List.length_take]; omega
      obtain ⟨c1, c2⟩ := (b1.ext x27).np (bytes := 32) (more := [a9 (t, c)]) (by omega) (by intro r hr; simp at hr; subst hr; rfl) (by intro r hr; simp at hr; subst hr; exact gO (t, c)) (by simp only [b3, List.length_singleton]; omega) (by simp only [b3, List.length_singleton]; omega)
      refine ⟨c1, fun s28 w29 hres2 => ?_⟩
      obtain ⟨d1, d2, d3, d4, d5⟩ := c2 s28 w29 hres2
      have hmid : ag (w3).heap.size tX 4 w29 s28 (((q.l).take k ++ [(t, c)]).map a9) := by rw [List.map_append]; exact d1
      have hs7 : s7.ay ≠ some w8.heap.size := fun e => by have := (b1.own.lt e).2; omega
      have hk26 : w29.heap[w8.heap.size]? = w27.heap[w8.heap.size]? := d4 _ hs7 (by omega)
      (repeat (refine And.intro ((d3).block _ (by omega)) ?_))
      refine And.intro hk26 ?_
      have z29 := d3.size
      have hown29 : ag 0 tX 4 w29 s ((q.l).map a9) := hown27.aW fun g hg => d3.block g (((h3).own.lt hg).2)
      obtain ⟨f1, f2, f3⟩ := oQ (k := k) hown29 hmid (by omega) hlr (by simp; omega)
      refine ⟨by omega, by omega, _, f1, f2, fun s31 w32 hres3 => ?_⟩
      obtain ⟨g1, g2, g3⟩ := f3 s31 w32 hres3
      (repeat (refine And.intro ((g2).block _ (by omega)) ?_))
      refine And.intro (g3 _ (fun e => ?_) (by omega)) ?_
      ·rcases d5 with d5 | d5
       ·exact hs7 (d5 ▸ e)
       ·rw [d5] at e; have : w27.heap.size = w8.heap.size := by simpa using e
        omega
      intro w33 e33 w34 e34
      have x32 : Ext w w32 := (x03).tr (((b2.tr x27).trans d3).trans g2)
      refine ⟨⟨s31, rfl, ?_⟩, (x32.af e33 (Nat.le_refl _)).af e34 (by omega)⟩
      have hins := sy q.l (t, c)
      rw [show ((q.l).takeWhile fun y => decide (y.1 ≤ (t, c).1)).length = k from htw] at hins
      rw [← hins]
      have := (ag.boxed (ag.boxed g1 (by omega) e33) (by omega) e34).low (Nat.zero_le _)
      simpa using this)
   ·replace hc := dH hc
    have hahd : ∀ x, k ≠ 0 → q.l[k - 1]? = some x → x.1 ≤ t := fun x h _ => by omega
    (
     have htw := sG hsort hkl hbeh hahd
     have hcapr := pE h3 (by decide)
     have hsrn : (s).n = (q.l).length := by rw [((h3).rd (by decide)).n, List.length_map]
     simp only [Int.toNat_natCast, Nat.sub_zero]
     obtain ⟨a1, a2, a3⟩ := lH h3 (k := k) hkl hlr (s).c
     refine ⟨by omega, by omega, _, a1, a2, fun s7 w8 hres => ?_⟩
     obtain ⟨b1, b2, b3⟩ := a3 s7 w8 hres
     (repeat (refine And.intro ((b2).block _ (by omega)) ?_))
     intro w27 e27
     have x27 : Ext w8 w27 := (Ext.ao _).aa e27
     have z27 := cL e27
     have z8 := b2.size
     have hown27 := ((h3).ext b2).ext x27
     have hlt : (((q.l).take k).map a9).length = k := by rw [List.length_map, List.length_take]; omega
     obtain ⟨c1, c2⟩ := (b1.ext x27).np (bytes := 32) (more := [a9 (t, c)]) (by omega) (by intro r hr; simp at hr; subst hr; rfl) (by intro r hr; simp at hr; subst hr; exact gO (t, c)) (by simp only [b3, List.length_singleton]; omega) (by simp only [b3, List.length_singleton]; omega)
     refine ⟨c1, fun s28 w29 hres2 => ?_⟩
     obtain ⟨d1, d2, d3, d4, d5⟩ := c2 s28 w29 hres2
     have hmid : ag (w3).heap.size tX 4 w29 s28 (((q.l).take k ++ [(t, c)]).map a9) := by rw [List.map_append]; exact d1
     have hs7 : s7.ay ≠ some w8.heap.size := fun e => by have := (b1.own.lt e).2; omega
     have hk26 : w29.heap[w8.heap.size]? = w27.heap[w8.heap.size]? := d4 _ hs7 (by omega)
     (repeat (refine And.intro ((d3).block _ (by omega)) ?_))
     refine And.intro hk26 ?_
     have z29 := d3.size
     have hown29 : ag 0 tX 4 w29 s ((q.l).map a9) := hown27.aW fun g hg => d3.block g (((h3).own.lt hg).2)
     obtain ⟨f1, f2, f3⟩ := oQ (k := k) hown29 hmid (by omega) hlr (by simp; omega)
     refine ⟨by omega, by omega, _, f1, f2, fun s31 w32 hres3 => ?_⟩
     obtain ⟨g1, g2, g3⟩ := f3 s31 w32 hres3
     (repeat (refine And.intro ((g2).block _ (by omega)) ?_))
     refine And.intro (g3 _ (fun e => ?_) (by omega)) ?_
     ·rcases d5 with d5 | d5
      ·exact hs7 (d5 ▸ e)
      ·rw [d5] at e; have : w27.heap.size = w8.heap.size := by simpa using e
       omega
     intro w33 e33 w34 e34
     have x32 : Ext w w32 := (x03).tr (((b2.tr x27).trans d3).trans g2)
     refine ⟨⟨s31, rfl, ?_⟩, (x32.af e33 (Nat.le_refl _)).af e34 (by omega)⟩
     have hins := sy q.l (t, c)
     rw [show ((q.l).takeWhile fun y => decide (y.1 ≤ (t, c).1)).length = k from htw] at hins
     rw [← hins]
     have := (ag.boxed (ag.boxed g1 (by omega) e33) (by omega) e34).low (Nat.zero_le _)
     simpa using this)
 ·rw [hf]
  obtain ⟨hlt, -⟩ := List.getElem?_eq_some_iff.1 hx
  refine Br.mk (fun _ => ?_) (fun h => by simp at h)
  have hs := hrd3.isSome (by decide) (i := i) (by simp; omega)
  refine ⟨⟨hs, by omega, by omega⟩, aG.2 ⟨ef.2 (by rw [cF]; exact hs), x.1, hrd3.at (i := i) (r := a9 x) (by rw [List.getElem?_map, hx]; rfl) rfl, Br.mk (fun hb => ?_) (fun hb => ?_)⟩⟩
  ·replace hb := dj hb
   intro w6 e6
   have e : bM q c t = (q, false) := by unfold bM; rw [hqt]; simp only; rw [if_pos hb]
   rw [e]
   have x6 := x03.af e6 (by omega)
   exact ⟨⟨s, rfl, ho.ext x6⟩, x6⟩
  ·replace hb := dH hb
   have e : bM q c t = ({ q with l := lI (aP q.l c) (t, c) }, true) := by unfold bM; rw [hqt]; simp only; rw [if_neg hb]
   rw [e]
   refine (C0 h3 hq.nodup (by omega) q.room q.lost c).mono ?_
   rintro e w7 ⟨⟨s10, rfl, ho7⟩, x7⟩
   have z7 := x7.size
   refine ⟨q.room, q.lost, s10, _, rfl, ?_⟩
   (repeat (refine And.intro ((x7).block _ (by omega)) ?_))
   intro w12 e12 w13 e13 w14 e14
   have hqd := hq.drop c
   have hl10 := hqd.len
   have x12 : Ext w7 w12 := (Ext.ao _).aa e12
   have x13 : Ext w7 w13 := x12.af e13 (Nat.le_refl _)
   have z12 := cL e12
   have z13 : w13.heap.size = w7.heap.size + 1 := by rw [e13, setRow_size, z12]
   have z14 : w14.heap.size = w7.heap.size + 1 := by rw [e14, setRow_size, z13]
   have x14 : Ext w w14 := (x03.tr (x7.tr x13)).af e14 (Nat.le_refl _)
   have ho14 : ag 0 tX 4 w14 s10 ((aP q.l c).map a9) := by
    have hbox : Row w7 w.heap.size _ 36 := ((((by rw [e0]; exact Row.new w [_, _, _] _ : Row w0 w.heap.size [q.room, q.lost, s] 36).ext ((Ext.ao _).aa e1)).ext ((Ext.ao _).aa e2)).ext x3).ext x7
    have h13 := ho7.ext x13
    refine h13.aW fun b hb => ?_
    rw [e14]
    refine setRow_other _ _ _ _ fun e => ?_
    obtain ⟨cs, hr⟩ := av ho7 (by decide) hb
    exact hr.ne hbox (by decide) e
   have hrd14 := ho14.rd (by decide)
   have hn10 : s10.n = (aP q.l c).length := by rw [hrd14.n, List.length_map]
   simp only at hl10
   have hlr : (aP q.l c).length ≤ 5000 := by omega
   have hsort := hqd.sorted
   simp only at hsort
   refine Br.mk (fun h => by simp at h; omega) (fun _ => ?_)
   refine ⟨fun n x wr => w14 = wr ∧ ∃ k : Nat, x = k ∧ k = n ∧ k ≤ (aP q.l c).length ∧ ∀ y ∈ (aP q.l c).drop k, t < y.1, ⟨(aP q.l c).length, rfl, rfl, rfl, rfl, rfl, (aP q.l c).length, by rw [hn10], rfl, Nat.le_refl _, by simp⟩, ?_⟩
   rintro n us x wr ⟨rfl, k, rfl, rfl, hkl, hbeh⟩
   refine Br.mk (fun hc => ?_) (fun hc => ?_)
   ·replace hc := dj hc
    have hw : IntKind.wrap .i64 ((k : Int) - 1) = ((k - 1 : Nat) : Int) := by rw [wI]; omega
    rw [hw]
    have hget : (aP q.l c)[k - 1]? = some ((aP q.l c)[k - 1]'(by omega)) := List.getElem?_eq_getElem (by omega)
    have hcons : (aP q.l c).drop (k - 1) = (aP q.l c)[k - 1]'(by omega) :: (aP q.l c).drop k := by
     rw [List.drop_eq_getElem_cons (by omega)]; congr 2; omega
    generalize (aP q.l c)[k - 1]'(by omega) = y at hget hcons
    have hs := hrd14.isSome (by decide) (i := k - 1) (by simp; omega)
    refine ⟨⟨hs, by omega, by omega⟩, aG.2 ⟨ef.2 (by rw [cF]; exact hs), y.1, hrd14.at (i := k - 1) (r := a9 y) (by rw [List.getElem?_map, hget]; rfl) rfl, Br.mk (fun hb => ?_) (fun hb => ?_)⟩⟩
    ·replace hb := dj hb
     refine ⟨k - 1, by omega, rfl, rfl, rfl, rfl, rfl, k - 1, rfl, rfl, by omega, fun z hz => ?_⟩
     rw [hcons] at hz
     rcases List.mem_cons.1 hz with rfl | hz
     ·exact hb
     ·exact hbeh z hz
    ·replace hb := dH hb
     have hahd : ∀ x, k ≠ 0 → (aP q.l c)[k - 1]? = some x → x.1 ≤ t := fun x _ hx => by rw [hget] at hx; cases hx; omega
     (
      have htw := sG hsort hkl hbeh hahd
      have hcapr := pE ho14 (by decide)
      have hsrn : (s10).n = ((aP q.l c)).length := by rw [((ho14).rd (by decide)).n, List.length_map]
      simp only [Int.toNat_natCast, Nat.sub_zero]
      obtain ⟨a1, a2, a3⟩ := lH ho14 (k := k) hkl hlr (s10).c
      refine ⟨by omega, by omega, _, a1, a2, fun s7 w8 hres => ?_⟩
      obtain ⟨b1, b2, b3⟩ := a3 s7 w8 hres
      (repeat (refine And.intro ((b2).block _ (by omega)) ?_))
      intro w27 e27
      have x27 : Ext w8 w27 := (Ext.ao _).aa e27
      have z27 := cL e27
      have z8 := b2.size
      have hown27 := ((ho14).ext b2).ext x27
      have hlt : ((((aP q.l c)).take k).map a9).length = k := by rw [List.length_map, List.length_take]; omega
      obtain ⟨c1, c2⟩ := (b1.ext x27).np (bytes := 32) (more := [a9 (t, c)]) (by omega) (by intro r hr; simp at hr; subst hr; rfl) (by intro r hr; simp at hr; subst hr; exact gO (t, c)) (by simp only [b3, List.length_singleton]; omega) (by simp only [b3, List.length_singleton]; omega)
      refine ⟨c1, fun s28 w29 hres2 => ?_⟩
      obtain ⟨d1, d2, d3, d4, d5⟩ := c2 s28 w29 hres2
      have hmid : ag (w14).heap.size tX 4 w29 s28 ((((aP q.l c)).take k ++ [(t, c)]).map a9) := by rw [List.map_append]; exact d1
      have hs7 : s7.ay ≠ some w8.heap.size := fun e => by have := (b1.own.lt e).2; omega
      have hk26 : w29.heap[w8.heap.size]? = w27.heap[w8.heap.size]? := d4 _ hs7 (by omega)
      (repeat (refine And.intro ((d3).block _ (by omega)) ?_))
      refine And.intro hk26 ?_
      have z29 := d3.size
      have hown29 : ag 0 tX 4 w29 s10 (((aP q.l c)).map a9) := hown27.aW fun g hg => d3.block g (((ho14).own.lt hg).2)
      obtain ⟨f1, f2, f3⟩ := oQ (k := k) hown29 hmid (by omega) hlr (by simp; omega)
      refine ⟨by omega, by omega, _, f1, f2, fun s31 w32 hres3 => ?_⟩
      obtain ⟨g1, g2, g3⟩ := f3 s31 w32 hres3
      (repeat (refine And.intro ((g2).block _ (by omega)) ?_))
      refine And.intro (g3 _ (fun e => ?_) (by omega)) ?_
      ·rcases d5 with d5 | d5
       ·exact hs7 (d5 ▸ e)
       ·rw [d5] at e; have : w27.heap.size = w8.heap.size := by simpa using e
        omega
      intro w33 e33 w34 e34
      have x32 : Ext w w32 := (x14).tr (((b2.tr x27).trans d3).trans g2)
      refine ⟨⟨s31, rfl, ?_⟩, (x32.af e33 (Nat.le_refl _)).af e34 (by omega)⟩
      have hins := sy (aP q.l c) (t, c)
      rw [show (((aP q.l c)).takeWhile fun y => decide (y.1 ≤ (t, c).1)).length = k from htw] at hins
      rw [← hins]
      have := (ag.boxed (ag.boxed g1 (by omega) e33) (by omega) e34).low (Nat.zero_le _)
      simpa using this)
   ·replace hc := dH hc
    have hahd : ∀ x, k ≠ 0 → (aP q.l c)[k - 1]? = some x → x.1 ≤ t := fun x h _ => by omega
    (
     have htw := sG hsort hkl hbeh hahd
     have hcapr := pE ho14 (by decide)
     have hsrn : (s10).n = ((aP q.l c)).length := by rw [((ho14).rd (by decide)).n, List.length_map]
     simp only [Int.toNat_natCast, Nat.sub_zero]
     obtain ⟨a1, a2, a3⟩ := lH ho14 (k := k) hkl hlr (s10).c
     refine ⟨by omega, by omega, _, a1, a2, fun s7 w8 hres => ?_⟩
     obtain ⟨b1, b2, b3⟩ := a3 s7 w8 hres
     (repeat (refine And.intro ((b2).block _ (by omega)) ?_))
     intro w27 e27
     have x27 : Ext w8 w27 := (Ext.ao _).aa e27
     have z27 := cL e27
     have z8 := b2.size
     have hown27 := ((ho14).ext b2).ext x27
     have hlt : ((((aP q.l c)).take k).map a9).length = k := by rw [List.length_map, List.length_take]; omega
     obtain ⟨c1, c2⟩ := (b1.ext x27).np (bytes := 32) (more := [a9 (t, c)]) (by omega) (by intro r hr; simp at hr; subst hr; rfl) (by intro r hr; simp at hr; subst hr; exact gO (t, c)) (by simp only [b3, List.length_singleton]; omega) (by simp only [b3, List.length_singleton]; omega)
     refine ⟨c1, fun s28 w29 hres2 => ?_⟩
     obtain ⟨d1, d2, d3, d4, d5⟩ := c2 s28 w29 hres2
     have hmid : ag (w14).heap.size tX 4 w29 s28 ((((aP q.l c)).take k ++ [(t, c)]).map a9) := by rw [List.map_append]; exact d1
     have hs7 : s7.ay ≠ some w8.heap.size := fun e => by have := (b1.own.lt e).2; omega
     have hk26 : w29.heap[w8.heap.size]? = w27.heap[w8.heap.size]? := d4 _ hs7 (by omega)
     (repeat (refine And.intro ((d3).block _ (by omega)) ?_))
     refine And.intro hk26 ?_
     have z29 := d3.size
     have hown29 : ag 0 tX 4 w29 s10 (((aP q.l c)).map a9) := hown27.aW fun g hg => d3.block g (((ho14).own.lt hg).2)
     obtain ⟨f1, f2, f3⟩ := oQ (k := k) hown29 hmid (by omega) hlr (by simp; omega)
     refine ⟨by omega, by omega, _, f1, f2, fun s31 w32 hres3 => ?_⟩
     obtain ⟨g1, g2, g3⟩ := f3 s31 w32 hres3
     (repeat (refine And.intro ((g2).block _ (by omega)) ?_))
     refine And.intro (g3 _ (fun e => ?_) (by omega)) ?_
     ·rcases d5 with d5 | d5
      ·exact hs7 (d5 ▸ e)
      ·rw [d5] at e; have : w27.heap.size = w8.heap.size := by simpa using e
       omega
     intro w33 e33 w34 e34
     have x32 : Ext w w32 := (x14).tr (((b2.tr x27).trans d3).trans g2)
     refine ⟨⟨s31, rfl, ?_⟩, (x32.af e33 (Nat.le_refl _)).af e34 (by omega)⟩
     have hins := sy (aP q.l c) (t, c)
     rw [show (((aP q.l c)).takeWhile fun y => decide (y.1 ≤ (t, c).1)).length = k from htw] at hins
     rw [← hins]
     have := (ag.boxed (ag.boxed g1 (by omega) e33) (by omega) e34).low (Nat.zero_le _)
     simpa using this)
end Go.Proofs.YtalpkjfpmdpbiaaGreatDoor.Q
