import Derived.Test.YtalpkjfpmdpbiaaGreatDoorYQ
import Derived.Test.YtalpkjfpmdpbiaaGreatDoorGX
set_option linter.all false
namespace Go.Proofs.YtalpkjfpmdpbiaaGreatDoor
open Go Go.Vc Go.RowKit Go.Proofs Go.bY Go.aD Go.Code Go.j3 Go.ij
set_option maxRecDepth 100000
theorem Jh:sX Q.tX/\Q.tX≠nz/\Q.tX≠cV/\Q.tX≠rG/\Q.tX≠Q.du/\Q.tX≠Q.aS/\Q.tX≠jY/\Q.tX≠cx:=by decide
theorem Oc.up {occ : Value} {O : Ce → Bool} {F : Nat → Prop} {w : World} (h : Oc occ O F w) : Oc occ O (fun i => F i ∨ w.heap.size ≤ i) w := by
 obtain ⟨D, h1, h2⟩ := h
 exact ⟨D, fun i hi => ⟨(h1 i hi).1, fun q => q.elim (h1 i hi).2 fun q => by have := (h1 i hi).1; omega⟩, h2⟩
theorem RS.same {P P' : Nat → Prop} {w w' : World} {T : Tb} {ch : List Go.ij.Cg} {q : QS} {s1 s2 s3 s4 sq : Sl} (h : RS P w T ch q s1 s2 s3 s4 sq) (hk : ∀ i, P i → i < w.heap.size → w'.heap[i]? = w.heap[i]? ∧ P' i) (hq : ∀ g cs, Row w g cs Q.tX → w'.heap[g]? = w.heap[g]?) : RS P' w' T ch q s1 s2 s3 s4 sq :=
 ⟨h.t.same hk, h.g.same hk, ag.aW h.qo fun g hg => by
  obtain ⟨cs', hr'⟩ := av h.qo (by decide) hg
  exact hq g cs' hr', h.ok⟩
structure Ed (w wr : World) (g1 g2 sa oa ta sb ob tb : Nat) (A B M : Sm) (ca cb : Value) (s1 s2 s3 s4 sq : Sl) (Fa Fb : Nat → Prop) : Prop where
 a : SF Fa wr sa oa ta A ca
 b : SF Fb wr sb ob tb B cb
 d : ∀ i, Fa i → ¬ Fb i
 fa : ∀ i, Fa i → w.heap.size ≤ i
 fb : ∀ i, Fb i → w.heap.size ≤ i
 oa : Oc ca O0 (fun i => Fa i ∨ Fb i ∨ i = g1) wr
 ob : Oc cb O0 (fun i => Fa i ∨ Fb i ∨ i = g1) wr
 x : Ext w wr
 g : w.heap.size ≤ g1
 r1 : ∃ cs, Row wr g1 cs cx
 r2 : ∃ cs, Row wr g2 cs cx
 n : g1 ≠ g2
 r : RS (fun i => ¬ Fa i ∧ ¬ Fb i ∧ i ≠ g1) wr M.T M.ch M.q s1 s2 s3 s4 sq
section
variable{w w1 w2 w3:World}{g1 g2 sa oa ta sb ob tb:Nat}{A B M M' A' B':Sm}{ca cb:Value}{s1 s2 s3 s4 sq t1 t2 t3 t4 tq:Sl}{cs:List Go.ij.Cg}{Fa Fb Fa':Nat->Prop}
theorem Ed.doc (h : Ed w w1 g1 g2 sa oa ta sb ob tb A B M ca cb s1 s2 s3 s4 sq Fa Fb) (x : Ext w1 w2) (hr : RS (fun i => ¬ Fa i ∧ ¬ Fb i ∧ i ≠ g1) w2 M'.T M'.ch M'.q t1 t2 t3 t4 tq) {c : Array Value} (e : w3 = w2.setRow g1 c) :
  Ed w w3 g1 g2 sa oa ta sb ob tb A B M' ca cb t1 t2 t3 t4 tq Fa Fb := by
 obtain ⟨cs1, r1⟩ := h.r1
 obtain ⟨cs2, r2⟩ := h.r2
 have ne : ∀ {F : Nat → Prop} {s o t : Nat} {N : Sm} {occ : Value}, SF F w1 s o t N occ → ¬ F g1 := fun hS => hS.j4 r1 nA.1 nA.2.1 nA.2.2.1 nA.2.2.2.1 nA.2.2.2.2.1 nA.2.2.2.2.2.1 nA.2.2.2.2.2.2
 have hk : ∀ i, i ≠ g1 → w3.heap[i]? = w2.heap[i]? := fun i hi => by rw [e, setRow_other _ _ _ _ hi]
 have hm : Mod (fun i => i = g1) w2 w3 := by
  refine ⟨by rw [e]; rfl, by rw [e]; rfl, by rw [e]; rfl, by rw [e]; simp, fun i _ hi => hk i hi⟩
 have ht : ar (fun i => Fa i ∨ Fb i ∨ i = g1) (fun i => Fa i ∨ Fb i ∨ i = g1) w1 w3 := (ar.aw x).trans ⟨hm.mono fun i _ hi => .inr (.inr hi), fun i hi => .inl hi⟩
 refine ⟨(h.a.ext x).same fun i hi => hk i fun q => ne h.a (q ▸ hi), (h.b.ext x).same fun i hi => hk i fun q => ne h.b (q ▸ hi), h.d, h.fa, h.fb, h.oa.cm ht, h.ob.cm ht, (h.x.tr x).af e h.g, h.g, ?_, ⟨cs2, (r2.ext x).same (hk _ h.n.symm)⟩, h.n, hr.same (fun i hi _ => ⟨hk i hi.2.2, hi⟩) fun g cs hg => hk g (hg.ne (r1.ext x) Jh.2.2.2.2.2.2.2)⟩
 exact ⟨c.toList, by rw [e]; simpa using Row.set (r1.ext x) c.toList⟩
theorem Ed.ext (h : Ed w w1 g1 g2 sa oa ta sb ob tb A B M ca cb s1 s2 s3 s4 sq Fa Fb) (x : Ext w1 w2) : Ed w w2 g1 g2 sa oa ta sb ob tb A B M ca cb s1 s2 s3 s4 sq Fa Fb := by
 obtain ⟨cs1, r1⟩ := h.r1
 obtain ⟨cs2, r2⟩ := h.r2
 exact ⟨h.a.ext x, h.b.ext x, h.d, h.fa, h.fb, h.oa.ext x, h.ob.ext x, h.x.tr x, h.g, ⟨cs1, r1.ext x⟩, ⟨cs2, r2.ext x⟩, h.n, h.r.same (fun i hi hl => ⟨x.heap hl, hi⟩) fun g cs hg => x.heap hg.lt⟩
theorem Ed.LH (h : Ed w w1 g1 g2 sa oa ta sb ob tb A B M ca cb s1 s2 s3 s4 sq Fa Fb) (hS : SF Fa' w2 sa oa ta A' ca) (ht : ar Fa Fa' w1 w2) :
  Ed w w2 g1 g2 sa oa ta sb ob tb A' B M ca cb s1 s2 s3 s4 sq Fa' Fb ∧ Ks w1 w2 := by
 obtain ⟨cs1, r1⟩ := h.r1
 obtain ⟨cs2, r2⟩ := h.r2
 have hks : Ks w1 w2 := fun j cs hr => ht.mod.same j hr.lt (h.a.j4 hr nA.1 nA.2.1 nA.2.2.1 nA.2.2.2.1 nA.2.2.2.2.1 nA.2.2.2.2.2.1 nA.2.2.2.2.2.2)
 obtain ⟨x', f'⟩ := ht.fresh h.x h.fa
 have hT : ar (fun i => Fa i ∨ Fb i ∨ i = g1) (fun i => Fa' i ∨ Fb i ∨ i = g1) w1 w2 := ⟨ht.mod.mono fun i _ hi => .inl hi, fun i hi => hi.elim (fun q => (ht.sub i q).imp .inl id) fun q => .inl (.inr q)⟩
 refine ⟨⟨hS, h.b.same fun i hi => ht.mod.same i (h.b.lt hi) fun q => h.d i q hi, ht.apart h.d fun i hi => h.b.lt hi, f', h.fb, h.oa.cm hT, h.ob.cm hT, x', h.g, ⟨cs1, r1.same (hks _ _ r1)⟩, ⟨cs2, r2.same (hks _ _ r2)⟩, h.n, h.r.same (fun i hi hl => ⟨ht.mod.same i hl hi.1, fun q => ?_, hi.2⟩) fun g cs hg => ht.mod.same g hg.lt (h.a.j4 hg Jh.1 Jh.2.1 Jh.2.2.1 Jh.2.2.2.1 Jh.2.2.2.2.1 Jh.2.2.2.2.2.1 Jh.2.2.2.2.2.2.1)⟩, hks⟩
 rcases ht.sub i q with q | q
 ·exact hi.1 q
 ·omega
theorem Ed.pr (h : Ed w w1 g1 g2 sa oa ta sb ob tb A B M ca cb s1 s2 s3 s4 sq Fa Fb) : Pr w w1 sa oa ta sb ob tb A B ca cb ⟨none, 0, 0⟩ [] :=
 ⟨⟨Fa, Fb, h.a, h.b, h.d, h.fa, h.fb, h.oa.mono fun i hi => hi.elim .inl fun q => .inr (.inl q), h.ob.mono fun i hi => hi.elim .inl fun q => .inr (.inl q), fun b hb => by cases hb⟩, h.x, ag.nil⟩
end
theorem KJ {F : Nat → Prop} {w : World} {s o t : Nat} {ae ax : Int} {occ : Value} (h : SF F w s o t (M5 ae ax) occ) : Ex (fW 0, l5 ae 5) := by
 obtain ⟨Fw, hW, -, -⟩ := h.world
 exact hW.K6 (m := 0) (n := 0) ⟨Nat.zero_le _, (fun e he => by
  obtain ⟨x, hx, rfl⟩ := List.mem_map.1 he
  exact ⟨Int.le_refl _, Int.le_refl _⟩), zQ ae⟩ (by omega)
theorem Lb (b : Int) : 1 ≤ min (max b 1) 64 ∧ min (max b 1) 64 ≤ 64 := by omega
theorem nB : ∀ (l : List Go.ij.Cg) (M : Sm), (l.foldl aR M).ax = M.ax
 | [], M => rfl
 | x :: l, M => (nB l (aR M x)).trans (by unfold aR; split <;> rfl)
theorem Ib (O : Ce → Bool) (M : Sm) (c : Ce) : (gd O M c).ax = M.ax := by
 unfold gd
 split
 ·rfl
 ·split
  ·exact nB [_] { M with dn := M.dn ++ [a8 c] }
  ·exact nB _ M
theorem A1 (O : Ce → Bool) : ∀ (l : List Ce) (M : Sm), (l.foldl (gd O) M).ax = M.ax
 | [], M => rfl
 | x :: l, M => (A1 O l (gd O M x)).trans (Ib O M x)
structure St(bud:Int)(M:Sm)(n:Nat):Prop where
 v:∃V,Lv M V
 k:nC M n
 b:M.ax=bud
theorem St.tick {bud : Int} {M : Sm} {n : Nat} (h : St bud M n) (hb : 1 ≤ bud ∧ bud ≤ 64) (O : Ce → Bool) : St bud (j5 O M) (n + 2560) := by
 obtain ⟨V, hV⟩ := h.v
 have hd : (jZ M).length ≤ 64 := DG (by rw [h.b]; exact hb)
 have hn := h.k.now
 have hs : nC (jw M) n := ⟨h.k.l, h.k.c, by show 0 ≤ nE M ∧ nE M ≤ _; unfold nE; omega, h.k.d⟩
 exact ⟨hV.tick O, (hs.vk O (jZ M)).mono (by omega), (A1 O _ (jw M)).trans h.b⟩
theorem Row.kept {w w' : World} {g : Nat} (hk : Ks w w') (h : ∃ cs, Row w g cs cx) : ∃ cs, Row w' g cs cx := by
 obtain ⟨cs, hr⟩ := h
 exact ⟨cs, hr.same (hk _ _ hr)⟩
theorem Ks.at{w w':World}{g:Nat}(hk:Ks w w')(h:∃cs,Row w g cs cx):w'.heap[g]? =w.heap[g]? :=by
 obtain⟨cs,hr⟩:=h
 exact hk _ _ hr
end Go.Proofs.YtalpkjfpmdpbiaaGreatDoor
namespace Go.Proofs.YtalpkjfpmdpbiaaGreatDoor
open Go Go.Vc Go.RowKit Go.Proofs Go.bY Go.aD Go.Code Go.j3 Go.ij
set_option maxRecDepth 100000
theorem LI{r:List Int}(h:r.length=6):∃a b c d e f,r=[a,b,c,d,e,f]:=by
 match r,h with
 | [a,b,c,d,e,f],_=>exact⟨a,b,c,d,e,f,rfl⟩
set_option maxHeartbeats 2000000 in
theorem vr (ae ax : Int) (sl : Sl) (z : List (List Int)) (ticks more : Int) (w : World) (ht : inI ticks) (hmo : inI more) (hs : RdK w sl 6 (z.map fun r => r.map fun n => .int .i64 n)) (hz : ∀ r ∈ z, r.length = 6 ∧ ∀ n ∈ r, inI n) :
  Calls Tryz.prog iT #[.int .i64 ae, .int .i64 ax, .slice sl.a sl.n sl.c, .int .i64 ticks, .int .i64 more] w fun e w' => e = .returned (.bool true) ∧ Ext w w' := by
 apply (fJ.vc (a2 := sl))
 have hsn := hs.n
 rw [List.length_map] at hsn
 have hbud := Lb ax
 refine (qH ae ax ⟨none, 0, 0⟩ rfl w).mono ?_
 rintro e w0 ⟨sa, oa, ta, F0, ca, s1, s2, s3, rfl, hS0, hO0, hR0, x0, fF⟩
 have z0 := x0.size
 refine ⟨_, _, _, _, _, _, s1, s2, s3, ⟨none, 0, 0⟩, _, _, ⟨none, 0, 0⟩, _, _, ⟨none, 0, 0⟩, ⟨none, 0, 0⟩, rfl, fun w18 e18 w19 e19 => ?_⟩
 have x19 : Ext w0 w19 := ((Ext.ao _).aa e18).af e19 (Nat.le_refl _)
 have z19 := rB e18 e19
 have r19 : ∃ cs, Row w19 w0.heap.size cs cx := ⟨_, by rw [e19]; exact Row.set (by rw [e18]; exact Row.new w0 [_, _, _, _, _, _, _, _, _, _, _, _, _, _, _, _] _) [_, _, _, _, _, _, _, _, _, _, _, _, _, _, _, _]⟩
 clear e18 e19
 refine (qH ae ax ⟨none, 0, 0⟩ rfl w19).mono ?_
 rintro e w20 ⟨sb, ob, tb, Fb, cb, u1, u2, u3, rfl, hS1, hO1, -, x20, fFb⟩
 have z20 := x20.size
 refine ⟨_, _, _, _, _, _, u1, u2, u3, ⟨none, 0, 0⟩, _, _, ⟨none, 0, 0⟩, _, _, ⟨none, 0, 0⟩, ⟨none, 0, 0⟩, rfl, x20.k, fun w38 e38 w39 e39 => rT rfl (rT rfl ?_)⟩
 have x39 : Ext w20 w39 := ((Ext.ao _).aa e38).af e39 (Nat.le_refl _)
 have z39 := rB e38 e39
 have r39 : ∃ cs, Row w39 w20.heap.size cs cx := ⟨_, by rw [e39]; exact Row.set (by rw [e38]; exact Row.new w20 [_, _, _, _, _, _, _, _, _, _, _, _, _, _, _, _] _) [_, _, _, _, _, _, _, _, _, _, _, _, _, _, _, _]⟩
 clear e38 e39
 have hokt := KJ hS0
 have hE0 : Ed w w39 w0.heap.size w20.heap.size sa oa ta sb ob tb (M5 ae ax) (M5 ae ax) (M5 ae ax) ca cb s1 s2 s3 ⟨none, 0, 0⟩ ⟨none, 0, 0⟩ F0 Fb := by
  have x029 := x19.tr (x20.tr x39)
  obtain ⟨cs1, r19⟩ := r19
  refine ⟨hS0.ext x029, hS1.ext x39, fun i ha hb => ?_, fF, fun i hi => ?_, (hO0.up.ext x029).mono fun i hi => ?_, (hO1.up.ext x39).mono fun i hi => ?_, x0.tr x029, z0, ⟨cs1, r19.ext (x20.tr x39)⟩, r39, by omega, ⟨hR0.same fun i hp hi => ⟨x029.heap hi, hp, fun q => ?_, by omega⟩, RG.nil, ag.nil, Gx⟩⟩
  ·have := hS0.lt ha; have := fFb i hb; omega
  ·have := fFb i hi; omega
  ·rcases hi with hi | hi | hi
   ·exact .inl (.inl hi)
   ·have := fFb i hi; exact .inr (by omega)
   ·exact .inr (by omega)
  ·rcases hi with hi | hi | hi
   ·have := hS0.lt hi; exact .inl (.inr (by omega))
   ·exact .inl (.inl hi)
   ·exact .inl (.inr (by omega))
  ·have := fFb i q; omega
 clear hS0 hS1 hO0 hO1 hR0 r19 r39 fF fFb
 have hL0 : Lv (M5 ae ax) (V0 ae) := ⟨DX ae, rfl, fun x hx => by cases hx⟩
 have hP0 : Rp (V0 ae) (M5 ae ax) := ⟨DX ae, fun x hx => by cases hx⟩
 refine ⟨fun _ _ _ _ _ _ _ _ _ _ _ _ _ _ _ _ wj => ∃ A, Pr w wj sa oa ta sb ob tb A (M5 ae ax) ca cb ⟨none, 0, 0⟩ [] ∧ St (min (max ax 1) 64) A 60 ∧ Rp (V0 ae) A ∧ (∃ cs, Row wj w0.heap.size cs cx) ∧ (∃ cs, Row wj w20.heap.size cs cx), ⟨fun n x a1 a2 a3 a4 a5 b1 b2 b3 b4 c1 c2 c3 c4 c5 c6 c7 wr => ∃ (k : Nat) (A : Sm) (Fa : Nat → Prop) (t1 t2 t3 t4 tq : Sl), x = k ∧ k + n = z.length ∧ k ≤ 8 ∧ a1 = ae ∧ a2 = 5 ∧ a3 = A.T.1.room ∧ a4 = A.T.1.cS ∧ a5 = A.T.1.wait ∧ b1 = ⟨t1.a, t1.n, t1.c⟩ ∧ b2 = ⟨t2.a, t2.n, t2.c⟩ ∧ b3 = ⟨t3.a, t3.n, t3.c⟩ ∧ b4 = ⟨t4.a, t4.n, t4.c⟩ ∧ c1 = A.q.room ∧ c2 = A.q.lost ∧ c3 = ⟨tq.a, tq.n, tq.c⟩ ∧ c4 = min (max ax 1) 64 ∧ c5 = A.now ∧ c6 = ⟨none, 0, 0⟩ ∧ c7 = ⟨none, 0, 0⟩ ∧ Ed w wr w0.heap.size w20.heap.size sa oa ta sb ob tb A (M5 ae ax) A ca cb t1 t2 t3 t4 tq Fa Fb ∧ (∃ V, Lv A V) ∧ nC A (7 * k) ∧ A.ax = min (max ax 1) 64 ∧ Rp (V0 ae) A ∧ Ex A.T, ⟨z.length, rfl, 0, _, F0, s1, s2, s3, ⟨none, 0, 0⟩, ⟨none, 0, 0⟩, rfl, by omega, by omega, rfl, rfl, rfl, rfl, rfl, rfl, rfl, rfl, rfl, rfl, rfl, rfl, rfl, rfl, rfl, rfl, hE0, ⟨_, hL0⟩, JW ae ax, rfl, hP0, hokt⟩, ?_⟩, ?_⟩
 ·rintro n us x a1 a2 a3 a4 a5 b1 b2 b3 b4 c1 c2 c3 c4 c5 c6 c7 wr ⟨k, A, Fa, t1, t2, t3, t4, tq, rfl, hk, hk8, rfl, rfl, rfl, rfl, rfl, rfl, rfl, rfl, rfl, rfl, rfl, rfl, rfl, rfl, rfl, rfl, hE, ⟨V, hL⟩, hK, hB, hP, ho⟩
  have hex : ∃ A, Pr w wr sa oa ta sb ob tb A (M5 a1 ax) ca cb ⟨none, 0, 0⟩ [] ∧ St (min (max ax 1) 64) A 60 ∧ Rp (V0 a1) A ∧ (∃ cs, Row wr w0.heap.size cs cx) ∧ (∃ cs, Row wr w20.heap.size cs cx) := ⟨A, hE.pr, ⟨⟨V, hL⟩, hK.mono (by omega), hB⟩, hP, hE.r1, hE.r2⟩
  refine Br.mk (fun hb => Br.mk (fun hb8 => ?_) (fun _ => ⟨rfl, hex⟩)) (fun _ => ⟨rfl, hex⟩)
  clear hex
  simp only [decide_eq_true_eq] at hb hb8
  obtain ⟨r, hr⟩ := aI (l := z) (i := k) (by omega)
  have hri := (hz r (List.mem_of_getElem? hr)).2
  obtain ⟨d1, d2, d3, d4, d5, d6, rfl⟩ := LI (hz r (List.mem_of_getElem? hr)).1
  have hd2 : inI d2 := hri d2 (by simp)
  clear hri
  have hr' : (z.map fun r => r.map fun n => Value.int .i64 n)[k]? = some [.int .i64 d1, .int .i64 d2, .int .i64 d3, .int .i64 d4, .int .i64 d5, .int .i64 d6] := by rw [List.getElem?_map, hr]; rfl
  obtain ⟨_, q1⟩ := id hE.r1
  have l1 := q1.lt
  obtain ⟨_, q2⟩ := id hE.r2
  have l2 := q2.lt
  clear q1 q2
  have hin := hs.ee (i := (k : Int)) (by decide) (by omega) hb
  have hso : (ab sl.a (((k : Nat) : Int).toNat * 6)).isSome = true := by
   obtain ⟨p, hp⟩ := Option.isSome_iff_exists.1 hin.1
   rw [hp]; rfl
  refine ⟨hin, Cu hso ⟨_, _, _, dp fun i u hu => ?_, (Bk (d4, d5, d6) wr).mono ?_⟩⟩
  ·rw [Nat.zero_add, cj]
   match i, hu with
   | 0, hu => exact (hs.ext hE.x).at hr' (j := 3) hu
   | 1, hu => exact (hs.ext hE.x).at hr' (j := 4) hu
   | 2, hu => exact (hs.ext hE.x).at hr' (j := 5) hu
  rintro e w66 ⟨rfl, x66⟩
  have z66 := x66.size
  have hm := DY (d4, d5, d6)
  generalize yr (d4, d5, d6) = m at *
  have hsm : og m := by unfold og; omega
  refine ⟨_, _, _, rfl, x66.heap l1, x66.heap l2, fun w70 e70 w71 e71 => ⟨hin, Cu hso ?_⟩⟩
  have x71 : Ext w66 w71 := ((Ext.ao _).aa e70).af e71 (Nat.le_refl _)
  have z71 := rB e70 e71
  clear e70 e71
  have y71 := x66.tr x71
  refine ⟨d2, (hs.ext (hE.x.tr y71)).at hr' (j := 1) rfl, (Bm d2 hd2 w71).mono ?_⟩
  rintro e w73 ⟨b, rfl, x73⟩
  have z73 := x73.size
  have y73 := y71.tr x73
  have hE73 := hE.ext y73
  refine ⟨b, rfl, x73.k, x73.k, x73.k, (Ai (ae := a1) (cap := 5) (bud := min (max ax 1) 64) (now := A.now) (so := ⟨none, 0, 0⟩) (sd := ⟨none, 0, 0⟩) hE73.r (fun i hi => ⟨fun q => by have := hE.a.lt q; omega, fun q => by have := hE.b.lt q; omega, by omega⟩) ho (by have := hK.c; omega) (by have := hK.l; omega) hK.now m hsm.wide b).mono ?_⟩
  rintro e w75 ⟨v1, v2, v3, v4, vq, rfl, hRS, x75⟩
  have z75 := x75.size
  refine ⟨_, _, _, _, _, v1, v2, v3, v4, _, _, vq, _, _, ⟨none, 0, 0⟩, ⟨none, 0, 0⟩, _, rfl, x75.k, x75.k, x75.k, fun w93 e93 w94 e94 w95 e95 => ?_⟩
  have x94 : Ext w75 w94 := ((Ext.ao _).aa e93).af e94 (Nat.le_refl _)
  have z94 := rB e93 e94
  have z95 := vj e95
  clear e93 e94
  have hE95 : Ed w w95 w0.heap.size w20.heap.size sa oa ta sb ob tb A (M5 a1 ax) (dS A m b) ca cb v1 v2 v3 v4 vq Fa Fb := hE73.doc (M' := dS A m b) (x75.tr x94) (hRS.same (fun i hi hl => ⟨x94.heap hl, hi⟩) fun g cs hg => x94.heap hg.lt) e95
  refine (mj hE95.a m hsm.wide b (hK.mono (by omega))).mono ?_
  rintro e w96 ⟨rfl, F2, hS2, t2⟩
  obtain ⟨hE96, ks⟩ := hE95.LH hS2 t2
  have nf : ∀ i, wr.heap.size ≤ i → i < w95.heap.size → w96.heap[i]? = w95.heap[i]? := fun i h1 h2 => t2.mod.same i h2 fun q => by have := hE.a.lt q; omega
  have wk : IntKind.wrap .i64 ((k : Int) + 1) = ((k + 1 : Nat) : Int) := by rw [wI]; omega
  obtain ⟨V', hL'⟩ := hL.edit m b
  exact ⟨_, rfl, ks.at hE95.r1, ks.at hE95.r2, nf _ (by omega) (by omega), nf _ (by omega) (by omega), n - 1, by omega, rfl, k + 1, dS A m b, F2, v1, v2, v3, v4, vq, wk, by omega, by omega, rfl, rfl, rfl, rfl, rfl, rfl, rfl, rfl, rfl, rfl, rfl, rfl, rfl, rfl, rfl, rfl, hE96, ⟨V', hL'⟩, (hK.edit m b).mono (by omega), hB, hP.edit m b, DW ho m b⟩
 rintro us _ _ _ _ _ _ _ _ _ _ _ _ _ _ _ _ w115 ⟨A0, hP115, hA0, hR0, ra115, rb115⟩
 have had := tB ticks 11 (by decide)
 refine ⟨fun n x wr => ∃ (k : Nat) (A : Sm), x = k ∧ (k : Int) + n = iw ticks 11 ∧ Pr w wr sa oa ta sb ob tb A (M5 ae ax) ca cb ⟨none, 0, 0⟩ [] ∧ St (min (max ax 1) 64) A (60 + 2560 * k) ∧ Rp (V0 ae) A ∧ (∃ cs, Row wr w0.heap.size cs cx) ∧ (∃ cs, Row wr w20.heap.size cs cx), ⟨(iw ticks 11).toNat, rfl, rfl, 0, A0, rfl, by omega, hP115, hA0, hR0, ra115, rb115⟩, ?_⟩
 clear hP115 hA0 hR0 ra115 rb115
 rintro n us x wr ⟨k, A, rfl, hk, hP, hA, hRp, ra, rb⟩
 refine (oh ticks 11 wr ht (by decide) (by unfold inI; omega)).mono ?_
 rintro e w122 ⟨rfl, hw⟩
 subst hw
 refine ⟨_, rfl, rfl, rfl, Br.mk (fun hb => ?_) (fun hb => ?_)⟩
 ·replace hb := dj hb
  obtain ⟨V, hL⟩ := hA.v
  refine (DZ hP hL.due.1 (hA.k.mono (by omega)) (by rw [hA.b]; exact hbud)).mono ?_
  rintro e w124 ⟨rfl, hP2, ks⟩
  have wk : IntKind.wrap .i64 ((k : Int) + 1) = ((k + 1 : Nat) : Int) := by rw [wI]; omega
  exact ⟨_, rfl, ks.at ra, ks.at rb, n - 1, by omega, rfl, rfl, k + 1, _, wk, by omega, hP2, by have := hA.tick hbud O0; rw [show 60 + 2560 * (k + 1) = 60 + 2560 * k + 2560 from by omega]; exact this, hRp.tick O0, Row.kept ks ra, Row.kept ks rb⟩
 have hA : St (min (max ax 1) 64) A 30000 := ⟨hA.v, hA.k.mono (by omega), hA.b⟩
 clear hb hk had
 obtain ⟨Fa, Fb, h1, h2, -⟩ := id hP.all
 refine (uU h1).mono ?_
 rintro e w126 ⟨rfl, hw⟩
 subst hw
 refine ⟨_, rfl, rfl, rfl, (uU h2).mono ?_⟩
 rintro e w128 ⟨rfl, hw⟩
 subst hw
 clear h1 h2
 refine ⟨_, rfl, rfl, rfl, rT rfl (rT rfl ((Is hP).mono ?_))⟩
 rintro e w130 ⟨sc, rfl, hP130, ks⟩
 refine ⟨sc, rfl, ks.at ra, ks.at rb, ?_⟩
 have ra := Row.kept ks ra
 have rb := Row.kept ks rb
 clear ks hP
 have hnc := (hP130.own.rd (show 0 < 4 by decide)).n
 rw [List.length_map] at hnc
 have hchl := hA.k.c
 have okCg : ∀ x ∈ A.ch, lx x.1 := fun x hx => (Bn (hRp.ok x hx).1 (hRp.ok x hx).2.1).wide.ok
 refine ⟨fun n x wr => ∃ (k : Nat) (l : List En) (ch : List Go.ij.Cg), x = k ∧ k + n = A.ch.length ∧ Pr w wr sa oa ta sb ob tb { A with ch := [] } { M5 ae ax with T := (fW 0, l), ch := ch } ca cb sc A.ch ∧ Hs l (yt (V0 ae) (A.ch.take k)) ∧ ch.length ≤ k ∧ (∃ cs, Row wr w0.heap.size cs cx) ∧ (∃ cs, Row wr w20.heap.size cs cx), ⟨A.ch.length, rfl, rfl, 0, l5 ae 5, [], rfl, by omega, hP130, DX ae, Nat.le_refl _, ra, rb⟩, ?_⟩
 clear hP130 ra rb
 rintro n us x w136 ⟨k, l, ch, rfl, hk, hP, hH, hch, ra, rb⟩
 obtain ⟨ca1, ra1⟩ := id ra
 obtain ⟨cb1, rb1⟩ := id rb
 refine Br.mk (fun hb => ?_) (fun hb => ?_)
 ·replace hb := dj hb
  obtain ⟨y, hy⟩ := aI (l := A.ch) (i := k) (by omega)
  have hy' : (A.ch.map vW)[k]? = some (vW y) := by rw [List.getElem?_map, hy]; rfl
  have htk : A.ch.take (k + 1) = A.ch.take k ++ [y] := by rw [List.take_add_one, hy]; rfl
  have hyok := hRp.ok y (List.mem_of_getElem? hy)
  have xd := Ext.dr w136
  have hPd := hP.ext xd
  have hrd := hPd.own.rd (show 0 < 4 by decide)
  have hin := hrd.ee (i := (k : Int)) (by decide) (by omega) hb
  have hso : (ab sc.a (((k : Nat) : Int).toNat * 4)).isSome = true := by
   obtain ⟨p, hp⟩ := Option.isSome_iff_exists.1 hin.1
   rw [hp]; rfl
  refine ⟨hin, Cu hso ⟨y.1.1, y.1.2.1, y.1.2.2, dp fun i u hu => ?_, hin, Cu hso ⟨y.2, hrd.at hy' (j := 3) rfl, (JX hPd y.1 (okCg y (List.mem_of_getElem? hy)) y.2 (by simp only; omega)).mono ?_⟩⟩⟩
  ·rw [Nat.zero_add, cj]
   match i, hu with
   | 0, hu => exact hrd.at hy' (j := 0) hu
   | 1, hu => exact hrd.at hy' (j := 1) hu
   | 2, hu => exact hrd.at hy' (j := 2) hu
  rintro e w142 ⟨rfl, hP2, ks⟩
  have wk : IntKind.wrap .i64 ((k : Int) + 1) = ((k + 1 : Nat) : Int) := by rw [wI]; omega
  have hwl := rS l ch y.1 y.2
  rcases rU hH y.1 y.2 with ⟨-, -, h4⟩ | ⟨-, h4, -⟩
  ·have rad : ∃ cs, Row w136.drew w0.heap.size cs cx := ⟨ca1, ra1.ext xd⟩
   have rbd : ∃ cs, Row w136.drew w20.heap.size cs cx := ⟨cb1, rb1.ext xd⟩
   exact ⟨_, rfl, ks.at rad, ks.at rbd, n - 1, by omega, rfl, rfl, k + 1, _, _, wk, by omega, hP2, by rw [htk, EE]; exact h4, by simp only; omega, Row.kept ks rad, Row.kept ks rbd⟩
  ·exact absurd hyok h4
 replace hb := dH hb
 rw [List.take_of_length_le (by omega)] at hH
 obtain ⟨Fa, Fb, h1, h2, h3, h4, h5, h6, h7, h8⟩ := id hP.all
 obtain ⟨VA, hLA⟩ := hA.v
 have hnow := hA.k.now
 have hx := hP.x
 have ho := hP.own
 refine (tC h1).mono ?_
 rintro e w144 ⟨rfl, hw⟩
 subst hw
 refine ⟨_, rfl, rfl, rfl, (gQ h1).mono ?_⟩
 rintro e w146 ⟨s147, rfl, ho147, x146⟩
 have hqok : rV A.q := by obtain ⟨g, m, qs, -, q, -⟩ := h1.queue; exact q
 have hqr := hLA.q.1
 have hql : A.q.l.length ≤ 4096 := by have := hqok.len; omega
 refine ⟨s147, rfl, x146.heap ra1.lt, x146.heap rb1.lt, (Aj (h2.ext x146) A.now s147 A.q.l (ho147.rd (by decide)) (fun b hb => ⟨(ho147.own.lt hb).2, fun q => by have := h2.lt q; have := (ho147.own.lt hb).1; omega⟩) ⟨⟨by simp only; omega, by simp only; omega⟩, by simp only; omega, hqok.sorted, hqok.nodup⟩).mono ?_⟩
 rintro e w148 ⟨rfl, hres⟩
 obtain ⟨hP148, ks⟩ := Iu (h1.ext x146) (h2.ext x146) h3 h4 h5 (h6.ext x146) (h7.ext x146) h8 (hx.tr x146) (ho.ext x146) hres
 have ra146 : ∃ cs, Row w146 w0.heap.size cs cx := ⟨ca1, ra1.ext x146⟩
 have rb146 : ∃ cs, Row w146 w20.heap.size cs cx := ⟨cb1, rb1.ext x146⟩
 refine ⟨_, rfl, ks.at ra146, ks.at rb146, ?_⟩
 obtain ⟨ca2, ra2⟩ := Row.kept ks ra146
 obtain ⟨cb2, rb2⟩ := Row.kept ks rb146
 have hno : min (max A.now 0) 1099511627776 = A.now := by omega
 rw [hno] at hP148
 clear ks hres h1 h2 h3 h4 h5 h6 h7 h8 hx ho ra146 rb146 ra1 rb1 ra rb hP ho147 x146
 have hEq : rW { A with ch := [] } { M5 ae ax with T := (fW 0, l), ch := ch, q := ⟨4096, 0, A.q.l⟩, now := A.now } := ⟨⟨_, hRp.h, hH⟩, ⟨rfl, hqr⟩, rfl, hA.b⟩
 have hSA : St (min (max ax 1) 64) { A with ch := [] } 30000 := ⟨⟨VA, hLA.h, hLA.q⟩, ⟨hA.k.l, Nat.zero_le _, hnow, hA.k.d⟩, hA.b⟩
 have hSB : St (min (max ax 1) 64) { M5 ae ax with T := (fW 0, l), ch := ch, q := ⟨4096, 0, A.q.l⟩, now := A.now } 30000 := ⟨⟨_, hH, rfl, hLA.q.2⟩, ⟨⟨Int.le_refl _, by simp only; omega⟩, by simp only; omega, hnow, Nat.zero_le _⟩, rfl⟩
 obtain ⟨Fa, Fb, h1, -⟩ := id hP148.all
 refine (gQ h1).mono ?_
 rintro e w150 ⟨s151, rfl, ho151, x150⟩
 have hn151 : s151.n = A.q.l.length := by rw [(ho151.rd (show 0 < 4 by decide)).n, List.length_map]
 refine ⟨s151, rfl, x150.heap ra2.lt, x150.heap rb2.lt, rT (by rw [hn151]; simp) ?_⟩
 have hP150 := hP148.ext x150
 obtain ⟨Fa, Fb, h1, h2, -⟩ := id hP150.all
 refine (tC h2).mono ?_
 rintro e w152 ⟨rfl, hw⟩
 subst hw
 refine ⟨_, rfl, rfl, rfl, (tC h1).mono ?_⟩
 rintro e w154 ⟨rfl, hw⟩
 subst hw
 refine ⟨_, rfl, rfl, rfl, rT (by simp) ?_⟩
 have ra := ra2.ext x150
 have rb := rb2.ext x150
 clear h1 ho151 hP148 x150 ra2 rb2
 have had := tB more 21 (by decide)
 refine ⟨fun n x wr => ∃ (k : Nat) (A2 B2 : Sm), x = k ∧ (k : Int) + n = iw more 21 ∧ Pr w wr sa oa ta sb ob tb A2 B2 ca cb sc A.ch ∧ rW A2 B2 ∧ St (min (max ax 1) 64) A2 (30000 + 2560 * k) ∧ St (min (max ax 1) 64) B2 (30000 + 2560 * k) ∧ (∃ cs, Row wr w0.heap.size cs cx) ∧ (∃ cs, Row wr w20.heap.size cs cx), ⟨(iw more 21).toNat, rfl, rfl, 0, _, _, rfl, by omega, hP150, hEq, hSA, hSB, ⟨_, ra⟩, ⟨_, rb⟩⟩, ?_⟩
 clear hP150 hEq hSA hSB ra rb
 rintro n us x w160 ⟨k, A2, B2, rfl, hk, hP, hE, hSA, hSB, ra, rb⟩
 refine (oh more 21 w160 hmo (by decide) (by unfold inI; omega)).mono ?_
 rintro e w162 ⟨rfl, hw⟩
 subst hw
 refine ⟨_, rfl, rfl, rfl, Br.mk (fun hb => ?_) (fun hb => ?_)⟩
 ·replace hb := dj hb
  obtain ⟨V, hL⟩ := hSA.v
  obtain ⟨VB, hLB⟩ := hSB.v
  obtain ⟨e1, hE2⟩ := hE.tick O0
  refine (DZ hP hL.due.1 (hSA.k.mono (by omega)) (by rw [hSA.b]; exact hbud)).mono ?_
  rintro e w164 ⟨rfl, hP2, ks⟩
  refine ⟨_, rfl, ks.at ra, ks.at rb, (Iw hP2 hLB.due.1 (hSB.k.mono (by omega)) (by rw [hSB.b]; exact hbud)).mono ?_⟩
  rintro e w166 ⟨rfl, hP3, ks2⟩
  have ra := Row.kept ks ra
  have rb := Row.kept ks rb
  have wk : IntKind.wrap .i64 ((k : Int) + 1) = ((k + 1 : Nat) : Int) := by rw [wI]; omega
  have q1 := hSA.tick hbud O0
  have q2 := hSB.tick hbud O0
  refine ⟨_, rfl, ks2.at ra, ks2.at rb, rT (by rw [e1]; simp) ⟨n - 1, by omega, rfl, rfl, k + 1, _, _, wk, by omega, hP3, hE2, ?_, ?_, Row.kept ks2 ra, Row.kept ks2 rb⟩⟩
  ·rw [show 30000 + 2560 * (k + 1) = 30000 + 2560 * k + 2560 from by omega]; exact q1
  ·rw [show 30000 + 2560 * (k + 1) = 30000 + 2560 * k + 2560 from by omega]; exact q2
 clear hSA hSB hb had hk hch hH
 refine (Ix hP).mono ?_
 rintro e w168 ⟨s169, rfl, hP168, ks⟩
 refine ⟨s169, rfl, ks.at ra, ks.at rb, ?_⟩
 obtain ⟨ca3, ra⟩ := Row.kept ks ra
 obtain ⟨cb3, rb⟩ := Row.kept ks rb
 clear ks hP
 obtain ⟨Fa, Fb, h1, h2, -⟩ := id hP168.all
 obtain ⟨Fw, hW, -, -⟩ := h1.world
 refine (jx hW).mono ?_
 rintro e w170 ⟨rfl, hw⟩
 subst hw
 obtain ⟨Fw2, hW2, -, -⟩ := h2.world
 refine ⟨_, rfl, rfl, rfl, (jx hW2).mono ?_⟩
 rintro e w172 ⟨rfl, hw⟩
 subst hw
 clear hW hW2
 refine ⟨_, rfl, rfl, rfl, ?_⟩
 rw [Bo, uV, AQ]
 refine rT rfl ?_
 rw [Bo, uV, AQ]
 refine rT rfl ?_
 refine ⟨fun n x wr => ∃ k : Nat, x = k ∧ k + n = A.ch.length ∧ Ext w172 wr, ⟨A.ch.length, rfl, rfl, 0, rfl, by omega, Ext.ao _⟩, ?_⟩
 rintro n us x w178 ⟨k, rfl, hk, x178⟩
 refine Br.mk (fun hb => ?_) (fun hb => ?_)
 ·replace hb := dj hb
  obtain ⟨y, hy⟩ := aI (l := A.ch) (i := k) (by omega)
  have hy' : (A.ch.map vW)[k]? = some (vW y) := by rw [List.getElem?_map, hy]; rfl
  have xd := x178.tr (Ext.dr w178)
  have hrd := (hP168.own.ext xd).rd (show 0 < 4 by decide)
  have hin := hrd.ee (i := (k : Int)) (by decide) (by omega) hb
  have hso : (ab sc.a (((k : Nat) : Int).toNat * 4)).isSome = true := by
   obtain ⟨p, hp⟩ := Option.isSome_iff_exists.1 hin.1
   rw [hp]; rfl
  have hld : ∀ {v : World}, RdK v sc 4 (A.ch.map vW) → ah v (ab (ab sc.a (((k : Nat) : Int).toNat * 4)) 0) 0 [.int .i64 y.1.1, .int .i64 y.1.2.1, .int .i64 y.1.2.2] := fun hrd => dp fun i u hu => by
   rw [Nat.zero_add, cj]
   match i, hu with
   | 0, hu => exact hrd.at hy' (j := 0) hu
   | 1, hu => exact hrd.at hy' (j := 1) hu
   | 2, hu => exact hrd.at hy' (j := 2) hu
  have hyo := okCg y (List.mem_of_getElem? hy)
  refine ⟨hin, Cu hso ⟨y.1.1, y.1.2.1, y.1.2.2, hld hrd, hin, Cu hso ⟨y.1.1, y.1.2.1, y.1.2.2, hld hrd, bg ((h1.ext xd).tl.at (c := y.1) hyo) ?_⟩⟩⟩
  rintro e w186 ⟨rfl, x186⟩
  have xd6 := xd.tr x186
  refine ⟨_, rfl, x186.heap (ra.ext xd).lt, x186.heap (rb.ext xd).lt, hld (hrd.ext x186), bg ((h2.ext xd6).tl.at (c := y.1) hyo) ?_⟩
  rintro e w188 ⟨rfl, x188⟩
  have wk : IntKind.wrap .i64 ((k : Int) + 1) = ((k + 1 : Nat) : Int) := by rw [wI]; omega
  refine ⟨_, rfl, x188.heap (ra.ext xd6).lt, x188.heap (rb.ext xd6).lt, rT ?_ ⟨n - 1, by omega, rfl, rfl, k + 1, wk, by omega, xd6.tr x188⟩⟩
  show (cW A2.T.2 y.1 != cW B2.T.2 y.1) = false
  rw [hE.at]
  simp
 refine (gQ (h1.ext x178)).mono ?_
 rintro e w190 ⟨s191, rfl, ho191, x190⟩
 have y178 := x178.tr x190
 have hq2 : ∀ {F : Nat → Prop} {v : World} {s o t : Nat} {N : Sm} {occ : Value}, SF F v s o t N occ → N.q.l.length ≤ 5000 := fun hS => by
  obtain ⟨g, m, qs, -, q, -⟩ := hS.queue
  have := q.len
  have := q.room
  omega
 have hla : A2.q.l.length ≤ 5000 := hq2 (N := A2) h1
 have hlb : B2.q.l.length ≤ 5000 := hq2 (N := { B2 with ch := [] }) h2
 refine ⟨s191, rfl, x190.heap (ra.ext x178).lt, x190.heap (rb.ext x178).lt, (wG (ho191.rd (by decide)) hla).mono ?_⟩
 rintro e w192 ⟨s193, rfl, ho193, x192⟩
 have y192 := y178.tr x192
 refine ⟨s193, rfl, x192.heap (ra.ext y178).lt, x192.heap (rb.ext y178).lt, (gQ (h2.ext y192)).mono ?_⟩
 rintro e w194 ⟨s195, rfl, ho195, x194⟩
 have y194 := y192.tr x194
 refine ⟨s195, rfl, x194.heap (ra.ext y192).lt, x194.heap (rb.ext y192).lt, (wG (ho195.rd (by decide)) hlb).mono ?_⟩
 rintro e w196 ⟨s197, rfl, ho197, x196⟩
 have y196 := y194.tr x196
 have hqe : B2.q.l = A2.q.l := hE.q.1.symm
 have rd7 : RdK w196 s197 4 (A2.q.l.map a9) := by rw [← hqe]; exact ho197.rd (by decide)
 refine ⟨s197, rfl, x196.heap (ra.ext y194).lt, x196.heap (rb.ext y194).lt, (wH ((ho193.rd (by decide)).ext (x194.tr x196)) rd7 hla).mono ?_⟩
 rintro e w198 ⟨rfl, x198⟩
 have y198 := y196.tr x198
 refine ⟨true, rfl, x198.heap (ra.ext y196).lt, x198.heap (rb.ext y196).lt, Br.mk (fun _ => (Ak w198).mono ?_) (fun q => by cases q)⟩
 rintro e w200 ⟨rfl, x200⟩
 exact ⟨true, rfl, x200.heap (ra.ext y198).lt, x200.heap (rb.ext y198).lt, rfl, hP168.x.tr (y198.tr x200)⟩
end Go.Proofs.YtalpkjfpmdpbiaaGreatDoor
