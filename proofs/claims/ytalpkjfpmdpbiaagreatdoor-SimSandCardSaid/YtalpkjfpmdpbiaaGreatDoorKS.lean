import Derived.Test.YtalpkjfpmdpbiaaGreatDoorKB
import Derived.Test.YtalpkjfpmdpbiaaGreatDoorGS
import Derived.Test.YtalpkjfpmdpbiaaGreatDoorP
import Derived.Laws.IdiomRangeMap
import Derived.LoopTactic
set_option linter.all false
namespace Go.Proofs.YtalpkjfpmdpbiaaGreatDoor
open Go Go.Vc Go.RowKit Go.Proofs Go.bQ Go.aB Go.Code
theorem ym (v : eU) (w : World) : Calls Tryz.prog km #[.int .u16 (cI v)] w fun e w' => e = .returned (.int .u16 (cI (yn v))) ∧ w' = w := by
 apply nI.vc
 have e1 : IntKind.wrap .u16 (cI v * 2 ^ (min (1 : Int).toNat 16)) = cI (v <<< 1) := Cc v 1
 have e2 : vH .u16 (cI v) 32768 = cI (v &&& 0x8000#16) := Ie v 0x8000#16
 have e3 : dt .u16 (cI (v <<< 1)) 4129 = cI ((v <<< 1) ^^^ 0x1021#16) := vr _ 0x1021#16
 refine Br.mk (fun h => ?_) (fun h => ?_)
 ·rw [e2] at h
  have hm : v.msb = true := by
   cases q : v.msb with
   | true => rfl
   | false => rw [(Cd v).2 q] at h; simp at h
  rw [e1, e3]
  unfold yn
  rw [if_pos hm]; exact ⟨rfl, rfl⟩
 ·rw [e2] at h
  have hm : v.msb = false := (Cd v).1 (by simpa using h)
  rw [e1]
  unfold yn
  rw [hm]; exact ⟨rfl, rfl⟩
abbrev zX:TypeId:=314
abbrev Jc:TypeId:=296
def JN:Nat->eU->eU
 |0,v=>v
 |k+1,v=>yn (JN k v)
theorem vW (w : World) : Calls Tryz.prog nG #[] w fun e w' => e = .returned (.agg tS.toArray) ∧ Ext w w' := by
 apply sk.vc
 intro w0 e0 w1 e1
 have z0 := dR e0
 have x1 : Ext w w1 := ((Ext.aq w).ab e0).ab e1
 have ha : Row w1 w.heap.size (tT 0) zX := (by rw [e0]; exact Row.new w (tT 0) _ : Row w0 w.heap.size (tT 0) zX).ext ((Ext.aq _).ab e1)
 have hb : Row w1 w0.heap.size (tT 0) zX := by rw [e1]; exact Row.new w0 (tT 0) _
 clear e0 e1
 refine ⟨fun n i wr => ∃ k : Nat, i = k ∧ k + n = 16 ∧ Row wr w.heap.size (tT 0) zX ∧ Row wr w0.heap.size (tT k) zX ∧ Ext w wr, ⟨16, 0, rfl, rfl, ha, hb, x1⟩, ?_⟩
 rintro n3 us4 x5 w6 ⟨k, rfl, hk, ha6, hb6, x6⟩
 refine Br.mk (fun hc => ?_) (fun hc => ?_)
 ·replace hc := eN hc
  have ek : IntKind.wrap .u16 (IntKind.wrap .u16 (k : Int) * 2 ^ (min (12 : Int).toNat 16)) = cI (gq (k : Int) <<< 12) := by
   have : IntKind.wrap .u16 (k : Int) = cI (gq (k : Int)) := by rw [yp (by omega), wrap_u16]; omega
   rw [this]; exact Cc _ 12
  rw [ek]
  refine ⟨fun n j c wr => ∃ m : Nat, j = m ∧ m + n = 4 ∧ c = cI (JN m (gq (k : Int) <<< 12)) ∧ wr = w6, ⟨4, 0, rfl, rfl, rfl, rfl⟩, ?_⟩
  rintro n9 us10 x11 x12 w13 ⟨m, rfl, hm, rfl, rfl⟩
  refine Br.mk (fun hc2 => ?_) (fun hc2 => ?_)
  ·replace hc2 := eN hc2
   have wk : IntKind.wrap .i64 ((m : Int) + 1) = ((m + 1 : Nat) : Int) := by rw [wI]; omega
   refine (ym _ _).mono ?_
   rintro e w15 ⟨rfl, hw⟩
   exact ⟨_, rfl, n9 - 1, by omega, m + 1, wk, by omega, rfl, hw⟩
  ·replace hc2 := eO hc2
   have hm4 : m = 4 := by omega
   subst hm4
   have wk : IntKind.wrap .i64 ((k : Int) + 1) = ((k + 1 : Nat) : Int) := by rw [wI]; omega
   have hlen : (tT k).length = 16 := by
    unfold tT; rw [List.length_append, List.length_take, List.length_replicate]; simp [tS]; omega
   obtain ⟨p1, p2⟩ := hb6.iR (j := k) (v := tv k) (by omega) rfl
   have hj : ((k : Int)).toNat * 1 = k := by omega
   rw [hj]
   refine ⟨by omega, by omega, ⟨rfl, p1⟩, fun w17 e17 => ?_⟩
   obtain ⟨q1, q2⟩ := p2 w17 e17
   rw [show aw (tT k) k [tv k] = (tT k).set k (tv k) from rfl, Ig (by omega)] at q1
   exact ⟨n3 - 1, by omega, k + 1, wk, by omega, q2.row ha6 (by have := x1.size; omega), q1, q2.ext x6 (by intro i hi; omega)⟩
 ·replace hc := eO hc
  have : k = 16 := by omega
  subst this
  have hl : aj w6 (some ⟨w0.heap.size, 0, none⟩) 0 tS := hb6.aX fun j hj => by rw [Nat.zero_add]; rfl
  have hs := ha6.aA (o := 0) (vs := tS) (by decide) (by intro v hv; simp only [tS, List.mem_cons, List.not_mem_nil, or_false] at hv; rcases hv with rfl | rfl | rfl | rfl | rfl | rfl | rfl | rfl | rfl | rfl | rfl | rfl | rfl | rfl | rfl | rfl <;> rfl)
  refine ⟨_, _, _, _, _, _, _, _, _, _, _, _, _, _, _, _, hl, ⟨rfl, ha6.wr (o := 0) (n := 16) (by decide)⟩, fun w34 e34 => ?_⟩
  have e34' : w34 = w6.setRow w.heap.size tS.toArray := e34.trans hs
  have hr : Row w34 w.heap.size tS zX := by rw [e34']; exact ha6.set tS
  have hl2 : aj w34 (some ⟨w.heap.size, 0, none⟩) 0 tS := hr.aX fun j hj => by rw [Nat.zero_add]
  exact ⟨_, _, _, _, _, _, _, _, _, _, _, _, _, _, _, _, hl2, rfl, x6.ah e34' (Nat.le_refl _)⟩
theorem yq (v : eU) (s : Sl) (b : List Int) (w : World) (hs : cJ w s b) (hb : ks b) (hn : (b.length : Int) ≤ 1099511627776) : Calls Tryz.prog gf #[.int .u16 (cI v), s] w fun e w' => e = .returned (.int .u16 (cI (oB v b))) ∧ Ext w w' := by
 apply (jm.vc (a1 := s))
 refine (vW w).mono ?_
 rintro e w0 ⟨rfl, x0⟩
 refine ⟨_, _, _, _, _, _, _, _, _, _, _, _, _, _, _, _, rfl, fun w17 e17 => ?_⟩
 have hr17 : Row w17 w0.heap.size (tT 0) zX := by rw [e17]; exact Row.new w0 (tT 0) _
 have hS := hr17.aA (o := 0) (vs := tS) (by decide) (by intro v hv; simp only [tS, List.mem_cons, List.not_mem_nil, or_false] at hv; rcases hv with rfl | rfl | rfl | rfl | rfl | rfl | rfl | rfl | rfl | rfl | rfl | rfl | rfl | rfl | rfl | rfl <;> rfl)
 refine ⟨⟨rfl, hr17.wr (o := 0) (n := 16) (by decide)⟩, fun w18 e18 => ?_⟩
 have e18' : w18 = w17.setRow w0.heap.size tS.toArray := e18.trans hS
 have hr : Row w18 w0.heap.size tS zX := by rw [e18']; exact hr17.set tS
 have x18 : Ext w w18 := x0.tr (((Ext.aq _).ab e17).ah e18' (Nat.le_refl _))
 clear e18 e18' hS hr17 e17
 have hs18 := hs.ext x18
 have hsn := hs.n
 rw [List.length_map] at hsn
 refine ⟨fun n i c wr => ∃ k : Nat, i = k ∧ k + n = b.length ∧ c = cI (oB v (b.take k)) ∧ wr = w18, ⟨b.length, 0, rfl, by omega, rfl, rfl⟩, ?_⟩
 rintro n us i c wr ⟨k, rfl, hk, rfl, rfl⟩
 refine Br.mk (fun hc => ?_) (fun hc => ?_)
 ·replace hc := eN hc
  obtain ⟨x, hx⟩ := aN (l := b) (i := k) (by omega)
  have hxb := hb x (List.mem_of_getElem? hx)
  have hm : (b.map yv)[k]? = some [.int .u8 x] := by rw [List.getElem?_map, hx]; rfl
  have hld := hs18.at hm (j := 0) rfl
  rw [bf] at hld
  have wk : IntKind.wrap .i64 ((k : Int) + 1) = ((k + 1 : Nat) : Int) := by rw [wI]; omega
  have ht : b.take (k + 1) = b.take k ++ [x] := by rw [List.take_add_one, hx]; rfl
  generalize hu : oB v (b.take k) = u
  refine ⟨hs18.eV (by decide) (by omega) hc, x, hld, ?_⟩
  have m1 : (min (12 : Int).toNat 16) = 12 := rfl
  have m2 : (min (4 : Int).toNat 8) = 4 := rfl
  have m3 : (min (4 : Int).toNat 16) = 4 := rfl
  rw [m1, m2, m3, Fo, Jy hxb, vr, Jz hxb, Cc]
  have l1 := Fp (Fq u) (Hm hxb)
  have g1 := Hn l1
  have c1 := nR ((u >>> 12) ^^^ (gq x >>> 4))
  have c1' : cI ((u >>> 12) ^^^ (gq x >>> 4)) < 16 := by unfold cI; omega
  refine ⟨by omega, by omega, _, (by rw [aP, Nat.zero_add, hr.ld, Nat.mul_one]; exact g1), ?_⟩
  rw [vr, Fo, vr, Cc]
  have l2 := Fp (Fq ((u <<< 4) ^^^ vX (((u >>> 12) ^^^ (gq x >>> 4)) <<< 12))) (Ho (gq x))
  have g2 := Hn l2
  have c2 := nR ((((u <<< 4) ^^^ vX (((u >>> 12) ^^^ (gq x >>> 4)) <<< 12)) >>> 12) ^^^ (gq x &&& 15#16))
  have c2' : cI ((((u <<< 4) ^^^ vX (((u >>> 12) ^^^ (gq x >>> 4)) <<< 12)) >>> 12) ^^^ (gq x &&& 15#16)) < 16 := by unfold cI; omega
  refine ⟨by omega, by omega, _, (by rw [aP, Nat.zero_add, hr.ld, Nat.mul_one]; exact g2), n - 1, by omega, k + 1, wk, by omega, ?_, rfl⟩
  rw [vr, Du u hxb, ht, nS, hu]
  rfl
 ·replace hc := eO hc
  rw [List.take_of_length_le (by omega)]
  exact ⟨rfl, x18⟩
theorem ua (s : Sl) (b : List Int) (w : World) (hs : cJ w s b) (hb : ks b) (hn : (b.length : Int) ≤ 1099511627776) : Calls Tryz.prog qH #[s] w fun e w' => e = .returned (.int .u16 (cI (jY b))) ∧ Ext w w' := by
 apply (Bf.vc (a0 := s))
 have st : Calls Tryz.prog nE #[] w fun e w' => e = .returned (.int .u16 (cI 0xFFFF#16)) ∧ w' = w := by
  apply sj.vc
  exact ⟨rfl, rfl⟩
 refine st.mono ?_
 rintro e w0 ⟨rfl, rfl⟩
 refine ⟨_, rfl, (yq _ s b w0 hs hb hn).mono ?_⟩
 rintro e w2 ⟨rfl, x2⟩
 exact ⟨_, rfl, rfl, x2⟩
theorem xI (s : Sl) (b : List Int) (w : World) (hs : cJ w s b) (hb : ks b) (hn : (b.length : Int) ≤ 1099511627776) : Calls Tryz.prog u5 #[s] w fun e w' => e = .returned (.bool (decide (2 ≤ b.length ∧ jY b = 0#16))) ∧ Ext w w' := by
 apply (u6.vc (a0 := s))
 have hsn := hs.n
 rw [List.length_map] at hsn
 refine Br.mk (fun h => ?_) (fun h => ?_)
 ·simp only [ge_iff_le, decide_eq_true_eq] at h
  refine (ua s b w hs hb hn).mono ?_
  rintro e w0 ⟨rfl, x0⟩
  refine ⟨_, rfl, ?_, x0⟩
  have : (cI (jY b) == 0) = decide (2 ≤ b.length ∧ jY b = 0#16) := by
   rw [Bool.eq_iff_iff]
   simp only [beq_iff_eq, decide_eq_true_eq]
   constructor
   ·intro q; exact ⟨by omega, Bq.1 (q.trans rfl)⟩
   ·rintro ⟨-, q⟩; rw [q]; rfl
  rw [this]
 ·simp only [ge_iff_le, decide_eq_false_iff_not] at h
  rw [decide_eq_false (by omega)]
  exact ⟨rfl, Ext.aq _⟩
theorem vM (v : eU) (w : World) : Calls Tryz.prog ft #[.int .u16 (cI v)] w fun e w' => e = .returned (.agg #[.int .u8 (cI v / 256), .int .u8 (cI v % 256)]) ∧ Ext w w' := by
 apply hM.vc
 intro w0 e0
 have hb := nR v
 have h0 : Row w0 w.heap.size [.int .u8 0, .int .u8 0] Jc := by rw [e0]; exact Row.new w [_, _] _
 have e1 : IntKind.wrap .u8 ((cI v).fdiv (2 ^ (min (8 : Int).toNat 16))) = cI v / 256 := by
  show IntKind.wrap .u8 ((cI v).fdiv (2 ^ 8)) = _
  rw [Fo, Bs, wrap_u8]
  simp only [show (2 : Int) ^ 8 = 256 from rfl]; omega
 have e2 : IntKind.wrap .u8 (cI v) = cI v % 256 := wrap_u8 _
 rw [e1, e2]
 have hS := h0.aA (o := 0) (vs := [.int .u8 (cI v / 256), .int .u8 (cI v % 256)]) (Nat.le_refl 2) (kV _ _ _ _)
 refine ⟨⟨rfl, h0.wr (o := 0) (n := 2) (by decide)⟩, fun w1 e1 => ?_⟩
 have e1' : w1 = w0.setRow w.heap.size #[.int .u8 (cI v / 256), .int .u8 (cI v % 256)] := e1.trans hS
 have h1 : Row w1 w.heap.size [.int .u8 (cI v / 256), .int .u8 (cI v % 256)] Jc := by rw [e1']; exact h0.set _
 exact ⟨_, _, h1.aX (fun j hj => by rw [Nat.zero_add]), rfl, ((Ext.aq w).ab e0).ah e1' (Nat.le_refl _)⟩
end Go.Proofs.YtalpkjfpmdpbiaaGreatDoor
namespace Go.Proofs.YtalpkjfpmdpbiaaGreatDoor
open Go Go.Vc Go.RowKit Go.Proofs Go.bQ Go.aB Go.Code
abbrev JG:TypeId:=132
theorem cJ.n {w:World} {s:Sl} {b:List Int} (h:cJ w s b):s.n=b.length:=by have:=ba.n h;rwa [List.length_map]at this
theorem BJ {b:List Int}:∀r ∈ b.map yv,r.length=1:=fun r hr=>by obtain ⟨x,_,rfl⟩:=List.mem_map.1 hr;rfl
theorem jB (s : Sl) (b : List Int) (w : World) (hs : cJ w s b) (hn : b.length ≤ 1099511627776) :
  Calls Tryz.prog cy #[s] w fun e w' => ∃ s' : Sl, e = .returned s' ∧ jX w.heap.size w' s' b ∧ Ext w w' := by
 have hsn := cJ.n hs
 apply (fb.vc (a0 := s))
 refine Br.mk (fun h => ?_) (fun h => ?_)
 ·have : b = [] := by
   rcases Nat.eq_zero_or_pos b.length with h0 | h0
   ·exact List.eq_nil_of_length_eq_zero h0
   ·have := ba.isSome hs (by omega) (i := 0) (by simpa using h0)
    cases hsa : s.a <;> simp [hsa] at h this
  subst this
  exact ⟨⟨none, 0, 0⟩, rfl, af.nil, Ext.aq w⟩
 ·rintro w0 rfl
  have xa := Ext.al w (.cells #[] eQ)
  have hz : af w.heap.size eQ 1 (w.alloc (.cells #[] eQ)) ⟨some ⟨w.heap.size, 0, none⟩, 0, 0⟩ [] := af.gP (Nat.le_refl _) (Row.new w [] eQ) (by simp) (Nat.le_refl _) rfl (fun r hr => by cases hr)
  have hb := hz.yQ (bytes := 1) (more := b.map yv) xa.size BJ (Ee _) (by simp only [List.length_map]; omega) (by simp only [List.length_map]; omega)
  rw [List.length_map, ← hsn] at hb
  obtain ⟨hp, hr⟩ := hb
  refine ⟨(b.map yv).flatten, ba.flat (hs.ext xa) (by omega), hp, fun s2 w3 hres => ?_⟩
  obtain ⟨ho, hn2, xb, _, _⟩ := hr s2 w3 hres
  exact ⟨sH hres (by rw [aL BJ, List.length_map, hsn]) (by simp), s2, rfl, ho, xa.trans xb⟩
theorem xE (n : Nat) (w : World) (hn : n ≤ 1099511627776) : Calls Tryz.prog eA #[.slice none 0 0, .int .i64 n] w fun e w' => ∃ s' : Sl, e = .returned (.slice s'.a s'.n s'.c) ∧ jX w.heap.size w' s' [] ∧ Ext w w' := by
 apply (fG.vc (a0 := ⟨none, 0, 0⟩))
 have e1 : IntKind.wrap .i64 ((n : Int) - IntKind.wrap .i64 (((0 : Nat) : Int) - ((0 : Nat) : Int))) = n := by
  rw [ag (n := ((0 : Nat) : Int) - ((0 : Nat) : Int)) (by unfold inI; omega), ag (by unfold inI; omega)]; omega
 refine Br.mk (fun h => by simp at h; omega) (fun _ => ?_)
 rw [e1]
 refine Br.mk (fun h => ?_) (fun h => ?_)
 ·have h0 : af w.heap.size eQ 1 w ⟨none, 0, 0⟩ [] := af.nil
  have hb := h0.yQ (bytes := 1) (more := (List.replicate n (yv 0))) (Nat.le_refl _) (fun r hr => by rw [(List.mem_replicate.1 hr).2]; rfl) (fun r hr => by rw [(List.mem_replicate.1 hr).2]; exact qe _ _) (by simp only [List.length_replicate]; omega) (by simp only [List.length_replicate]; omega)
  rw [List.length_replicate] at hb
  obtain ⟨hp, hr⟩ := hb
  refine ⟨by omega, by omega, ⟨by omega, ag (by unfold inI; omega), by omega⟩, hp, fun s0 w1 hres => ?_⟩
  obtain ⟨ho, hn2, xb, _, _⟩ := hr s0 w1 hres
  have hle := af.le ho
  refine ⟨by omega, by omega, ⟨s0.a, 0, s0.c⟩, by rw [bR]; rfl, ?_, xb⟩
  rcases ho.form (by decide) with ⟨rfl, -⟩ | ⟨g, cs, ha, hg, hrow, hc, hnn, ht, hl⟩
  ·exact af.nil
  ·rw [ha]
   exact af.gP hg hrow hc (Nat.zero_le _) (by simp) (fun r hr => by cases hr)
 ·exact ⟨⟨none, 0, 0⟩, rfl, af.nil, Ext.aq _⟩
abbrev mr (xs:List (Sl × List Int)):List Int:=xs.flatMap (·.2)
theorem wo (xs:List (Sl × List Int)) {k:Nat} {x:Sl × List Int} (h:xs[k]? =some x):mr (xs.take (k+1))=mr (xs.take k)++x.2:=by
 rw [List.take_add_one,h];simp [mr]
theorem BK (xs : List (Sl × List Int)) (k : Nat) : (mr (xs.take k)).length ≤ (mr xs).length := by
 have e := congrArg (fun l => (mr l).length) (List.take_append_drop k xs)
 simp only [List.flatMap_append, List.length_append] at e
 have h1 : (mr (xs.take k)).length = (List.flatMap (fun x => x.2) (xs.take k)).length := rfl
 have h2 : (mr xs).length = (List.flatMap (fun x => x.2) xs).length := rfl
 omega
theorem sI (s : Sl) (xs : List (Sl × List Int)) (w : World) (hs : ba w s 1 (xs.map fun x => [.slice x.1.a x.1.n x.1.c])) (hr : ∀ x ∈ xs, cJ w x.1 x.2) (hl : xs.length ≤ 1000) (hn : (mr xs).length ≤ 1099511627776) :
  Calls Tryz.prog ck #[.slice s.a s.n s.c] w fun e w' => ∃ s' : Sl, e = .returned (.slice s'.a s'.n s'.c) ∧ jX w.heap.size w' s' (mr xs) ∧ Ext w w' := by
 apply (eB.vc (a0 := s))
 have hsn := hs.n
 rw [List.length_map] at hsn
 have row : ∀ {k : Nat} {w' : World}, Ext w w' → k < xs.length → ∃ x, xs[k]? = some x ∧ cn s.a (k : Int) s.n ∧ ld w' (ae s.a (((k : Nat) : Int).toNat * 1)) = some (.slice x.1.a x.1.n x.1.c) ∧ cJ w' x.1 x.2 := fun {k w'} x' hk => by
  obtain ⟨x, hx⟩ := aN (l := xs) (i := k) hk
  have hs' := hs.ext x'
  have hm : (xs.map fun x => [Value.slice x.1.a x.1.n x.1.c])[k]? = some [.slice x.1.a x.1.n x.1.c] := by rw [List.getElem?_map, hx]; rfl
  have hld := hs'.at hm (j := 0) rfl
  rw [bf] at hld
  exact ⟨x, hx, hs'.eV (by decide) (by omega) (by omega), hld, (hr x (List.mem_of_getElem? hx)).ext x'⟩
 refine ⟨fun n i z wr => ∃ k : Nat, i = k ∧ k + n = xs.length ∧ z = ((mr (xs.take k)).length : Nat) ∧ wr = w, ⟨xs.length, 0, rfl, by omega, rfl, rfl⟩, ?_⟩
 rintro n us i z wr ⟨k, rfl, hk, rfl, rfl⟩
 refine Br.mk (fun hc => ?_) (fun hc => ?_)
 ·replace hc := eN hc
  obtain ⟨x, hx, hin, hld, hrx⟩ := row (k := k) (Ext.aq _) (by omega)
  have h1 := BK xs (k + 1)
  have ht := wo xs hx
  have hxn := cJ.n hrx
  have wz : IntKind.wrap .i64 (((mr (xs.take k)).length : Int) + ((x.1.n : Nat) : Int)) = ((mr (xs.take (k + 1))).length : Nat) := by
   rw [ht, List.length_append]
   rw [ht, List.length_append] at h1
   rw [wI]; omega
  have wk : IntKind.wrap .i64 ((k : Int) + 1) = ((k + 1 : Nat) : Int) := by rw [wI]; omega
  refine ⟨hin, x.1, hld, ?_⟩
  rw [wz]
  refine Br.mk (fun h => by simp at h; omega) (fun _ => ⟨n - 1, by omega, k + 1, wk, by omega, rfl, rfl⟩)
 ·replace hc := eO hc
  rw [List.take_of_length_le (by omega)]
  refine (xE _ _ hn).mono ?_
  rintro e w8 ⟨s9, rfl, ho, x8⟩
  refine ⟨s9, rfl, fun n i s wr2 => ∃ k : Nat, i = k ∧ k + n = xs.length ∧ jX wr.heap.size wr2 s (mr (xs.take k)) ∧ Ext wr wr2, ⟨xs.length, 0, rfl, by omega, ho, x8⟩, ?_⟩
  rintro n11 us12 i s14 w15 ⟨k2, rfl, hk2, ho15, x15⟩
  refine Br.mk (fun hc2 => ?_) (fun hc2 => ?_)
  ·replace hc2 := eN hc2
   obtain ⟨x, hx, hin, hld, hrx⟩ := row (k := k2) x15 (by omega)
   have h1 := BK xs (k2 + 1)
   have ht := wo xs hx
   have hxn := cJ.n hrx
   have hon := cJ.n (jX.vL ho15)
   rw [ht, List.length_append] at h1
   have wk : IntKind.wrap .i64 ((k2 : Int) + 1) = ((k2 + 1 : Nat) : Int) := by rw [wI]; omega
   have hb := af.yQ ho15 (bytes := 1) (more := x.2.map yv) x15.size BJ (Ee _) (by simp only [List.length_map]; omega) (by simp only [List.length_map]; omega)
   rw [List.length_map, ← hxn] at hb
   obtain ⟨hp, hres⟩ := hb
   refine ⟨hin, x.1, hld, (x.2.map yv).flatten, ba.flat hrx (by omega), hp, fun s19 w20 hr20 => ?_⟩
   obtain ⟨ho20, _, xb, _, _⟩ := hres s19 w20 hr20
   refine ⟨n11 - 1, by omega, k2 + 1, wk, by omega, ?_, x15.trans xb⟩
   rw [ht]
   show af _ _ _ _ _ _
   rw [List.map_append]; exact ho20
  ·replace hc2 := eO hc2
   rw [List.take_of_length_le (by omega)] at ho15
   exact ⟨s14, rfl, ho15, x15⟩
theorem yR (s : Sl) (b : List Int) (w : World) (hs : cJ w s b) (hb : ks b) (hn : b.length + 2 ≤ 1099511627776) : Calls Tryz.prog q7 #[s] w fun e w' => ∃ s' : Sl, e = .returned s' ∧ jX w.heap.size w' s' (sJ b) ∧ Ext w w' := by
 apply (xF.vc (a0 := s))
 refine (ua s b w hs hb (by omega)).mono ?_
 rintro e w0 ⟨rfl, x0⟩
 refine ⟨_, rfl, (vM _ w0).mono ?_⟩
 rintro e w2 ⟨rfl, x2⟩
 refine ⟨_, _, rfl, fun w5 e5 => ?_⟩
 have h5 : Row w5 w2.heap.size [.int .u8 0, .int .u8 0] Jc := by rw [e5]; exact Row.new w2 [_, _] _
 have hS := h5.aA (o := 0) (vs := [.int .u8 (cI (jY b) / 256), .int .u8 (cI (jY b) % 256)]) (Nat.le_refl 2) (kV _ _ _ _)
 refine ⟨⟨rfl, h5.wr (o := 0) (n := 2) (by decide)⟩, fun w6 e6 w7 e7 => ?_⟩
 have e6' : w6 = w5.setRow w2.heap.size #[.int .u8 (cI (jY b) / 256), .int .u8 (cI (jY b) % 256)] := e6.trans hS
 have h6 : Row w6 w2.heap.size [.int .u8 (cI (jY b) / 256), .int .u8 (cI (jY b) % 256)] Jc := by rw [e6']; exact h5.set _
 have x27 : Ext w2 w6 := ((Ext.aq _).ab e5).ah e6' (Nat.le_refl _)
 have x67 : Ext w6 w7 := (Ext.aq _).ab e7
 have x7 := x0.tr (x2.tr (x27.tr x67))
 have hc : cJ w7 ⟨some ⟨w2.heap.size, 0, none⟩, 2, 2⟩ (xG b) := by
  refine ⟨rfl, BJ, fun i r hi j v hj => ?_⟩
  have h7 := h6.ext x67
  rw [aP, Nat.zero_add, h7.ld]
  match i, hi with
  | 0, hi => cases hi; match j, hj with
    | 0, hj => cases hj; rfl
  | 1, hi => cases hi; match j, hj with
    | 0, hj => cases hj; rfl
  | i + 2, hi => simp [xG] at hi
 have hl : ba w7 ⟨some ⟨w6.heap.size, 0, none⟩, 2, 2⟩ 1 ([(s, b), (⟨some ⟨w2.heap.size, 0, none⟩, 2, 2⟩, xG b)].map fun x => [.slice x.1.a x.1.n x.1.c]) := by
  have h7 : Row w7 w6.heap.size [s, .slice (some ⟨w2.heap.size, 0, none⟩) 2 2] JG := by rw [e7, bR]; exact Row.new w6 [_, _] _
  refine ⟨rfl, fun r hr => by simp at hr; rcases hr with rfl | rfl <;> rfl, fun i r hi j v hj => ?_⟩
  rw [aP, Nat.zero_add, h7.ld]
  match i, hi with
  | 0, hi => cases hi; match j, hj with
    | 0, hj => cases hj; rfl
  | 1, hi => cases hi; match j, hj with
    | 0, hj => cases hj; rfl
  | i + 2, hi => simp at hi
 have hcat : mr [(s, b), (⟨some ⟨w2.heap.size, 0, none⟩, 2, 2⟩, xG b)] = sJ b := by simp [mr, sJ]
 refine (sI ⟨some ⟨w6.heap.size, 0, none⟩, 2, 2⟩ [(s, b), (⟨some ⟨w2.heap.size, 0, none⟩, 2, 2⟩, xG b)] w7 hl (fun x hx => by
  simp at hx
  rcases hx with rfl | rfl
  ·exact hs.ext x7
  ·exact hc) (show 2 ≤ 1000 by decide) (by rw [hcat, wu]; exact hn)).mono ?_
 rintro e w8 ⟨s9, rfl, ho, x8⟩
 rw [hcat] at ho
 exact ⟨s9, rfl, s9, rfl, af.low ho x7.size, x7.tr x8⟩
theorem xH (s : Sl) (b : List Int) (w : World) (hs : cJ w s b) (hb : ks b) (hc : s.n ≤ s.c) (hn : b.length ≤ 1099511627776) : Calls Tryz.prog oV #[s] w fun e w' => ∃ s' : Sl, e = .returned (.tuple #[s', .int .i64 (gN b).2]) ∧ jX w.heap.size w' s' (gN b).1 ∧ Ext w w' := by
 apply (ub.vc (a0 := s))
 have hsn := cJ.n hs
 refine Br.mk (fun h => ?_) (fun h => ?_)
 ·replace h := eN h
  have e : gN b = ([], 3) := by unfold gN; rw [if_pos (by omega)]
  rw [e]
  exact ⟨⟨none, 0, 0⟩, rfl, af.nil, Ext.aq _⟩
 ·replace h := eO h
  refine (xI s b w hs hb (by omega)).mono ?_
  rintro e w0 ⟨rfl, x0⟩
  refine ⟨_, rfl, Br.mk (fun h2 => ?_) (fun h2 => ?_)⟩
  ·have e : gN b = ([], 4) := by
    unfold gN; rw [if_neg (by omega), if_neg]
    intro q
    rw [decide_eq_true ⟨by omega, q⟩] at h2; cases h2
   rw [e]
   exact ⟨⟨none, 0, 0⟩, rfl, af.nil, x0⟩
  ·have q : jY b = 0#16 := by
    simp at h2; exact h2.2
   have e : gN b = (b.take (b.length - 2), 0) := by unfold gN; rw [if_neg (by omega), if_pos q]
   have wk : IntKind.wrap .i64 (((s.n : Nat) : Int) - 2) = ((b.length - 2 : Nat) : Int) := by rw [wI]; omega
   rw [wk, e]
   have hcut : cJ w0 ⟨ai s.a 0 s.c 1, b.length - 2, s.c - 0⟩ (b.take (b.length - 2)) := by
    have := (hs.ext x0).cut (m := b.length - 2) (c' := s.c) (c'' := s.c - 0) (by rw [List.length_map]; omega)
    rw [← List.map_take] at this
    exact this
   refine ⟨by omega, by omega, (jB ⟨ai s.a 0 s.c 1, b.length - 2, s.c - 0⟩ _ w0 hcut (by rw [List.length_take]; omega)).mono ?_⟩
   rintro e w2 ⟨s3, rfl, ho, x2⟩
   exact ⟨s3, rfl, s3, rfl, af.low ho x0.size, x0.tr x2⟩
end Go.Proofs.YtalpkjfpmdpbiaaGreatDoor
namespace Go.Proofs.YtalpkjfpmdpbiaaGreatDoor
open Go Go.Vc Go.RowKit Go.Proofs Go.bQ Go.aB Go.Code
theorem JB (n:Int) {k:Nat} (hk:k<=4):n.fdiv (2 ^(min ((8*(k:Int))).toNat 64))=n / 256 ^ k:=by
 have e:(2:Int)^(min ((8*(k:Int))).toNat 64)=256 ^ k:=by
  rcases k with _|_|_|_|_|k
  ·rfl
  ·rfl
  ·rfl
  ·rfl
  ·rfl
  ·omega
 rw [e,Int.fdiv_eq_ediv_of_nonneg]
 exact Int.le_of_lt (Int.pow_pos (by decide))
theorem zY (B : Nat) (s : Sl) (b : List Int) (n : Int) (m : Nat) (hm : m ≤ 4) (w : World) (hB : B ≤ w.heap.size) (ho : jX B w s b) (hb : b.length ≤ 1000) :
  Calls Tryz.prog jQ #[.slice s.a s.n s.c, .int .i64 n, .int .i64 m] w fun e w' => ∃ s' : Sl, e = .returned (.slice s'.a s'.n s'.c) ∧ jX B w' s' (b ++ be m n) ∧ Below B w w' := by
 apply (si.vc (a0 := s))
 have w1 : IntKind.wrap .i64 ((m : Int) - 1) = (m : Int) - 1 := ag (by unfold inI; omega)
 refine ⟨fun l x o wr => ∃ k : Nat, l = k ∧ x = (k : Int) - 1 ∧ k ≤ m ∧ ∃ pre, pre ++ be k n = be m n ∧ jX B wr o (b ++ pre) ∧ Below B w wr, ⟨m, m, rfl, w1, Nat.le_refl _, [], rfl, by rw [List.append_nil]; exact ho, Below.refl _ _⟩, ?_⟩
 rintro k us x s4 w5 ⟨k', rfl, rfl, hk, pre, hp, ho5, x5⟩
 have hlen := congrArg List.length hp
 rw [List.length_append, vt, vt] at hlen
 have hon := cJ.n (jX.vL ho5)
 rw [List.length_append] at hon
 refine Br.mk (fun hc => ?_) (fun hc => ?_)
 ·simp only [ge_iff_le, decide_eq_true_eq] at hc
  obtain ⟨j, rfl⟩ : ∃ j, k = j + 1 := ⟨k - 1, by omega⟩
  have e8 : IntKind.wrap .i64 (8 * (((j + 1 : Nat) : Int) - 1)) = 8 * (j : Int) := by rw [ag (by unfold inI; omega)]; omega
  rw [e8, JB n (by omega), wrap_u8]
  refine aK.2 ⟨xn.2 (by omega), fun w7 e7 => ?_⟩
  subst e7
  obtain ⟨hpre, hres⟩ := af.mB ho5 (bytes := 1) (news := yv (n / 256 ^ j % 256)) (.cells #[.int .u8 (n / 256 ^ j % 256)] eQ) (by have := x5.size; omega) rfl (qe _ _) (by omega) (by omega)
  refine ⟨hpre, fun s8 w9 hr => ?_⟩
  obtain ⟨f1, ho9, hn9, xb, -, -⟩ := hres s8 w9 hr
  refine ⟨f1, j, by omega, j, rfl, by rw [ag (by unfold inI; omega)]; omega, by omega, pre ++ [n / 256 ^ j % 256], ?_, ?_, x5.trans xb⟩
  ·rw [← hp, List.append_assoc]; rfl
  ·rw [← List.append_assoc]
   show af _ _ _ _ _ _
   rw [List.map_append]; exact ho9
 ·simp only [ge_iff_le, decide_eq_false_iff_not] at hc
  have : k = 0 := by omega
  subst this
  have hp' : pre = be m n := by simpa [be] using hp
  rw [hp'] at ho5
  exact ⟨s4, rfl, ho5, x5⟩
theorem xf (s : Sl) (b : List Int) (w : World) (hs : cJ w s b) (hb : ks b) (hn : b.length ≤ 4) : Calls Tryz.prog qG #[s] w fun e w' => e = .returned (.int .i64 (bz b)) ∧ w' = w := by
 apply (pR.vc (a0 := s))
 have hsn := cJ.n hs
 refine ⟨fun l i n wr => ∃ k : Nat, i = k ∧ k + l = b.length ∧ n = bz (b.take k) ∧ wr = w, ⟨b.length, 0, rfl, by omega, rfl, rfl⟩, ?_⟩
 rintro l us i n wr ⟨k, rfl, hk, rfl, rfl⟩
 refine Br.mk (fun hc => ?_) (fun hc => ?_)
 ·replace hc := eN hc
  obtain ⟨x, hx⟩ := aN (l := b) (i := k) (by omega)
  have hxb := hb x (List.mem_of_getElem? hx)
  have hm : (b.map yv)[k]? = some [.int .u8 x] := by rw [List.getElem?_map, hx]; rfl
  have hld := hs.at hm (j := 0) rfl
  rw [bf] at hld
  have wk : IntKind.wrap .i64 ((k : Int) + 1) = ((k + 1 : Nat) : Int) := by rw [wI]; omega
  have hsm := vo hb (k := k) (by omega)
  have ht : b.take (k + 1) = b.take k ++ [x] := by rw [List.take_add_one, hx]; rfl
  refine ⟨ba.eV hs (by decide) (by omega) hc, x, hld, l - 1, by omega, k + 1, wk, by omega, ?_, rfl⟩
  have e1 : IntKind.wrap .i64 (bz (b.take k) * 2 ^ (min (8 : Int).toNat 64)) = bz (b.take k) * 256 := by
   show IntKind.wrap .i64 (bz (b.take k) * 256) = _
   exact wI
  have e2 : IntKind.wrap .i64 x = x := wI
  rw [e1, e2, Fu (by omega) hxb, ht, vp]
 ·replace hc := eO hc
  rw [List.take_of_length_le (by omega)]
  exact ⟨rfl, rfl⟩
theorem zZ (v : Int) (s : Sl) (b : List Int) (w : World) (hs : cJ w s b) (hb : ks b) (hn : b.length ≤ 1099511627776) :
  Calls Tryz.prog kl #[.int .i64 v, .slice s.a s.n s.c] w fun e w' => ∃ s' : Sl, e = .returned (.tuple #[.slice s'.a s'.n s'.c, .int .i64 (tB v b).2]) ∧ jX w.heap.size w' s' (tB v b).1 ∧ Ext w w' := by
 apply (nH.vc (a1 := s))
 have hsn := cJ.n hs
 have no : (v < 1 ∨ v > 1073741824 ∨ (b.length : Int) > 65536) → ∃ s' : Sl, Ending.returned (.tuple #[.slice none 0 0, .int .i64 1]) = .returned (.tuple #[.slice s'.a s'.n s'.c, .int .i64 (tB v b).2]) ∧ jX w.heap.size w s' (tB v b).1 ∧ Ext w w := fun h => by
  have e : tB v b = ([], 1) := by unfold tB; rw [if_pos h]
  rw [e]
  exact ⟨⟨none, 0, 0⟩, rfl, af.nil, Ext.aq _⟩
 refine Br.mk (fun h => ?_) (fun h1 => Br.mk (fun h => ?_) (fun h2 => Br.mk (fun h => ?_) (fun h3 => ?_)))
 ·simp only [decide_eq_true_eq] at h; exact no (.inl h)
 ·simp only [gt_iff_lt, decide_eq_true_eq] at h; exact no (.inr (.inl h))
 ·simp only [gt_iff_lt, decide_eq_true_eq] at h; exact no (.inr (.inr (by omega)))
 ·simp only [gt_iff_lt, decide_eq_false_iff_not] at h1 h2 h3
  have e : tB v b = (sJ (Aa v b), 0) := by unfold tB; rw [if_neg (by omega)]
  rw [e]
  have p4 := zY w.heap.size ⟨none, 0, 0⟩ [] v 4 (by decide) w (Nat.le_refl _) af.nil (by simp)
  refine p4.mono ?_
  rintro e w0 ⟨s1, rfl, o1, x0⟩
  have p3 := zY w.heap.size s1 ([] ++ be 4 v) ((s.n : Nat) : Int) 3 (by decide) w0 x0.size o1 (by simp [vt])
  refine ⟨s1, rfl, p3.mono ?_⟩
  rintro e w2 ⟨s3, rfl, o3, x2⟩
  refine ⟨s3, rfl, fun w4 e4 => ?_⟩
  have x02 : Ext w w2 := x0.trans x2
  have x24 : Ext w2 w4 := (Ext.aq _).ab e4
  have x4 := x02.tr x24
  have r4 : Row w4 w2.heap.size [.slice s3.a s3.n s3.c, .slice s.a s.n s.c] JG := by rw [e4]; exact Row.new w2 [_, _] _
  have hl : ba w4 ⟨some ⟨w2.heap.size, 0, none⟩, 2, 2⟩ 1 ([(s3, [] ++ be 4 v ++ be 3 ((s.n : Nat) : Int)), (s, b)].map fun x => [.slice x.1.a x.1.n x.1.c]) := by
   refine ⟨rfl, fun r hr => by simp at hr; rcases hr with rfl | rfl <;> rfl, fun i r hi j v hj => ?_⟩
   rw [aP, Nat.zero_add, r4.ld]
   match i, hi with
   | 0, hi => cases hi; match j, hj with
     | 0, hj => cases hj; rfl
   | 1, hi => cases hi; match j, hj with
     | 0, hj => cases hj; rfl
   | i + 2, hi => simp at hi
  have hcat : mr [(s3, [] ++ be 4 v ++ be 3 ((s.n : Nat) : Int)), (s, b)] = Aa v b := by simp [mr, Aa, hsn]
  have hrl := Ab v b
  refine (sI ⟨some ⟨w2.heap.size, 0, none⟩, 2, 2⟩ [(s3, [] ++ be 4 v ++ be 3 ((s.n : Nat) : Int)), (s, b)] w4 hl (fun x hx => by
   simp only [List.mem_cons, List.not_mem_nil, or_false] at hx
   rcases hx with rfl | rfl
   ·exact ba.ext (jX.vL o3) x24
   ·exact hs.ext x4) (show 2 ≤ 1000 by decide) (by rw [hcat]; omega)).mono ?_
  rintro e w5 ⟨s6, rfl, o6, x5⟩
  rw [hcat] at o6
  refine ⟨s6, rfl, (yR s6 (Aa v b) w5 (jX.vL o6) (Cf hb) (by omega)).mono ?_⟩
  rintro e w7 ⟨s8, rfl, o8, x7⟩
  have x45 := x4.tr x5
  exact ⟨s8, rfl, s8, rfl, af.low o8 x45.size, x45.tr x7⟩
theorem Fv {b:List Int} (h:ks b):ks (gN b).1:=by
 unfold gN
 split
 ·intro c hc;cases hc
 ·split
  ·exact fun c hc=>h c (List.mem_of_mem_take hc)
  ·intro c hc;cases hc
theorem Fx (b:List Int):(gN b).1.length<=b.length:=by
 unfold gN
 split
 ·simp
 ·split
  ·simp only [List.length_take];omega
  ·simp
theorem Ij {b:List Int} (h:ks b):ks (dS b).2.1:=by
 unfold dS
 split
 ·intro c hc;cases hc
 ·split
  ·intro c hc;cases hc
  ·split
   ·intro c hc;cases hc
   ·exact fun c hc=>Fv h c (List.mem_of_mem_drop hc)
theorem Bt (b:List Int):(dS b).2.1.length<=b.length:=by
 have:=Fx b
 unfold dS
 split
 ·simp
 ·split
  ·simp
  ·split
   ·simp
   ·simp only [List.length_drop];omega
theorem Bu (s : Sl) (b : List Int) (w : World) (hs : cJ w s b) (hb : ks b) (hc : s.n ≤ s.c) (hn : b.length ≤ 1099511627776) :
  Calls Tryz.prog qp #[s] w fun e w' => ∃ s' : Sl, e = .returned (.tuple #[.int .i64 (dS b).1, s', .int .i64 (dS b).2.2]) ∧ cJ w' s' (dS b).2.1 ∧ s'.n ≤ s'.c ∧ (∀ g, s'.ax = some g → w.heap.size ≤ g) ∧ Ext w w' := by
 apply (pw.vc (a0 := s))
 refine (xH s b w hs hb hc hn).mono ?_
 rintro e w0 ⟨s1, rfl, o1, x0⟩
 have hi := Fv hb
 have hle := Fx b
 have nil : cJ w0 ⟨none, 0, 0⟩ [] := jX.vL (af.nil (B := 0))
 have h1 : dS b = if (gN b).2 ≠ 0 then (0, [], (gN b).2) else if (gN b).1.length < 7 then (0, [], 3) else if bz ((gN b).1.take 4) < 1 ∨ bz ((gN b).1.take 4) > 1073741824 ∨ bz (((gN b).1.drop 4).take 3) > 65536 ∨ bz (((gN b).1.drop 4).take 3) ≠ (((gN b).1.drop 7).length : Int) then (0, [], 2) else (bz ((gN b).1.take 4), (gN b).1.drop 7, 0) := rfl
 rw [h1]
 generalize gN b = t at *
 obtain ⟨t1, t2⟩ := t
 simp only at *
 have hon := cJ.n (jX.vL o1)
 have hoc := af.le o1
 refine ⟨s1, _, rfl, Br.mk (fun h => ?_) (fun h => ?_)⟩
 ·have : t2 ≠ 0 := by simpa using h
  rw [if_pos this]
  exact ⟨⟨none, 0, 0⟩, rfl, nil, Nat.le_refl _, (fun g hg => by cases hg), x0⟩
 ·have : t2 = 0 := by simpa using h
  subst this
  rw [if_neg (by simp)]
  refine Br.mk (fun h => ?_) (fun h => ?_)
  ·replace h := eN h
   rw [if_pos (by omega)]
   exact ⟨⟨none, 0, 0⟩, rfl, nil, Nat.le_refl _, (fun g hg => by cases hg), x0⟩
  ·replace h := eO h
   rw [if_neg (by omega)]
   have rd := ba.ext (jX.vL o1) (Ext.dr w0)
   have c4 : cJ w0.drew ⟨ai s1.a 0 s1.c 1, 4 - 0, s1.c - 0⟩ (t1.take 4) := by
    have := ba.cut rd (m := 4) (c' := s1.c) (c'' := s1.c - 0) (by rw [List.length_map]; omega)
    rw [← List.map_take] at this; exact this
   have c3 : cJ w0.drew ⟨ai s1.a 4 s1.c 1, 7 - 4, s1.c - 4⟩ ((t1.drop 4).take 3) := by
    have r4 := ba.rest rd (l := 4) (m := s1.c) (n' := t1.length - 4) (c' := s1.c - 4) (by rw [List.length_map]) (by rw [List.length_map]; omega)
    have := ba.cut r4 (m := 3) (c' := 7) (c'' := s1.c - 4) (by rw [List.length_drop, List.length_map]; omega)
    rw [bR, ← List.map_drop, ← List.map_take] at this; exact this
   have c7 : ∀ w', Ext w0 w' → cJ w' ⟨ai s1.a 7 s1.c 1, s1.n - 7, s1.c - 7⟩ (t1.drop 7) := fun w' x' => by
    have := ba.rest (ba.ext (jX.vL o1) x') (l := 7) (m := s1.c) (n' := s1.n - 7) (c' := s1.c - 7) (by rw [List.length_map]; omega) (by rw [List.length_map]; omega)
    rw [← List.map_drop] at this; exact this
   refine ⟨by omega, by omega, by omega, by omega, by omega, by omega, by omega, by omega, (xf ⟨ai s1.a 0 s1.c 1, 4 - 0, s1.c - 0⟩ _ w0.drew c4 (fun c hc => hi c (List.mem_of_mem_take hc)) (by rw [List.length_take]; omega)).mono ?_⟩
   rintro e w3 ⟨rfl, hw⟩
   subst hw
   refine ⟨_, rfl, (xf ⟨ai s1.a 4 s1.c 1, 7 - 4, s1.c - 4⟩ _ w0.drew c3 (fun c hc => hi c (List.mem_of_mem_drop (List.mem_of_mem_take hc))) (by rw [List.length_take]; omega)).mono ?_⟩
   rintro e w5 ⟨rfl, hw⟩
   subst hw
   have hbk : ∀ g, (Sl.mk (ai s1.a 7 s1.c 1) (s1.n - 7) (s1.c - 7)).ax = some g → w.heap.size ≤ g := fun g hg => by
    have : s1.ax = some g := by
     unfold Sl.ax at hg ⊢
     simp only [ai] at hg
     split at hg
     ·exact hg
     ·cases ha : s1.a with
      | none => rw [ha] at hg; cases hg
      | some a =>
        rw [ha] at hg
        simp only [Option.map_some, Option.some.injEq, Addr.add] at hg ⊢
        rw [← hg]; split <;> rfl
    exact (o1.own.lt this).1
   have xd := x0.tr (Ext.dr w0)
   have nil' : cJ w0.drew ⟨none, 0, 0⟩ [] := jX.vL (af.nil (B := 0))
   have hdl : (t1.drop 7).length = s1.n - 7 := by rw [List.length_drop]; omega
   have no : (bz (t1.take 4) < 1 ∨ bz (t1.take 4) > 1073741824 ∨ bz ((t1.drop 4).take 3) > 65536 ∨ bz ((t1.drop 4).take 3) ≠ ((t1.drop 7).length : Int)) → ∃ s' : Sl, Ending.returned (.tuple #[(0:Int), .slice none 0 0, (2:Int)]) = .returned (.tuple #[.int .i64 (if bz (t1.take 4) < 1 ∨ bz (t1.take 4) > 1073741824 ∨ bz ((t1.drop 4).take 3) > 65536 ∨ bz ((t1.drop 4).take 3) ≠ ((t1.drop 7).length : Int) then ((0 : Int), ([] : List Int), (2 : Int)) else (bz (t1.take 4), t1.drop 7, 0)).1, s', .int .i64 (if bz (t1.take 4) < 1 ∨ bz (t1.take 4) > 1073741824 ∨ bz ((t1.drop 4).take 3) > 65536 ∨ bz ((t1.drop 4).take 3) ≠ ((t1.drop 7).length : Int) then ((0 : Int), ([] : List Int), (2 : Int)) else (bz (t1.take 4), t1.drop 7, 0)).2.2]) ∧
     cJ w0.drew s' (if bz (t1.take 4) < 1 ∨ bz (t1.take 4) > 1073741824 ∨ bz ((t1.drop 4).take 3) > 65536 ∨ bz ((t1.drop 4).take 3) ≠ ((t1.drop 7).length : Int) then ((0 : Int), ([] : List Int), (2 : Int)) else (bz (t1.take 4), t1.drop 7, 0)).2.1 ∧ s'.n ≤ s'.c ∧ (∀ g, s'.ax = some g → w.heap.size ≤ g) ∧ Ext w w0.drew := fun h => by
    rw [if_pos h]
    exact ⟨⟨none, 0, 0⟩, rfl, nil', Nat.le_refl _, (fun g hg => by cases hg), xd⟩
   refine ⟨_, rfl, Br.mk (fun h => no ?_) (fun q1 => Br.mk (fun h => no ?_) (fun q2 => Br.mk (fun h => no ?_) (fun q3 => Br.mk (fun h => no ?_) (fun q4 => ?_))))⟩
   ·exact .inl (by simpa using h)
   ·exact .inr (.inl (by simpa using h))
   ·exact .inr (.inr (.inl (by simpa using h)))
   ·refine .inr (.inr (.inr ?_))
    rw [hdl]
    simpa using h
   ·simp only [gt_iff_lt, decide_eq_false_iff_not, bne_eq_false_iff_eq] at q1 q2 q3 q4
    rw [if_neg (by
     rw [hdl]
     simp only [not_or]
     exact ⟨q1, q2, q3, by rw [q4]; simp⟩)]
    exact ⟨_, rfl, c7 _ (Ext.dr w0), by simp only; omega, hbk, xd⟩
end Go.Proofs.YtalpkjfpmdpbiaaGreatDoor
namespace Go.Proofs.YtalpkjfpmdpbiaaGreatDoor
open Go Go.Vc Go.RowKit Go.Proofs Go.bQ Go.aB Go.Code
theorem CP {P : Program} {m since c0 clock r : Nat} {seen : Array Nat} {es : Array MapEntry} {w : World} {ty : TypeId} {v : Value} {w' : World} (hr : w.heap[r]? = some (.mapIter (some m) since seen c0)) (hm : w.heap[m]? = some (.map es clock))
  (h : (Instr.next (.pointer (some ⟨r, 0, none⟩)) false ty).run P w = .ok v w') : w'.tape = w.tape := by
 simp only [Instr.next, getObj, Sem.run_bind, Sem.run, hr, hm, Result.andThen] at h
 split at h
 ·cases h
 ·generalize (Array.filter (fun e => !seen.contains e.born) es) = L at h
  generalize (if (Array.filter (fun x => decide (x.born < since)) L).isEmpty = true then #[none] else #[]) ++ Array.map some (Array.filter (fun x => decide (x.born < since)) L ++ Array.filter (fun x => decide (x.born ≥ since)) L) = C at h
  have hch : ∀ j w1, (choose (Question.mapNext C.size)).run P w = .ok j w1 → w1.tape = w.tape := fun j w1 h1 => by
   by_cases hf : C.size ≤ 1
   ·simp only [choose, Sem.run, Question.forced, decide_eq_true_eq, hf, if_true] at h1
    cases h1; rfl
   ·simp only [choose, Sem.run, Question.forced, decide_eq_true_eq, hf, if_false, Question.cut] at h1
    cases h1; rfl
  rw [Sem.run_bind] at h
  cases hc : (choose (Question.mapNext C.size)).run P w with
  | ok j w1 =>
    have ht := hch j w1 hc
    rw [hc] at h
    simp only [Result.andThen] at h
    split at h
    ·rw [Sem.run_bind] at h
     simp only [setObj, Sem.run] at h
     split at h
     all_goals first
      | (simp [Result.andThen] at h; done)
      | (simp only [Result.andThen, Sem.run_pure] at h; cases h; exact ht)
    ·rw [Sem.run_pure] at h; cases h; exact ht
    ·cases h
  | _ => rw [hc] at h; cases h
def EC:Value->Int| .slice _ n _=>(n:Int)|_=>0
def bq:List MapEntry->Array Nat->Int
 | [],_=>0
 |x::l,seen=>(if seen.contains x.born then EC x.val else 0)+bq l seen
theorem oK (seen : Array Nat) (b : Nat) : ∀ (es : List MapEntry), b ∉ es.map (·.born) → bq es (seen.push b) = bq es seen
 | [], _ => rfl
 | x :: l, h => by
   have hx : (x.born == b) = false := by
    cases hc : x.born == b with
    | false => rfl
    | true => exact absurd (List.mem_cons.2 (Or.inl (beq_iff_eq.1 hc).symm)) h
   have ih := oK seen b l (fun e => h (List.mem_cons.2 (Or.inr e)))
   simp only [bq, contains_push, hx, Bool.or_false, ih]
theorem qy (seen : Array Nat) (e : MapEntry) (hs : seen.contains e.born = false) : ∀ (es : List MapEntry), (es.map (·.born)).Nodup → e ∈ es → bq es (seen.push e.born) = bq es seen + EC e.val
 | x :: l, hn, he => by
   have hn' : x.born ∉ l.map (·.born) ∧ (l.map (·.born)).Nodup := List.nodup_cons.1 hn
   rcases List.mem_cons.1 he with rfl | h
   ·rw [bq, bq, oK seen _ l hn'.1, contains_push, beq_self_eq_true, Bool.or_true, hs]
    simp; omega
   ·have hx : (x.born == e.born) = false := by
     cases hc : x.born == e.born with
     | false => rfl
     | true => exact absurd (List.mem_map.2 ⟨e, h, (beq_iff_eq.1 hc).symm⟩) hn'.1
    rw [bq, bq, qy seen e hs l hn'.2 h, contains_push, hx, Bool.or_false]
    omega
theorem qA:∀es:List MapEntry,bq es #[]=0
 | []=>rfl
 |x::l=>by rw [bq,qA l];simp
theorem AY {es:List MapEntry} (hv:∀x ∈ es,0<=EC x.val) (seen:Array Nat):0<=bq es seen/\bq es seen<=(es.map fun x=>EC x.val).sum:=by
 induction es with
 |nil=>exact ⟨Int.le_refl _,Int.le_refl _⟩
 |cons x l ih=>
  have h1:=ih fun y hy=>hv y (.tail _ hy)
  have h2:=hv x (.head _)
  rw [bq,List.map_cons,List.sum_cons]
  split<;>omega
theorem y9 (es:Array MapEntry) (seen:Array Nat) (h:(leftOf es seen).size=0):bq es.toList seen=(es.toList.map fun x=>EC x.val).sum:=by
 have hall:∀x ∈ es.toList,seen.contains x.born=true:=by
  intro x hx
  cases hc:seen.contains x.born with
  |true=>rfl
  |false=>
   have:x ∈ leftOf es seen:=Array.mem_filter.2 ⟨Array.mem_toList_iff.1 hx,by rw [hc];rfl⟩
   have h0:=Array.eq_empty_of_size_eq_zero h
   rw [h0]at this
   simp at this
 generalize es.toList=l at hall
 induction l with
 |nil=>rfl
 |cons x l ih=>
  rw [bq,hall x (.head _),List.map_cons,List.sum_cons,ih fun y hy=>hall y (.tail _ hy)]
  simp
set_option maxRecDepth 1000000 in
theorem AZ (bm : Nat) (es : Array MapEntry) (clock : Nat) (w : World) (hb : w.heap[bm]? = some (.map es clock)) (hst : MapKept.Stamped es clock) (hv : ∀ x ∈ es.toList, ∃ a n c, x.val = .slice a n c) (hs : (es.toList.map fun x => EC x.val).sum ≤ 1099511627776) :
  Calls Tryz.prog 233 #[.map (some bm)] w fun e w' => e = .returned (.int .i64 ((es.toList.map fun x => EC x.val).sum)) ∧ ∃ (w1 : World) (seen : Array Nat), w1.Alike w ∧ w1.tape = w.tape ∧ w' = w1.alloc (.mapIter (some bm) clock seen clock) := by
 have hrg := run_range_map (P := Tryz.prog) w 259 xN 132 bm es clock Tryz.underlying259 hb
 have hnn : ∀ x ∈ es.toList, 0 ≤ EC x.val := fun x hx => by
  obtain ⟨a, n, c, e⟩ := hv x hx
  rw [e]; exact Int.natCast_nonneg n
 go_enter Tryz.func233, Tryz.ntmps233
 go_wp2
 go_loopw [3] (fun s w' => ∃ (w1 : World) (seen : Array Nat), w1.Alike w ∧ w1.tape = w.tape ∧ w' = w1.alloc (.mapIter (some bm) clock seen clock) ∧ s = .int .i64 (bq es.toList seen)) (fun _ w' => (leftOf es (w'.iterSeen w.heap.size)).size)
 case atStart => exact ⟨w, #[], ⟨rfl, rfl, rfl⟩, rfl, rfl, by rw [qA]⟩
 case round =>
  obtain ⟨w1, seen, hal, htp, rfl, rfl⟩ := hrel
  have hsz : w1.heap.size = w.heap.size := by rw [hal.1]
  have hb1 : w1.heap[bm]? = some (.map es clock) := by rw [hal.1]; exact hb
  have law := run_next_map (P := Tryz.prog) w1 0 bm clock clock seen es clock hb1 hst.1 (Nat.le_refl _)
  rw [hsz] at law
  rcases law with ⟨h0, hrun⟩ | ⟨e, he, w2, hal2, hrun⟩
  ·have hnx : ∀ ty, (Instr.next (.pointer (some ⟨w.heap.size, 0, none⟩)) false ty).run Tryz.prog (w1.alloc (.mapIter (some bm) clock seen clock)) = _ := fun _ => hrun
   go_wp2
   go_ret
   rw [y9 es seen h0]
   exact ⟨rfl, w1, seen, hal, htp, rfl⟩
  ·obtain ⟨va, vn, vc, hval⟩ := hv e (mem_left he).1
   have hr1 : (w1.alloc (.mapIter (some bm) clock seen clock)).heap[w.heap.size]? = some (.mapIter (some bm) clock seen clock) := by rw [← hsz]; exact heap_alloc_new w1 _
   have hm1 : (w1.alloc (.mapIter (some bm) clock seen clock)).heap[bm]? = some (.map es clock) := by rw [heap_alloc_old w1 _ (by have := (Array.getElem?_eq_some_iff.1 hb1).1; omega)]; exact hb1
   have htp2 : w2.tape = w1.tape := by have := CP hr1 hm1 hrun; exact this
   rw [hval] at hrun
   have hnx : ∀ ty, (Instr.next (.pointer (some ⟨w.heap.size, 0, none⟩)) false ty).run Tryz.prog (w1.alloc (.mapIter (some bm) clock seen clock)) = _ := fun _ => hrun
   have hsz2 : w2.heap.size = w.heap.size := by rw [hal2.1, hal.1]
   have hb2 : w2.heap[bm]? = some (.map es clock) := by rw [hal2.1]; exact hb1
   have hen := run_entry_map (P := Tryz.prog) w2 bm clock seen es clock e hb2 (mem_left he).1 hst.2.1
   rw [hsz2, hval] at hen
   go_wp2
   go_roundw
   case rel =>
    refine ⟨w2, seen.push e.born, ⟨hal2.1.trans hal.1, hal2.2.1.trans hal.2.1, hal2.2.2.trans hal.2.2⟩, htp2.trans htp, rfl, ?_⟩
    have hp := qy seen e (mem_left he).2 es.toList hst.2.1 (mem_left he).1
    have hbd := AY hnn (seen.push e.born)
    rw [hval] at hp
    have hp : bq es.toList (seen.push e.born) = bq es.toList seen + (vn : Int) := hp
    have hw : Go.RowKit.wrap64 (bq es.toList seen + (vn : Int)) = bq es.toList (seen.push e.born) := by
     unfold Go.RowKit.wrap64
     omega
    exact congrArg _ hw
   case measure =>
    rw [← hsz2, World.iterSeen_alloc, hsz2, ← hsz, World.iterSeen_alloc]
    exact left_shrinks es seen e he
end Go.Proofs.YtalpkjfpmdpbiaaGreatDoor
namespace Go.Proofs.YtalpkjfpmdpbiaaGreatDoor
open Go Go.Vc Go.RowKit Go.Proofs Go.bQ Go.aB Go.Code
abbrev tW:TypeId:=289
abbrev Bl:=Int × Sl × List Int
def kf (x:Bl):Value × Value:=(x.1,.slice x.2.1.a x.2.1.n x.2.1.c)
abbrev wV (x:Bl):List Value:=[.int .i64 x.1,.slice x.2.1.a x.2.1.n x.2.1.c]
abbrev kb (x:Bl):iH:=(x.1,x.2.2)
structure A1 (w:World) (x:Bl):Prop where
 o:jX 0 w x.2.1 x.2.2
 b:ks x.2.2
structure Dm where
 r:Nat
 ls:Sl
 E:List Bl
 W:List Bl
structure DO (w : World) (d : Nat) (m : Dm) (D : Dk) : Prop where
 rd : Row w d [D.room, D.dW, D.wait, .map (some m.r), .slice m.ls.a m.ls.n m.ls.c] mP
 rm : aJ GI w (some m.r) (m.E.map kf)
 ol : af 0 tW 2 w m.ls (m.W.map wV)
 sf : (m.E.map kb).Perm D.safe
 sl : m.W.map kb = D.l
 bl : ∀ x ∈ m.E ++ m.W, A1 w x
 ok : ke D
def dF (d:Nat) (m:Dm) (i:Nat):Prop:=i=d\/i=m.r\/m.ls.ax=some i\/∃x ∈ m.E++m.W,x.2.1.ax=some i
theorem DO.lt {w : World} {d : Nat} {m : Dm} {D : Dk} (h : DO w d m D) {i : Nat} (hi : dF d m i) : i < w.heap.size := by
 rcases hi with rfl | rfl | e | ⟨x, hx, e⟩
 ·exact h.rd.lt
 ·exact h.rm.lt
 ·exact (h.ol.own.lt e).2
 ·exact ((h.bl x hx).o.own.lt e).2
theorem DO.same {w w' : World} {d : Nat} {m : Dm} {D : Dk} (h : DO w d m D) (hs : ∀ i, dF d m i → w'.heap[i]? = w.heap[i]?) : DO w' d m D :=
 ⟨h.rd.same (hs _ (.inl rfl)), h.rm.same (hs _ (.inr (.inl rfl))), af.bC h.ol fun b hb => hs b (.inr (.inr (.inl hb))), h.sf, h.sl, fun x hx => ⟨af.bC (h.bl x hx).o fun b hb => hs b (.inr (.inr (.inr ⟨x, hx, hb⟩))), (h.bl x hx).b⟩, h.ok⟩
theorem DO.ext {w w' : World} {d : Nat} {m : Dm} {D : Dk} (h : DO w d m D) (x : Ext w w') : DO w' d m D := h.same fun i hi => x.heap (h.lt hi)
theorem DO.nW {w : World} {d : Nat} {m : Dm} {D : Dk} (h : DO w d m D) : m.ls.n = m.W.length ∧ m.W.length = D.l.length := by
 have h1 := (h.ol.rd (by decide)).n
 rw [List.length_map] at h1
 exact ⟨h1, by rw [← h.sl, List.length_map]⟩
theorem DO.kind {w : World} {d : Nat} {m : Dm} {D : Dk} (h : DO w d m D) {i : Nat} (hi : dF d m i) : aJ GI w (some i) (m.E.map kf) ∨ ∃ cs τ, Row w i cs τ ∧ (τ = mP ∨ τ = tW ∨ τ = eQ) := by
 rcases hi with e | e | e | ⟨x, hx, e⟩
 ·exact .inr ⟨_, _, e ▸ h.rd, .inl rfl⟩
 ·exact .inl (e ▸ h.rm)
 ·obtain ⟨cs, hr⟩ := au h.ol (by decide) e
  exact .inr ⟨_, _, hr, .inr (.inl rfl)⟩
 ·obtain ⟨cs, hr⟩ := au (h.bl x hx).o (by decide) e
  exact .inr ⟨_, _, hr, .inr (.inr rfl)⟩
theorem ED (E : List Bl) (x : Bl) : py (E.map kf) (x.1) (.slice x.2.1.a x.2.1.n x.2.1.c) = (xD (fun y : Bl => y.1) E x).map kf := by
 have key : ∀ y : Bl, (kf y).1 = .int .i64 x.1 ↔ y.1 = x.1 := fun y => by unfold kf; simp
 have ex : (∃ e ∈ E.map kf, e.1 = Value.int .i64 x.1) ↔ ∃ y ∈ E, y.1 = x.1 := by
  constructor
  ·rintro ⟨e, he, q⟩
   obtain ⟨y, hy, rfl⟩ := List.mem_map.1 he
   exact ⟨y, hy, (key y).1 q⟩
  ·rintro ⟨y, hy, q⟩
   exact ⟨_, List.mem_map.2 ⟨y, hy, rfl⟩, (key y).2 q⟩
 unfold py xD
 by_cases h : ∃ y ∈ E, y.1 = x.1
 ·rw [if_pos (ex.2 h), if_pos h, List.map_map, List.map_map]
  refine List.map_congr_left fun y _ => ?_
  simp only [Function.comp]
  by_cases q : y.1 = x.1
  ·rw [if_pos ((key y).2 q), if_pos q]; unfold kf; rw [q]
  ·rw [if_neg fun q' => q ((key y).1 q'), if_neg q]
 ·rw [if_neg fun q => h (ex.1 q), if_neg h, List.map_append]; rfl
theorem A2 {l s : List iH} {k : Nat} {x : iH} (h : l[k]? = some x) : (l.take (k + 1)).foldl lay s = lay ((l.take k).foldl lay s) x := by
 rw [List.take_add_one, h, List.foldl_append]; rfl
set_option maxRecDepth 100000 in
theorem rU {w : World} {d : Nat} {m : Dm} {D : Dk} (h : DO w d m D) (hW : D.l.length ≤ 1000000000) : Calls Tryz.prog gT #[.pointer (some ⟨d, 0, none⟩)] w fun e w' => ∃ (r' : Nat) (E' : List Bl), e = .returned (.map (some r')) ∧ aJ GI w' (some r') (E'.map kf) ∧ (E'.map kb).Perm (kG D) ∧ (∀ x ∈ E', x ∈ m.E ++ m.W) ∧ Ext w w' ∧ w.heap.size ≤ r' := by
 apply kd.vc
 obtain ⟨n1, n2⟩ := h.nW
 refine ⟨some m.r, h.rd.at 3 rfl, (uN h.rm).mono ?_⟩
 rintro e w1 ⟨rfl, hm, x1⟩
 refine ⟨_, rfl, m.ls, (h.ext x1).rd.at 4 rfl, fun n i wr => ∃ (k : Nat) (E' : List Bl), i = k ∧ k + n = m.W.length ∧ aJ GI wr (some w.heap.size) (E'.map kf) ∧ (E'.map kb).Perm ((D.l.take k).foldl lay D.safe) ∧ (∀ x ∈ E', x ∈ m.E ++ m.W) ∧ Ext w wr,
  ⟨m.W.length, 0, m.E, rfl, by omega, hm, h.sf, fun x hx => List.mem_append.2 (.inl hx), x1⟩, ?_⟩
 rintro n us i wr ⟨k, E', rfl, hk, hm, hp, hsub, xr⟩
 refine Br.mk (fun hc => ?_) (fun hc => ?_)
 ·replace hc := eN hc
  obtain ⟨x, hx⟩ := aN (l := m.W) (i := k) (by omega)
  have hr := (h.ext xr).ol.rd (show 0 < 2 by decide)
  have hm2 : (m.W.map wV)[k]? = some (wV x) := by rw [List.getElem?_map, hx]; rfl
  have wk : IntKind.wrap .i64 ((k : Int) + 1) = ((k + 1 : Nat) : Int) := by rw [wI]; omega
  have hl : D.l[k]? = some (kb x) := by rw [← h.sl, List.getElem?_map, hx]; rfl
  refine ⟨ba.eV hr (by decide) (by omega) hc, x.1, x.2.1, ba.aX hr hm2, fun w12 e12 w13 e13 => ?_⟩
  have x13 : Ext wr w13 := ((Ext.aq _).ab e12).ah e13 (Nat.le_refl _)
  refine ⟨GI, E'.map kf, xY, rfl, hm.same (x13.heap hm.lt), ⟨_, rfl⟩, fun w16 hrec hm16 => ?_⟩
  rw [ED] at hm16
  refine ⟨n - 1, by omega, k + 1, _, wk, by omega, hm16, ?_, fun y hy => ?_, (Mod.rV hrec).ext (xr.tr x13) fun i hi => by rw [hi]; exact Nat.le_refl _⟩
  ·rw [A2 hl]
   exact D8 (f := fun y : Bl => y.1) (g := fun y : Bl => y.2.2) x hp (nA _ h.ok.nd)
  ·rcases D7 hy with rfl | hy
   ·exact List.mem_append.2 (.inr (List.mem_of_getElem? hx))
   ·exact hsub y hy
 ·replace hc := eO hc
  rw [List.take_of_length_le (by omega)] at hp
  exact ⟨w.heap.size, E', rfl, hm, hp, hsub, xr, Nat.le_refl _⟩
theorem EE (E:List Bl):((je (E.map kb):Nat):Int)=(E.map fun x=>(x.2.2.length:Int)).sum:=by
 induction E with
 |nil=>rfl
 |cons x t ih=>
  rw [List.map_cons,kH,List.map_cons,List.sum_cons,<-ih]
  have:(kb x).2.length=x.2.2.length:=rfl
  omega
theorem zc {w : World} {r : Nat} {E : List Bl} (hm : aJ GI w (some r) (E.map kf)) (hb : ∀ x ∈ E, A1 w x) (hn : je (E.map kb) ≤ 1099511627776) : Calls Tryz.prog lK #[.map (some r)] w fun e w' => e = .returned (.int .i64 (je (E.map kb) : Nat)) ∧ Ext w w' := by
 obtain ⟨es, clock, h1, h2, h3, h4, h5, h6⟩ := hm
 have hk : es.toList.map (·.key) = (E.map kf).map (·.1) := by rw [← h2, List.map_map]; rfl
 have hv : ∀ x ∈ es.toList, ∃ y ∈ E, x.val = .slice y.2.1.a y.2.1.n y.2.1.c := fun x hx => by
  have : (x.key, x.val) ∈ E.map kf := by rw [← h2]; exact List.mem_map.2 ⟨x, hx, rfl⟩
  obtain ⟨y, hy, e⟩ := List.mem_map.1 this
  refine ⟨y, hy, ?_⟩
  have := congrArg Prod.snd e
  exact this.symm
 have hs : (es.toList.map fun x => EC x.val).sum = (je (E.map kb) : Nat) := by
  rw [EE]
  have e1 : (es.toList.map fun x => EC x.val) = (E.map kf).map fun e => EC e.2 := by rw [← h2, List.map_map]; rfl
  rw [e1, List.map_map]
  congr 1
  refine List.map_congr_left fun x hx => ?_
  show ((x.2.1.n : Nat) : Int) = _
  rw [cJ.n (jX.vL (hb x hx).o)]
 have hst : MapKept.Stamped es clock := ⟨h6, h5.imp fun h => Nat.ne_of_lt h, by rw [hk]; exact h4⟩
 refine (AZ r es clock w h1 hst (fun x hx => by obtain ⟨y, _, e⟩ := hv x hx; exact ⟨_, _, _, e⟩) (by rw [hs]; omega)).mono ?_
 rintro e w' ⟨rfl, w1, seen, ⟨a1, a2, a3⟩, a4, rfl⟩
 refine ⟨by rw [hs], ?_⟩
 have x1 : Ext w w1 := ⟨a2, a4, a3, by rw [a1]; exact Nat.le_refl _, fun i _ => by rw [a1]⟩
 exact x1.ab rfl
theorem ze {E : List Bl} {s : List iH} (hp : (E.map kb).Perm s) (hn : (dw s).Nodup) (k : Int) (w : World) (hb : ∀ x ∈ E, A1 w x) : ∃ (t : Sl) (b : Bool), vP (E.map kf) (k) (.slice none 0 0) (t) b ∧ jX 0 w t ((iC s k).getD []) ∧ ks ((iC s k).getD []) ∧ b = (iC s k).isSome := by
 have hne : (dw (E.map kb)).Nodup := (hp.map fun x : iH => x.1).nodup_iff.2 hn
 rw [← CT hp hne]
 cases q : iC (E.map kb) k with
 | none =>
   refine ⟨⟨none, 0, 0⟩, false, .inr ⟨rfl, rfl, fun e he => ?_⟩, af.nil, (fun c hc => by cases hc), rfl⟩
   obtain ⟨x, hx, rfl⟩ := List.mem_map.1 he
   have := rW.1 q (kb x) (List.mem_map.2 ⟨x, hx, rfl⟩)
   unfold kf
   simpa using this
 | some b =>
   obtain ⟨x, hx, e⟩ := List.mem_map.1 ((rX hne).1 q)
   have e1 : x.1 = k := congrArg Prod.fst e
   have e2 : x.2.2 = b := congrArg Prod.snd e
   refine ⟨x.2.1, true, .inl ⟨rfl, List.mem_map.2 ⟨x, hx, by unfold kf; rw [e1]⟩⟩, ?_, ?_, rfl⟩
   ·have := (hb x hx).o
    rw [e2] at this; exact this
   ·have := (hb x hx).b
    rw [e2] at this; exact this
theorem xZ {s:List iH} (hn:(dw s).Nodup) (k:Int):((iC s k).getD []).length<=je s:=by
 have:=sT hn k;omega
theorem CU {w : World} {d : Nat} {m : Dm} {D : Dk} (h : DO w d m D) (hW : D.l.length ≤ 1000000000) (k : Int) : Calls Tryz.prog mb #[.pointer (some ⟨d, 0, none⟩), k] w fun e w' => ∃ (s : Sl) (b : Bool), e = .returned (.tuple #[s, .bool b]) ∧ jX w.heap.size w' s (getD D k) ∧ ks (getD D k) ∧ (getD D k).length ≤ 1048576 ∧ Ext w w' := by
 apply kc.vc
 refine (rU h hW).mono ?_
 rintro e w0 ⟨r', E', rfl, hm, hp, hsub, x0, hr⟩
 have hb : ∀ x ∈ E', A1 w0 x := fun x hx => (h.ext x0).bl x (hsub x hx)
 obtain ⟨t, b, hl, ho, hby, -⟩ := ze hp h.ok.now k w0 hb
 have hle := xZ h.ok.now k
 have hnl := h.ok.Gt
 have hrm := h.ok.r
 refine ⟨_, rfl, GI, _, xY, hm, ⟨k, rfl⟩, t, b, hl, (jB t _ w0 (jX.vL ho) (by omega)).mono ?_⟩
 rintro e w6 ⟨s7, rfl, o7, x6⟩
 refine ⟨s7, rfl, s7, b, rfl, af.low o7 x0.size, hby, ?_, x0.tr x6⟩
 show ((iC (kG D) k).getD []).length ≤ _
 omega
theorem DO.row {w w' : World} {d : Nat} {m : Dm} {D : Dk} (h : DO w d m D) {F W : Int} (hm : Mod (fun i => i = d) w w') (hr : Row w' d [D.room, F, W, .map (some m.r), .slice m.ls.a m.ls.n m.ls.c] mP) (hok : ke { D with dW := F, wait := W }) : DO w' d m { D with dW := F, wait := W } := by
 refine ⟨hr, hm.map h.rm fun e => h.rd.dY h.rm e.symm, hm.cr h.ol fun b hb e => ?_, h.sf, h.sl, fun x hx => ⟨hm.cr (h.bl x hx).o fun b hb e => ?_, (h.bl x hx).b⟩, hok⟩
 ·obtain ⟨cs, hr'⟩ := au h.ol (by decide) hb
  exact hr'.ne h.rd (by decide) e
 ·obtain ⟨cs, hr'⟩ := au (h.bl x hx).o (by decide) hb
  exact hr'.ne h.rd (by decide) e
theorem sU {w : World} {d : Nat} {m : Dm} {D : Dk} (h : DO w d m D) : Calls Tryz.prog cR #[.pointer (some ⟨d, 0, none⟩)] w fun e w' => e = .returned (.bool (ey D).2) ∧ DO w' d m (ey D).1 ∧ Mod (fun i => i = d) w w' := by
 apply fV.vc
 have hok := h.ok.ask
 have hw := h.ok.w
 have hf := h.ok.f
 refine ⟨D.wait, h.rd.at 2 rfl, Br.mk (fun hc => ?_) (fun hc => ?_)⟩
 ·simp only [gt_iff_lt, decide_eq_true_eq] at hc
  have e : ey D = ({ D with wait := 0 }, false) := by unfold ey; rw [if_pos hc]
  have e1 : IntKind.wrap .i64 (D.wait - 1) = 0 := by rw [wI]; omega
  rw [e] at hok ⊢
  obtain ⟨p1, p2⟩ := h.rd.iR (j := 2) (v := .int .i64 0) (by simp) rfl
  refine ⟨_, h.rd.at 2 rfl, ?_⟩
  rw [e1]
  refine ⟨⟨rfl, p1⟩, fun w2 e2 => ⟨rfl, ?_⟩⟩
  obtain ⟨q1, q2⟩ := p2 w2 e2
  exact ⟨h.row q2 q1 hok, q2⟩
 ·simp only [gt_iff_lt, decide_eq_false_iff_not] at hc
  refine ⟨D.dW, h.rd.at 1 rfl, Br.mk (fun hc2 => ?_) (fun hc2 => ?_)⟩
  ·simp only [gt_iff_lt, decide_eq_true_eq] at hc2
   have e : ey D = ({ D with dW := D.dW - 1 }, true) := by unfold ey; rw [if_neg hc, if_pos hc2]
   rw [e] at hok ⊢
   obtain ⟨p1, p2⟩ := h.rd.iR (j := 1) (v := .int .i64 (IntKind.wrap .i64 (D.dW - 1))) (by simp) rfl
   refine ⟨_, h.rd.at 1 rfl, ⟨rfl, p1⟩, fun w2 e2 => ⟨by rw [decide_eq_true hc2], ?_⟩⟩
   obtain ⟨q1, q2⟩ := p2 w2 e2
   have e1 : IntKind.wrap .i64 (D.dW - 1) = D.dW - 1 := wI
   rw [e1] at q1
   exact ⟨h.row q2 q1 hok, q2⟩
  ·simp only [gt_iff_lt, decide_eq_false_iff_not] at hc2
   have e : ey D = (D, false) := by unfold ey; rw [if_neg hc, if_neg hc2]
   rw [e]
   exact ⟨by rw [decide_eq_false hc2], h, Mod.refl _ _⟩
end Go.Proofs.YtalpkjfpmdpbiaaGreatDoor
namespace Go.Proofs.YtalpkjfpmdpbiaaGreatDoor
open Go Go.Vc Go.RowKit Go.Proofs Go.bQ Go.aB Go.Code
theorem qh {w:World} {p:Option Addr} {v:Value} (h:ld w p=some v):aj w p 0 [v]:=by
 show ld w (ae p 0)=_
 rw [bf];exact h
theorem A8 (k:Int) (a:Option Addr) (n c:Nat):One [Value.int .i64 k,Value.slice a n c]:=by
 intro v hv
 simp at hv
 rcases hv with rfl|rfl<;>rfl
theorem BY (D:Dk):kG (ey D).1=kG D:=by
 obtain ⟨e1,e2,-⟩:=fE D
 unfold kG;rw [e1,e2]
theorem DO.Hh {w : World} {d : Nat} {m : Dm} {D : Dk} (h : DO w d m D) : ∀ b, m.ls.ax = some b → b ≠ d := fun b hb => by
 obtain ⟨cs, hr⟩ := au h.ol (by decide) hb
 exact hr.ne h.rd (by decide)
def HW (w : World) (d : Nat) (m : Dm) (D : Dk) (w' : World) : Prop := ∃ m', DO w' d m' D ∧ Mod (fun i => i = d ∨ m.ls.ax = some i) w w' ∧ (∀ i, dF d m' i → dF d m i ∨ w.heap.size ≤ i) ∧ ∀ i, m'.ls.ax = some i → m.ls.ax = some i ∨ w.heap.size ≤ i
set_option maxRecDepth 100000 in
theorem C1 {w : World} {d : Nat} {m : Dm} {D : Dk} (h : DO w d m D) (hW : D.l.length ≤ 1000000000) (key : Int) (s : Sl) (b : List Int) (hs : cJ w s b) (hb : ks b) (hn : b.length ≤ 1099511627776) (hsd : s.ax ≠ some d) :
  Calls Tryz.prog g7 #[.pointer (some ⟨d, 0, none⟩), key, s] w fun e w' => e = .returned (.int .i64 (ir D key b).2) ∧ HW w d m (ir D key b).1 w' := by
 apply (ki.vc (a2 := s))
 have hsn := cJ.n hs
 refine (sU h).mono ?_
 rintro e w0 ⟨rfl, h0, m0⟩
 have z0 := m0.size
 have m0' : Mod (fun i => i = d ∨ m.ls.ax = some i) w w0 := m0.mono fun i _ hi => .inl hi
 refine ⟨_, rfl, Br.mk (fun hf => ?_) (fun hf => ?_)⟩
 ·have e : ir D key b = ((ey D).1, 9) := by unfold ir; rw [if_pos hf]
  rw [e]
  exact ⟨rfl, m, h0, m0', fun i hi => .inl hi, fun i hi => .inl hi⟩
 obtain ⟨e1, e2, e3⟩ := fE D
 have Ap : cJ w0 s b := m0.Ix (by decide) hs fun _ g hg e => hsd (e ▸ hg)
 refine (rU h0 (by rw [e2]; exact hW)).mono ?_
 rintro e w2 ⟨r', E', rfl, hm2, hp, hsub, x2, hr'⟩
 rw [BY] at hp
 have hnd := h.ok.now
 have hnl := h.ok.Gt
 have hrm := h.ok.r
 have hbE : ∀ x ∈ E', A1 w2.drew x := fun x hx => (h0.ext (x2.tr (Ext.dr w2))).bl x (hsub x hx)
 have hm2' : aJ GI w2.drew (some r') (E'.map kf) := hm2.same ((Ext.dr w2).heap hm2.lt)
 obtain ⟨t, tb, hl, hto, htb, -⟩ := ze hp hnd key w2.drew hbE
 have htn := cJ.n (jX.vL hto)
 have hll := ES hnd (key, b)
 have hlE : je (E'.map kb) = je (kG D) := wP hp
 simp only at hll
 have hg : ((iC (kG D) key).getD []).length ≤ je (kG D) := xZ hnd key
 rw [← htn] at hll hg
 have wl : IntKind.wrap .i64 (((je (E'.map kb) : Nat) : Int) - ((t.n : Nat) : Int)) = ((je (kG D) : Nat) : Int) - t.n := by rw [hlE, wI]
 have wr : IntKind.wrap .i64 (D.room - ((s.n : Nat) : Int)) = D.room - s.n := wI
 have hd0 : ∀ {v : World}, Ext w0 v → ld v (ae (some ⟨d, 0, none⟩) 0) = some (.int .i64 D.room) := fun x => by
  have := (h0.ext x).rd.at 0 rfl
  rw [e3] at this; exact this
 have x2d := x2.tr (Ext.dr w2)
 have hby := zc (w := w2.drew) hm2' hbE (by rw [hlE]; omega)
 refine ⟨_, rfl, D.room, hd0 x2d, ?_, ?_⟩
 ·refine hby.mono ?_
  rintro e v ⟨rfl, xv⟩
  have xv0 := x2d.tr xv
  refine ⟨_, rfl, qh (hd0 xv0), GI, _, xY, hm2'.same (xv.heap hm2'.lt), ⟨key, rfl⟩, t, tb, hl, qh (hd0 xv0), ?_⟩
  rw [wl, wr]
  refine Br.mk (fun hc => ?_) (fun hc => ?_)
  ·simp only [gt_iff_lt, decide_eq_true_eq] at hc
   have e : ir D key b = ((ey D).1, 8) := by unfold ir; rw [if_neg (by rw [hf]; decide), if_pos (by omega)]
   rw [e]
   have zv := xv0.size
   exact ⟨rfl, m, h0.ext xv0, m0'.trans (Mod.ar xv0), fun i hi => .inl hi, fun i hi => .inl hi⟩
  ·simp only [gt_iff_lt, decide_eq_false_iff_not] at hc
   have e : ir D key b = ({ (ey D).1 with l := D.l ++ [(key, b)] }, 0) := by unfold ir; rw [if_neg (by rw [hf]; decide), if_neg (by omega)]
   have hok := h.ok.put key b
   rw [e] at hok ⊢
   have xvd := xv0.tr (Ext.dr v)
   refine ⟨m.ls, (h0.ext xvd).rd.at 4 rfl, (jB s b v.drew (Ap.ext xvd) hn).mono ?_⟩
   rintro e w12 ⟨s13, rfl, o13, x12⟩
   have x012 := xvd.tr x12
   have h12 := h0.ext x012
   obtain ⟨n1, n2⟩ := h12.nW
   rw [e2] at n2
   refine ⟨s13, rfl, qh (h12.rd.at 4 rfl), fun w14 e14 => ?_⟩
   subst e14
   obtain ⟨hp2, hres⟩ := af.mB h12.ol (bytes := 32) (news := wV (key, s13, b)) (.cells #[key, s13] tW) (Nat.zero_le _) rfl (A8 _ _ _ _) (by omega) (by omega)
   refine ⟨hp2, fun s15 w16 hr => ?_⟩
   obtain ⟨f1, ho16, hn16, xb, hk16, hblk⟩ := hres s15 w16 hr
   have m16 : Mod (fun j => m.ls.ax = some j) w12 w16 := Mod.oT xb hk16
   have rd16 := m16.row h12.rd fun q => h12.Hh _ q rfl
   obtain ⟨p1, p2⟩ := rd16.iR (j := 4) (v := .slice s15.a s15.n s15.c) (by simp) rfl
   have z12 := x012.size
   have hdl := h.rd.lt
   refine ⟨f1, ⟨rfl, p1⟩, fun q => ?_, fun w17 e17 => ⟨rfl, { m with ls := s15, W := m.W ++ [(key, s13, b)] }, ?_, ?_, ?_, ?_⟩⟩
   ·rw [br] at q
    have : d = w12.heap.size := by simpa [bD] using q
    omega
   ·obtain ⟨q1, q2⟩ := p2 w17 e17
    have mm : Mod (fun j => j = d ∨ m.ls.ax = some j) w12 w17 := (m16.mono fun i _ hi => .inr hi).trans (q2.mono fun i _ hi => .inl hi)
    have off : ∀ {g : Nat} {cs : List Value} {τ : TypeId}, Row w12 g cs τ → τ ≠ mP → τ ≠ tW → ¬ (g = d ∨ m.ls.ax = some g) := fun hr' t1 t2 q => by
     rcases q with q | q
     ·exact hr'.ne h12.rd t1 q
     ·obtain ⟨cs', hr2⟩ := au h12.ol (by decide) q
      exact hr'.ne hr2 t2 rfl
    refine ⟨q1, mm.map h12.rm fun q => ?_, ?_, h12.sf, ?_, fun x hx => ?_, hok⟩
    ·rcases q with q | q
     ·exact h12.rd.dY h12.rm q.symm
     ·obtain ⟨cs', hr2⟩ := au h12.ol (by decide) q
      exact hr2.dY h12.rm rfl
    ·show af 0 tW 2 w17 s15 ((m.W ++ [(key, s13, b)]).map wV)
     rw [List.map_append]
     refine q2.cr ho16 fun g hg => ?_
     obtain ⟨cs', hr2⟩ := au ho16 (by decide) hg
     exact hr2.ne rd16 (by decide)
    ·show (m.W ++ [(key, s13, b)]).map kb = D.l ++ [(key, b)]
     rw [List.map_append, h.sl]; rfl
    ·have hx : x ∈ m.E ++ m.W ∨ x = (key, s13, b) := by
      simp only [List.mem_append, List.mem_cons, List.not_mem_nil, or_false] at hx ⊢
      rcases hx with hx | hx | hx
      ·exact .inl (.inl hx)
      ·exact .inl (.inr hx)
      ·exact .inr hx
     have hbx : A1 w12 x := by
      rcases hx with hx | rfl
      ·exact h12.bl x hx
      ·exact ⟨af.low o13 (Nat.zero_le _), hb⟩
     refine ⟨mm.cr hbx.o fun g hg => ?_, hbx.b⟩
     obtain ⟨cs', hr2⟩ := au hbx.o (by decide) hg
     exact off hr2 (by decide) (by decide)
   ·obtain ⟨q1, q2⟩ := p2 w17 e17
    refine (m0'.trans (Mod.ar x012)).trans ((m16.mono fun i _ hi => .inr hi).trans (q2.mono fun i _ hi => .inl hi))
   ·rintro i (q | q | q | ⟨x, hx, q⟩)
    ·exact .inl (.inl q)
    ·exact .inl (.inr (.inl q))
    ·rcases hblk with q' | q'
     ·exact .inl (.inr (.inr (.inl (by rw [← q']; exact q))))
     ·rw [q'] at q; cases q; exact .inr (by omega)
    ·simp only [List.mem_append, List.mem_cons, List.not_mem_nil, or_false] at hx
     rcases hx with hx | hx | rfl
     ·exact .inl (.inr (.inr (.inr ⟨x, List.mem_append.2 (.inl hx), q⟩)))
     ·exact .inl (.inr (.inr (.inr ⟨x, List.mem_append.2 (.inr hx), q⟩)))
     ·have := (o13.own.lt q).1
      have zv := xvd.size
      exact .inr (by omega)
   ·intro i q
    rcases hblk with q' | q'
    ·exact .inl (by rw [← q']; exact q)
    ·have q : s15.ax = some i := q
     rw [q'] at q; cases q; exact .inr (by omega)
 ·refine ⟨GI, _, xY, hm2', ⟨key, rfl⟩, t, tb, hl, qh (hd0 x2d), hby.mono ?_⟩
  rintro e v ⟨rfl, xv⟩
  have xv0 := x2d.tr xv
  refine ⟨_, rfl, qh (hd0 xv0), ?_⟩
  rw [wl, wr]
  refine Br.mk (fun hc => ?_) (fun hc => ?_)
  ·simp only [gt_iff_lt, decide_eq_true_eq] at hc
   have e : ir D key b = ((ey D).1, 8) := by unfold ir; rw [if_neg (by rw [hf]; decide), if_pos (by omega)]
   rw [e]
   have zv := xv0.size
   exact ⟨rfl, m, h0.ext xv0, m0'.trans (Mod.ar xv0), fun i hi => .inl hi, fun i hi => .inl hi⟩
  ·simp only [gt_iff_lt, decide_eq_false_iff_not] at hc
   have e : ir D key b = ({ (ey D).1 with l := D.l ++ [(key, b)] }, 0) := by unfold ir; rw [if_neg (by rw [hf]; decide), if_neg (by omega)]
   have hok := h.ok.put key b
   rw [e] at hok ⊢
   have xvd := xv0.tr (Ext.dr v)
   refine ⟨m.ls, (h0.ext xvd).rd.at 4 rfl, (jB s b v.drew (Ap.ext xvd) hn).mono ?_⟩
   rintro e w12 ⟨s13, rfl, o13, x12⟩
   have x012 := xvd.tr x12
   have h12 := h0.ext x012
   obtain ⟨n1, n2⟩ := h12.nW
   rw [e2] at n2
   refine ⟨s13, rfl, qh (h12.rd.at 4 rfl), fun w14 e14 => ?_⟩
   subst e14
   obtain ⟨hp2, hres⟩ := af.mB h12.ol (bytes := 32) (news := wV (key, s13, b)) (.cells #[key, s13] tW) (Nat.zero_le _) rfl (A8 _ _ _ _) (by omega) (by omega)
   refine ⟨hp2, fun s15 w16 hr => ?_⟩
   obtain ⟨f1, ho16, hn16, xb, hk16, hblk⟩ := hres s15 w16 hr
   have m16 : Mod (fun j => m.ls.ax = some j) w12 w16 := Mod.oT xb hk16
   have rd16 := m16.row h12.rd fun q => h12.Hh _ q rfl
   obtain ⟨p1, p2⟩ := rd16.iR (j := 4) (v := .slice s15.a s15.n s15.c) (by simp) rfl
   have z12 := x012.size
   have hdl := h.rd.lt
   refine ⟨f1, ⟨rfl, p1⟩, fun q => ?_, fun w17 e17 => ⟨rfl, { m with ls := s15, W := m.W ++ [(key, s13, b)] }, ?_, ?_, ?_, ?_⟩⟩
   ·rw [br] at q
    have : d = w12.heap.size := by simpa [bD] using q
    omega
   ·obtain ⟨q1, q2⟩ := p2 w17 e17
    have mm : Mod (fun j => j = d ∨ m.ls.ax = some j) w12 w17 := (m16.mono fun i _ hi => .inr hi).trans (q2.mono fun i _ hi => .inl hi)
    have off : ∀ {g : Nat} {cs : List Value} {τ : TypeId}, Row w12 g cs τ → τ ≠ mP → τ ≠ tW → ¬ (g = d ∨ m.ls.ax = some g) := fun hr' t1 t2 q => by
     rcases q with q | q
     ·exact hr'.ne h12.rd t1 q
     ·obtain ⟨cs', hr2⟩ := au h12.ol (by decide) q
      exact hr'.ne hr2 t2 rfl
    refine ⟨q1, mm.map h12.rm fun q => ?_, ?_, h12.sf, ?_, fun x hx => ?_, hok⟩
    ·rcases q with q | q
     ·exact h12.rd.dY h12.rm q.symm
     ·obtain ⟨cs', hr2⟩ := au h12.ol (by decide) q
      exact hr2.dY h12.rm rfl
    ·show af 0 tW 2 w17 s15 ((m.W ++ [(key, s13, b)]).map wV)
     rw [List.map_append]
     refine q2.cr ho16 fun g hg => ?_
     obtain ⟨cs', hr2⟩ := au ho16 (by decide) hg
     exact hr2.ne rd16 (by decide)
    ·show (m.W ++ [(key, s13, b)]).map kb = D.l ++ [(key, b)]
     rw [List.map_append, h.sl]; rfl
    ·have hx : x ∈ m.E ++ m.W ∨ x = (key, s13, b) := by
      simp only [List.mem_append, List.mem_cons, List.not_mem_nil, or_false] at hx ⊢
      rcases hx with hx | hx | hx
      ·exact .inl (.inl hx)
      ·exact .inl (.inr hx)
      ·exact .inr hx
     have hbx : A1 w12 x := by
      rcases hx with hx | rfl
      ·exact h12.bl x hx
      ·exact ⟨af.low o13 (Nat.zero_le _), hb⟩
     refine ⟨mm.cr hbx.o fun g hg => ?_, hbx.b⟩
     obtain ⟨cs', hr2⟩ := au hbx.o (by decide) hg
     exact off hr2 (by decide) (by decide)
   ·obtain ⟨q1, q2⟩ := p2 w17 e17
    refine (m0'.trans (Mod.ar x012)).trans ((m16.mono fun i _ hi => .inr hi).trans (q2.mono fun i _ hi => .inl hi))
   ·rintro i (q | q | q | ⟨x, hx, q⟩)
    ·exact .inl (.inl q)
    ·exact .inl (.inr (.inl q))
    ·rcases hblk with q' | q'
     ·exact .inl (.inr (.inr (.inl (by rw [← q']; exact q))))
     ·rw [q'] at q; cases q; exact .inr (by omega)
    ·simp only [List.mem_append, List.mem_cons, List.not_mem_nil, or_false] at hx
     rcases hx with hx | hx | rfl
     ·exact .inl (.inr (.inr (.inr ⟨x, List.mem_append.2 (.inl hx), q⟩)))
     ·exact .inl (.inr (.inr (.inr ⟨x, List.mem_append.2 (.inr hx), q⟩)))
     ·have := (o13.own.lt q).1
      have zv := xvd.size
      exact .inr (by omega)
   ·intro i q
    rcases hblk with q' | q'
    ·exact .inl (by rw [← q']; exact q)
    ·have q : s15.ax = some i := q
     rw [q'] at q; cases q; exact .inr (by omega)
end Go.Proofs.YtalpkjfpmdpbiaaGreatDoor
namespace Go.Proofs.YtalpkjfpmdpbiaaGreatDoor
open Go Go.Vc Go.RowKit Go.Proofs Go.bQ Go.aB Go.Code
set_option maxRecDepth 100000 in
theorem Bz {w : World} {d : Nat} {m : Dm} {D : Dk} (h : DO w d m D) (hW : D.l.length ≤ 1000000000) :
  Calls Tryz.prog gd #[.pointer (some ⟨d, 0, none⟩)] w fun e w' => e = .returned (.int .i64 (lZ D).2) ∧ HW w d m (lZ D).1 w' := by
 apply jl.vc
 refine (sU h).mono ?_
 rintro e w0 ⟨rfl, h0, m0⟩
 have z0 := m0.size
 have m0' : Mod (fun i => i = d ∨ m.ls.ax = some i) w w0 := m0.mono fun i _ hi => .inl hi
 have hok := h.ok.sync
 obtain ⟨e1, e2, e3⟩ := fE D
 refine ⟨_, rfl, Br.mk (fun hf => ?_) (fun hf => ?_)⟩
 ·have e : lZ D = ((ey D).1, 9) := by unfold lZ; rw [if_pos hf]
  rw [e]
  exact ⟨rfl, m, h0, m0', fun i hi => .inl hi, fun i hi => .inl hi⟩
 ·have e : lZ D = ({ (ey D).1 with safe := kG D, l := [] }, 0) := by unfold lZ; rw [if_neg (by rw [hf]; decide)]
  rw [e] at hok ⊢
  refine (rU h0 (by rw [e2]; exact hW)).mono ?_
  rintro e w2 ⟨r', E', rfl, hm2, hp, hsub, x2, hr'⟩
  rw [BY] at hp
  have h2 := h0.ext x2
  have z2 := x2.size
  have hdl := h.rd.lt
  obtain ⟨p1, p2⟩ := h2.rd.iR (j := 3) (v := .map (some r')) (by simp) rfl
  refine ⟨_, rfl, ⟨rfl, p1⟩, fun w4 e4 => ?_⟩
  obtain ⟨q1, q2⟩ := p2 w4 e4
  obtain ⟨p3, p4⟩ := q1.iR (j := 4) (v := .slice none 0 0) (show 4 < 5 by decide) rfl
  refine ⟨⟨rfl, p3⟩, fun w5 e5 => ⟨rfl, ⟨r', ⟨none, 0, 0⟩, E', []⟩, ?_, ?_, ?_, fun i q => by cases q⟩⟩
  ·obtain ⟨q3, q4⟩ := p4 w5 e5
   have mm := q2.trans q4
   refine ⟨q3, mm.map hm2 fun q => h2.rd.dY hm2 q.symm, af.nil, hp, rfl, fun x hx => ?_, hok⟩
   have hx' : x ∈ E' := by simpa using hx
   have hbx := h2.bl x (hsub x hx')
   refine ⟨mm.cr hbx.o fun g hg => ?_, hbx.b⟩
   obtain ⟨cs', hr2⟩ := au hbx.o (by decide) hg
   exact hr2.ne h2.rd (by decide)
  ·obtain ⟨q3, q4⟩ := p4 w5 e5
   exact (m0'.trans (Mod.ar x2)).trans ((q2.trans q4).mono fun i _ hi => .inl hi)
  ·rintro i (q | q | q | ⟨x, hx, q⟩)
   ·exact .inl (.inl q)
   ·exact .inr (by rw [q]; show _ ≤ r'; omega)
   ·cases q
   ·have hx' : x ∈ E' := by simpa using hx
    exact .inl (.inr (.inr (.inr ⟨x, hsub x hx', q⟩)))
end Go.Proofs.YtalpkjfpmdpbiaaGreatDoor
namespace Go.Proofs.YtalpkjfpmdpbiaaGreatDoor
open Go Go.Vc Go.RowKit Go.Proofs Go.bQ Go.aB Go.Code
abbrev I5:TypeId:=186
structure SO (w : World) (st d : Nat) (m : Dm) (D : Dk) : Prop where
 rs : Row w st [.pointer (some ⟨d, 0, none⟩)] rY
 dk : DO w d m D
def sF (st d:Nat) (m:Dm) (i:Nat):Prop:=i=st\/dF d m i
theorem SO.lt {w : World} {st d : Nat} {m : Dm} {D : Dk} (h : SO w st d m D) {i : Nat} (hi : sF st d m i) : i < w.heap.size := by
 rcases hi with rfl | hi
 ·exact h.rs.lt
 ·exact h.dk.lt hi
theorem SO.same {w w' : World} {st d : Nat} {m : Dm} {D : Dk} (h : SO w st d m D) (hs : ∀ i, sF st d m i → w'.heap[i]? = w.heap[i]?) : SO w' st d m D := ⟨h.rs.same (hs _ (.inl rfl)), h.dk.same fun i hi => hs i (.inr hi)⟩
theorem SO.ext {w w' : World} {st d : Nat} {m : Dm} {D : Dk} (h : SO w st d m D) (x : Ext w w') : SO w' st d m D := h.same fun i hi => x.heap (h.lt hi)
theorem SO.ptr {w : World} {st d : Nat} {m : Dm} {D : Dk} (h : SO w st d m D) : ld w (ae (ae (some ⟨st, 0, none⟩) 0) 0) = some (.pointer (some ⟨d, 0, none⟩)) := by
 rw [aP, aP, h.rs.ld]; rfl
theorem DH (room : Int) (w : World) : Calls Tryz.prog po #[room] w fun e w' => ∃ d m, e = .returned (.pointer (some ⟨d, 0, none⟩)) ∧ DO w' d m ⟨min (max room 0) 1048576, 0, 0, [], []⟩ ∧ Ext w w' ∧ ∀ i, dF d m i → w.heap.size ≤ i := by
 apply uA.vc
 intro w0 e0 w1 e1
 have z0 := dR e0
 have x1 : Ext w0 w1 := (Ext.aq _).ab e1
 have hm : aJ GI w0 (some w.heap.size) [] := by rw [e0]; exact aJ.new
 have er : (if 1048576 < (if 0 > room then 0 else room) then 1048576 else (if 0 > room then 0 else room)) = min (max room 0) 1048576 := by split <;> split <;> omega
 rw [er] at e1
 refine ⟨w0.heap.size, ⟨w.heap.size, ⟨none, 0, 0⟩, [], []⟩, rfl, ⟨by rw [e1]; exact Row.new w0 [_, _, _, _, _] _, hm.same (x1.heap hm.lt), af.nil, .refl _, rfl, (fun x hx => by cases hx), ⟨List.nodup_nil, fun k => by simp [je]; omega, by simp, by simp, by simp only; omega⟩⟩, ((Ext.aq w).ab e0).tr x1, fun i hi => ?_⟩
 rcases hi with q | q | q | ⟨x, hx, -⟩
 ·omega
 ·rw [q]; exact Nat.le_refl _
 ·cases q
 ·cases hx
theorem DG (room : Int) (w : World) : Calls Tryz.prog mV #[room] w fun e w' => ∃ st d m, e = .returned (.pointer (some ⟨st, 0, none⟩)) ∧ SO w' st d m ⟨min (max room 0) 1048576, 0, 0, [], []⟩ ∧ Ext w w' ∧ ∀ i, sF st d m i → w.heap.size ≤ i := by
 apply rz.vc
 refine (DH room w).mono ?_
 rintro e w0 ⟨d, m, rfl, hd, x0, hf⟩
 refine ⟨_, rfl, fun w2 e2 => ?_⟩
 have x2 : Ext w0 w2 := (Ext.aq _).ab e2
 have z := x0.size
 refine ⟨_, d, m, rfl, ⟨by rw [e2]; exact Row.new w0 [_] _, hd.ext x2⟩, x0.tr x2, fun i hi => ?_⟩
 rcases hi with q | q
 ·omega
 ·exact hf i q
theorem tD {D : Dk} (h : ke D) (k : Int) : (getD D k).length ≤ 1048576 := by
 have h1 := xZ h.now k
 have h2 := h.Gt
 have h3 := h.r
 show ((iC (kG D) k).getD []).length ≤ _
 omega
set_option maxRecDepth 100000 in
theorem Al {w : World} {st d : Nat} {m : Dm} {D : Dk} (h : SO w st d m D) (hW : D.l.length ≤ 1000000000) {id : Int} (hid : 0 ≤ id ∧ id ≤ 1099511627776) :
  Calls Tryz.prog kE #[.pointer (some ⟨st, 0, none⟩), id] w fun e w' => ∃ s : Sl, e = .returned (.agg #[.int .i64 (fD D id).1, .int .i64 (fD D id).2.1, .slice s.a s.n s.c]) ∧ cJ w' s (fD D id).2.2 ∧ ks (fD D id).2.2 ∧ (fD D id).2.2.length ≤ 1048576 ∧ s.n ≤ s.c ∧ (∀ g, s.ax = some g → w.heap.size ≤ g) ∧ Ext w w' := by
 apply g9.vc
 intro w0 e0 w1 e1 w2 e2
 have z0 := dR e0
 have z1 : w1.heap.size = w.heap.size + 2 := by rw [e1]; simp [z0]
 have z2 : w2.heap.size = w.heap.size + 2 := by rw [e2, setRow_size, z1]
 have x2 : Ext w w2 := (((Ext.aq w).ab e0).ab e1).ah e2 (by omega)
 clear e0 e1 e2
 have k0 : IntKind.wrap .i64 (2 * id) = 2 * id := wI
 have k1 : IntKind.wrap .i64 (2 * id + 1) = 2 * id + 1 := wI
 rw [k0, k1]
 obtain ⟨best, hbest⟩ : ∃ best : Nat → Rc, best = fun k => if k = 0 then (2 * id + 1, 0, []) else if k = 1 then cE (2 * id + 1, 0, []) (2 * id) (dS (getD D (2 * id))) else fD D id := ⟨_, rfl⟩
 have b0 : best 0 = (2 * id + 1, 0, []) := by rw [hbest]; rfl
 have b1 : best 1 = cE (best 0) (2 * id) (dS (getD D (2 * id))) := by rw [b0, hbest]; rfl
 have b2 : best 2 = cE (best 1) (2 * id + 1) (dS (getD D (2 * id + 1))) := by rw [b1, b0, hbest]; rfl
 have b3 : best 2 = fD D id := by rw [hbest]; rfl
 clear hbest
 refine ⟨fun n i sl v s wr => ∃ k : Nat, i = k ∧ k + n = 2 ∧ sl = (best k).1 ∧ v = (best k).2.1 ∧ cJ wr s (best k).2.2 ∧ ks (best k).2.2 ∧ (best k).2.2.length ≤ 1048576 ∧ s.n ≤ s.c ∧ (∀ g, s.ax = some g → w2.heap.size ≤ g) ∧ Ext w wr ∧ w2.heap.size ≤ wr.heap.size,
  ⟨2, rfl, 0, rfl, rfl, by rw [b0], by rw [b0], by rw [b0]; exact jX.vL (af.nil (B := 0)), by rw [b0]; exact (fun c hc => by cases hc), by rw [b0]; simp, Nat.le_refl _, (fun g hg => by cases hg), x2, Nat.le_refl _⟩, ?_⟩
 rintro n4 us i sl v s w10 ⟨k, rfl, hk, rfl, rfl, hs, hsb, hsl, hsc, hsf, x10, z10⟩
 refine Br.mk (fun hc => ?_) (fun hc => ?_)
 ·replace hc := eN hc
  have hwk : IntKind.wrap .i64 ((k : Int) + 1) = ((k + 1 : Nat) : Int) := by rw [wI]; omega
  obtain ⟨slot, hslot, hnext⟩ : ∃ slot, ([.int .i64 (2 * id), .int .i64 (2 * id + 1)] : List Value)[((k : Nat) : Int).toNat * 1]? = some (.int .i64 slot) ∧ best (k + 1) = cE (best k) slot (dS (getD D slot)) := by
   rcases k with _ | _ | k
   ·exact ⟨_, rfl, b1⟩
   ·exact ⟨_, rfl, b2⟩
   ·omega
  have h10 := h.ext x10
  refine ⟨⟨by omega, by omega⟩, slot, hslot, _, h10.ptr, (CU h10.dk hW slot).mono ?_⟩
  rintro e w14 ⟨t, tb, rfl, ot, hby, hle, x14⟩
  have z14 := x14.size
  refine ⟨t, tb, rfl, x14.k, x14.k, (Bu t (getD D slot) w14 (jX.vL ot) hby (af.le ot) (by omega)).mono ?_⟩
  rintro e w17 ⟨u, rfl, hu, huc, hub, x17⟩
  have z17 := x17.size
  have x1017 := x14.tr x17
  have hui := Ij hby
  have hul := Bt (getD D slot)
  have bC : cE (best k) slot (dS (getD D slot)) = best k → ∃ n11, n11 < n4 ∧ a6 [(0:Int), (0:Int), .slice none 0 0] ∧ ∃ k' : Nat, IntKind.wrap .i64 ((k : Int) + 1) = (k' : Int) ∧ k' + n11 = 2 ∧ (best k).1 = (best k').1 ∧ (best k).2.1 = (best k').2.1 ∧ cJ w17 s (best k').2.2 ∧ ks (best k').2.2 ∧ (best k').2.2.length ≤ 1048576 ∧ s.n ≤ s.c ∧ (∀ g, s.ax = some g → w2.heap.size ≤ g) ∧ Ext w w17 ∧ w2.heap.size ≤ w17.heap.size := fun q => by
   rw [q] at hnext
   exact ⟨n4 - 1, by omega, rfl, k + 1, hwk, by omega, by rw [hnext], by rw [hnext], by rw [hnext]; exact hs.ext x1017, by rw [hnext]; exact hsb, by rw [hnext]; exact hsl, hsc, hsf, x10.tr x1017, by omega⟩
  refine ⟨_, u, _, rfl, x17.k, x17.k, Br.mk (fun hb => Br.mk (fun hb2 => ?_) (fun hb2 => ?_)) (fun hb => ?_)⟩
  ·have q1 : (dS (getD D slot)).2.2 = 0 := by simpa using hb
   have q2 : (dS (getD D slot)).1 > (best k).2.1 := by simpa using hb2
   have e : cE (best k) slot (dS (getD D slot)) = (slot, (dS (getD D slot)).1, (dS (getD D slot)).2.1) := by unfold cE; rw [if_pos ⟨q1, q2⟩]
   rw [e] at hnext
   intro w21 e21
   have x21 : Ext w w21 := (x10.tr x1017).ah e21 (by omega)
   have hu21 : cJ w21 u (dS (getD D slot)).2.1 := hu.same fun g hg => by
    rw [e21]; exact setRow_other _ _ _ _ (by have := hub g hg; omega)
   have z21 : w21.heap.size = w17.heap.size := by rw [e21, setRow_size]
   exact ⟨n4 - 1, by omega, rfl, k + 1, hwk, by omega, by rw [hnext], by rw [hnext], by rw [hnext]; exact hu21, by rw [hnext]; exact hui, by rw [hnext]; simp only; omega, huc, (fun g hg => by have := hub g hg; omega), x21, by omega⟩
  ·have q2 : ¬ (dS (getD D slot)).1 > (best k).2.1 := by simpa using hb2
   exact bC (by unfold cE; rw [if_neg fun q => q2 q.2])
  ·have q1 : (dS (getD D slot)).2.2 ≠ 0 := by simpa using hb
   exact bC (by unfold cE; rw [if_neg fun q => q1 q.1])
 ·replace hc := eO hc
  have hk2 : k = 2 := by omega
  subst hk2
  rw [b3] at hs hsb hsl ⊢
  intro w22 e22
  refine ⟨s, rfl, hs.same fun g hg => ?_, hsb, hsl, hsc, fun g hg => by have := hsf g hg; omega, x10.ah e22 (Nat.le_refl _)⟩
  rw [e22]; exact setRow_other _ _ _ _ (by have := hsf g hg; omega)
theorem xl (id : Int) (w : World) : Calls Tryz.prog mY #[id] w fun e w' => e = .returned (.bool (qd id)) ∧ w' = w := by
 apply rA.vc
 unfold qd
 refine Br.mk (fun h => ?_) (fun h => ?_)
 ·simp only [ge_iff_le, decide_eq_true_eq] at h
  rw [decide_eq_true h]; exact ⟨rfl, rfl⟩
 ·simp only [ge_iff_le, decide_eq_false_iff_not] at h
  rw [decide_eq_false h]; exact ⟨rfl, rfl⟩
theorem Am {id:Int}:qd id=true ↔ 0<=id/\id<=1099511627776:=by unfold qd;simp
theorem y7 {w : World} {st d : Nat} {m : Dm} {D : Dk} (h : SO w st d m D) (hW : D.l.length ≤ 1000000000) (id : Int) :
  Calls Tryz.prog eH #[.pointer (some ⟨st, 0, none⟩), id] w fun e w' => ∃ s : Sl, e = .returned (.tuple #[s, .int .i64 (oU D id).2.1, .bool (oU D id).2.2]) ∧ cJ w' s (oU D id).1 ∧ ks (oU D id).1 ∧ (oU D id).1.length ≤ 1048576 ∧ s.n ≤ s.c ∧ (∀ g, s.ax = some g → w.heap.size ≤ g) ∧ Ext w w' := by
 apply fU.vc
 refine (xl id w).mono ?_
 rintro e w0 ⟨rfl, rfl⟩
 refine ⟨_, rfl, Br.mk (fun hb => ?_) (fun hb => ?_)⟩
 ·have q : ¬ qd id = true := by simpa using hb
  have e : oU D id = ([], 0, false) := by unfold oU; rw [if_neg q]
  rw [e]
  exact ⟨⟨none, 0, 0⟩, rfl, jX.vL (af.nil (B := 0)), (fun c hc => by cases hc), by simp, Nat.le_refl _, (fun g hg => by cases hg), Ext.aq _⟩
 ·have q : qd id = true := by simpa using hb
  have e : oU D id = ((fD D id).2.2, (fD D id).2.1, decide ((fD D id).2.1 > 0)) := by unfold oU; rw [if_pos q]
  rw [e]
  refine (Al h hW (Am.1 q)).mono ?_
  rintro e w2 ⟨s, rfl, hs, hsb, hsl, hsc, hsf, x2⟩
  refine ⟨_, _, s, rfl, fun w6 e6 w7 e7 => ?_⟩
  have x7 : Ext w2 w7.drew := (((Ext.aq _).ab e6).ah e7 (Nat.le_refl _)).drew
  exact ⟨s, rfl, hs.ext x7, hsb, hsl, hsc, hsf, x2.tr x7⟩
def tz (w : World) (st d : Nat) (m : Dm) (D : Dk) (w' : World) : Prop := ∃ m', SO w' st d m' D ∧ Mod (fun i => i = d ∨ m.ls.ax = some i) w w' ∧ (∀ i, dF d m' i → dF d m i ∨ w.heap.size ≤ i) ∧ ∀ i, m'.ls.ax = some i → m.ls.ax = some i ∨ w.heap.size ≤ i
theorem SO.off {w : World} {st d : Nat} {m : Dm} {D : Dk} (h : SO w st d m D) : ¬ (st = d ∨ m.ls.ax = some st) := by
 rintro (q | q)
 ·exact h.rs.ne h.dk.rd (by decide) q
 ·obtain ⟨cs', hr2⟩ := au h.dk.ol (by decide) q
  exact h.rs.ne hr2 (by decide) rfl
theorem SO.res {w w' : World} {st d : Nat} {m : Dm} {D D' : Dk} (h : SO w st d m D) (hr : HW w d m D' w') : tz w st d m D' w' := by
 obtain ⟨m', h1, h2, h3, h4⟩ := hr
 exact ⟨m', ⟨h2.row h.rs h.off, h1⟩, h2, h3, h4⟩
theorem tz.ar {w0 w w':World} {st d:Nat} {m:Dm} {D':Dk} (x:Ext w0 w) (hr:tz w st d m D' w'):tz w0 st d m D' w':=by
 obtain ⟨m',h1,h2,h3,h4⟩:=hr
 have z:=x.size
 exact ⟨m',h1,(Mod.ar x).trans h2,fun i hi=>(h3 i hi).imp id fun q=>by omega,fun i hi=>(h4 i hi).imp id fun q=>by omega⟩
theorem tz.trans {w w1 w2 : World} {st d : Nat} {m m1 : Dm} {D1 D2 : Dk} (h1 : SO w1 st d m1 D1 ∧ Mod (fun i => i = d ∨ m.ls.ax = some i) w w1 ∧ (∀ i, dF d m1 i → dF d m i ∨ w.heap.size ≤ i) ∧ ∀ i, m1.ls.ax = some i → m.ls.ax = some i ∨ w.heap.size ≤ i) (h2 : tz w1 st d m1 D2 w2) : tz w st d m D2 w2 := by
 obtain ⟨a1, a2, a3, a4⟩ := h1
 obtain ⟨m2, b1, b2, b3, b4⟩ := h2
 have z := a2.size
 refine ⟨m2, b1, a2.tr b2 fun i hi => ?_, fun i hi => ?_, fun i hi => ?_⟩
 ·rcases hi with q | q
  ·exact .inl (.inl q)
  ·exact (a4 i q).imp .inr id
 ·rcases b3 i hi with q | q
  ·exact a3 i q
  ·exact .inr (by omega)
 ·rcases b4 i hi with q | q
  ·exact a4 i q
  ·exact .inr (by omega)
set_option maxRecDepth 100000 in
theorem yT {w : World} {st d : Nat} {m : Dm} {D : Dk} (h : SO w st d m D) (hW : D.l.length ≤ 1000000) (id : Int) (s : Sl) (b : List Int) (hs : cJ w s b) (hb : ks b) (hn : b.length ≤ 1099511627776) :
  Calls Tryz.prog jk #[.pointer (some ⟨st, 0, none⟩), id, s] w fun e w' => e = .returned (.int .i64 (vK D id b).2) ∧ tz w st d m (vK D id b).1 w' := by
 apply (gg.vc (a2 := s))
 have same : ∀ {w' : World}, Ext w w' → tz w st d m D w' := fun x => ⟨m, h.ext x, Mod.ar x, fun i hi => .inl hi, fun i hi => .inl hi⟩
 refine (xl id w).mono ?_
 rintro e w0 ⟨rfl, rfl⟩
 refine ⟨_, rfl, Br.mk (fun hb1 => ?_) (fun hb1 => ?_)⟩
 ·have q : ¬ qd id = true := by simpa using hb1
  have e : vK D id b = (D, 1) := by unfold vK; rw [if_neg q]
  rw [e]
  exact ⟨rfl, same (Ext.aq _)⟩
 ·have q : qd id = true := by simpa using hb1
  have hid := Am.1 q
  refine (Al h (by omega) hid).mono ?_
  rintro e w2 ⟨s5, rfl, -, -, -, -, -, x2⟩
  refine ⟨_, _, s5, rfl, fun w6 e6 w7 e7 => ?_⟩
  have r7 : Row w7 w2.heap.size [.int .i64 (fD D id).1, .int .i64 (fD D id).2.1, s5] I5 := by rw [e7]; exact Row.set (by rw [e6]; exact Row.new w2 [_, _, _] _) _
  have x27 : Ext w2 w7 := ((Ext.aq _).ab e6).ah e7 (Nat.le_refl _)
  have x7 := x2.tr x27
  have hv := IG D id
  have wv : IntKind.wrap .i64 ((fD D id).2.1 + 1) = (fD D id).2.1 + 1 := wI
  rw [wv]
  have hsl := Ea D id
  have hto : dt .i64 (fD D id).1 1 = 4 * id + 1 - (fD D id).1 := by
   obtain ⟨t1, t2⟩ := D9 hid
   rcases hsl with q | q
   ·rw [q, t1]; omega
   ·rw [q, t2]; omega
  rw [hto]
  have hsv : vK D id b = if (tB ((fD D id).2.1 + 1) b).2 ≠ 0 then (D, (tB ((fD D id).2.1 + 1) b).2)
   else if (ir D (4 * id + 1 - (fD D id).1) (tB ((fD D id).2.1 + 1) b).1).2 ≠ 0 then ir D (4 * id + 1 - (fD D id).1) (tB ((fD D id).2.1 + 1) b).1
   else lZ (ir D (4 * id + 1 - (fD D id).1) (tB ((fD D id).2.1 + 1) b).1).1 := by unfold vK; rw [if_pos q]
  rw [hsv]
  refine (zZ ((fD D id).2.1 + 1) s b w7 (hs.ext x7) hb hn).mono ?_
  rintro e w8 ⟨s9, rfl, o9, x8⟩
  have hwb : ks (tB ((fD D id).2.1 + 1) b).1 := Il hb
  have hwn : (tB ((fD D id).2.1 + 1) b).1.length ≤ 1099511627776 := by
   unfold tB
   split
   ·simp
   ·rename_i q3
    rw [wu, Ab]
    omega
  generalize tB ((fD D id).2.1 + 1) b = wr at *
  generalize 4 * id + 1 - (fD D id).1 = slot at *
  have z8 := x8.size
  have z2 := x27.size
  have hlt7 := r7.lt
  refine ⟨s9, _, rfl, x8.heap hlt7, Br.mk (fun hb2 => ?_) (fun hb2 => ?_)⟩
  ·have q2 : wr.2 ≠ 0 := by simpa using hb2
   rw [if_pos q2]
   exact ⟨rfl, same (x7.tr x8)⟩
  ·have q2 : wr.2 = 0 := by simpa using hb2
   rw [if_neg (by rw [q2]; simp)]
   have x8d := (x7.tr x8).tr (Ext.dr w8)
   have h8 := h.ext x8d
   have hdl := h.dk.rd.lt
   have z7 := x7.size
   refine ⟨_, h8.ptr, (C1 h8.dk (by omega) slot s9 wr.1 (ba.ext (jX.vL o9) (Ext.dr w8)) hwb hwn fun hg => by have := (o9.own.lt hg).1; omega).mono ?_⟩
   rintro e w12 ⟨rfl, hr12⟩
   have hr12' := h8.res hr12
   have hbk : ∀ {v : World}, Mod (fun i => i = d ∨ m.ls.ax = some i) w8.drew v → v.heap[w2.heap.size]? = w8.drew.heap[w2.heap.size]? := fun hm => hm.same _ (by show w2.heap.size < w8.heap.size; omega) (by
    have := x2.size
    rintro (q | q)
    ·omega
    ·have := (h.dk.ol.own.lt q).2; omega)
   obtain ⟨m1, g1, g2, g3, g4⟩ := hr12'
   have r12 : Row w12 w2.heap.size [.int .i64 (fD D id).1, .int .i64 (fD D id).2.1, s5] I5 := ((r7.ext x8).ext (Ext.dr w8)).same (hbk g2)
   refine ⟨_, rfl, hbk g2, r12.aX (fun j hj => by simp at hj; subst hj; rfl), Br.mk (fun hb3 => ?_) (fun hb3 => ?_)⟩
   ·have q3 : (ir D slot wr.1).2 ≠ 0 := by simpa using hb3
    rw [if_pos q3]
    exact ⟨rfl, tz.ar x8d ⟨m1, g1, g2, g3, g4⟩⟩
   ·have q3 : (ir D slot wr.1).2 = 0 := by simpa using hb3
    rw [if_neg (by rw [q3]; simp)]
    have hpl := Ed D slot wr.1
    refine ⟨_, g1.ptr, (Bz g1.dk (by omega)).mono ?_⟩
    rintro e w15 ⟨rfl, hr15⟩
    have hr15' := g1.res hr15
    have hres := tz.trans ⟨g1, g2, g3, g4⟩ hr15'
    have z12 := g2.size
    obtain ⟨m2, f1, f2, f3, f4⟩ := hr15
    refine ⟨_, rfl, f2.same _ r12.lt ?_, rfl, tz.ar x8d hres⟩
    rintro (q | q)
    ·have := x2.size; omega
    ·obtain ⟨cs', hr2⟩ := au g1.dk.ol (by decide) q
     exact r12.ne hr2 (by decide) rfl
end Go.Proofs.YtalpkjfpmdpbiaaGreatDoor
