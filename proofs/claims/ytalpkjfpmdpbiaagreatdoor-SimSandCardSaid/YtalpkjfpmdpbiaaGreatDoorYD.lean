import Derived.Test.YtalpkjfpmdpbiaaGreatDoorYC
import Derived.Test.YtalpkjfpmdpbiaaGreatDoorYB
set_option linter.all false
namespace Go.Proofs.YtalpkjfpmdpbiaaGreatDoor
open Go Go.Vc Go.RowKit Go.Proofs Go.bQ Go.aB Go.Code Go.kW Go.mw
set_option maxRecDepth 100000
section
variable {F F':Nat->Prop} {w w':World} {s o t:Nat} {M M':Sm} {occ:Value}
theorem SF.tl (h : SF F w s o t M occ) : Tl (.func (.func bc) #[.pointer (some ⟨t, 0, none⟩)] #[]) (cD M.T.2) w := by
 obtain ⟨Fw, hW, -, -⟩ := h.world
 exact ⟨Fw, fun i hi => hW.lt hi, fun w' hk c hc => hW.IP hk c hc⟩
theorem He:sQ ⟨4096,0,[]⟩:=⟨by decide,by decide,List.Pairwise.nil,List.nodup_nil⟩
theorem zf {Fw : Nat → Prop} {aa cap : Int} {T : Tb} {ch : List Go.mw.Cg} (h : WF Fw w o t aa cap T ch) (aO : Int) : Calls Tryz.prog wD #[.pointer (some ⟨o, 0, none⟩), aO] w fun e w' => ∃ s F, e = .returned (.pointer (some ⟨s, 0, none⟩)) ∧ SF F w' s o t ⟨aa, cap, T, ch, ⟨4096, 0, []⟩, min (max aO 1) 64, 0, []⟩ (.func (.func sO) #[] #[]) ∧ Ext w w' ∧ (∀ i, F i → Fw i ∨ w.heap.size ≤ i) := by
 apply xS.vc
 refine (Q.uO 4096 w).mono ?_
 rintro e w0 ⟨g, m, rfl, hq, x0, hg, hm⟩
 refine ⟨_, rfl, fun w2 e2 => ?_⟩
 have eb : (if 64 < (if 1 > aO then 1 else aO) then 64 else (if 1 > aO then 1 else aO)) = min (max aO 1) 64 := by
  split <;> split <;> omega
 rw [eb] at e2
 have x2 : Ext w0 w2 := (Ext.aq _).ab e2
 have hr : Row w2 w0.heap.size (Gu g o ⟨aa, cap, T, ch, ⟨4096, 0, []⟩, min (max aO 1) 64, 0, []⟩ (.func (.func sO) #[] #[]) ⟨none, 0, 0⟩) tp := by rw [e2]; exact Row.new w0 [_, _, _, _, _, _] _
 refine ⟨w0.heap.size, _, rfl, ⟨g, m, ⟨none, 0, 0⟩, Fw, ⟨none, 0, 0⟩, hr, hq.ext x2, He, h.ext (x0.tr x2), af.nil, ?_, rfl⟩, x0.tr x2, fun i hi => ?_⟩
 ·rintro i (hi | hi | hi) hf
  ·have := h.lt hf; omega
  ·have := h.lt hf; omega
  ·cases hi
 ·have := x0.size
  rcases hi with hi | (hi | hi | hi) | hi | hi
  ·exact .inr (by omega)
  ·exact .inr (by omega)
  ·exact .inr (by omega)
  ·cases hi
  ·exact .inl hi
  ·cases hi
theorem zg (h : SF F w s o t M occ) : Calls Tryz.prog l9 #[.pointer (some ⟨s, 0, none⟩)] w fun e w' => e = .returned (.pointer (some ⟨o, 0, none⟩)) ∧ w' = w := by
 obtain ⟨g, sd, h1, -⟩ := h.row
 apply j5.vc
 exact ⟨_, h1.at 1 rfl, rfl, rfl⟩
theorem ya (h : SF F w s o t M occ) (f : Fn) (a b : Array Value) : Calls Tryz.prog kB #[.pointer (some ⟨s, 0, none⟩), .func f a b] w fun e w' => e = .returned (.tuple #[]) ∧ jf F w s o t M (.func f a b) w' ∧ Mod (fun i => i = s) w w' := by
 obtain ⟨g, sd, hr, ho, -, -, hres⟩ := h.row
 apply iX.vc
 obtain ⟨p1, p2⟩ := hr.iR (j := 4) (v := .func f a b) (by simp [Gu]) rfl
 refine ⟨⟨rfl, p1⟩, fun w0 e0 => ⟨rfl, ?_⟩⟩
 obtain ⟨q1, q2⟩ := p2 w0 e0
 have hso : ∀ b, sd.ax = some b → b ≠ s := fun b hb => by
  obtain ⟨cs', hr'⟩ := au ho (by decide) hb
  exact hr'.ne hr (by decide)
 exact ⟨hres (M' := M) rfl rfl rfl rfl rfl (q2.mono fun i _ hi => .inl hi) q1 (q2.cr ho hso) (fun b hb => .inl hb), q2⟩
theorem EF (b:Int):0<=ay b/\ay b<=5:=by
 unfold ay
 split
 ·decide
 ·split<;>decide
theorem EG {V:Ce->Int} {c:Ce} (hc:cW c):∀n ∈ bW V c,pW n:=fun n hn=>by
 unfold bW at hn
 rcases List.mem_cons.1 (List.mem_filter.1 hn).1 with rfl|h
 ·exact hc.ok
 ·exact ui hc h
theorem oq (V:Ce->Int) (c:Ce):(bW V c).length<=7:=List.length_filter_le _ _
abbrev dV (V:Ce->Int) (now:Int) (q:QS) (n:Ce):QS:=(cX q n (now+ay (V n))).1
theorem pL (V : Ce → Int) (now : Int) : ∀ (l : List Ce) (q : QS), q.lost ≤ (l.foldl (dV V now) q).lost ∧ (l.foldl (dV V now) q).lost ≤ q.lost + l.length
 | [], q => ⟨Int.le_refl _, by simp⟩
 | n :: l, q => by
   have h1 := pL V now l (dV V now q n)
   have h2 := wM q n (now + ay (V n))
   have h3 : (dV V now q n).lost = (cX q n (now + ay (V n))).1.lost := rfl
   simp only [List.foldl_cons, List.length_cons]
   omega
set_option maxRecDepth 100000 in
theorem CV (h : SF F w s o t M occ) (c : Ce) (hc : cW c) (hl : 0 ≤ M.q.lost ∧ M.q.lost ≤ 900000) (hnow : 0 ≤ M.now ∧ M.now ≤ 1099511627776) :
  Calls Tryz.prog iV #[.pointer (some ⟨s, 0, none⟩), mq c] w fun e w' => e = .returned (.tuple #[]) ∧ jf F w s o t { M with q := cL (cD M.T.2) M.now M.q c } occ w' := by
 apply lp.vc
 intro w0 e0
 have x0 : Ext w w0 := (Ext.aq _).ab e0
 have z0 := dR e0
 clear e0
 have h0 := h.ext x0
 obtain ⟨g, sd, hr, -, hFs, -⟩ := h0.row
 obtain ⟨Fw, hW, -, -⟩ := h0.world
 refine ⟨_, hr.at 1 rfl, (kT hW).mono ?_⟩
 rintro e w2 ⟨rfl, hw⟩
 subst hw
 refine ⟨_, rfl, rfl, (A3 h0.tl c hc).mono ?_⟩
 rintro e w4 ⟨s5, rfl, ho, x4⟩
 have z4 := x4.size
 have hrd := ho.rd (show 0 < 3 by decide)
 have hn5 := hrd.n
 have h4 := h0.ext x4
 have hL := oq (cD M.T.2) c
 have hok := EG (V := cD M.T.2) hc
 unfold cL
 generalize hLe : bW (cD M.T.2) c = L at *
 rw [List.length_map] at hn5
 refine ⟨s5, rfl, x4.k, fun n x w10 => ∃ (j : Nat) (F' : Nat → Prop), x = j ∧ j + n = L.length ∧ SF F' w10 s o t { M with q := (L.take j).foldl (dV (cD M.T.2) M.now) M.q } occ ∧ ao F F' w4 w10, ⟨L.length, rfl, 0, F, rfl, by omega, h4, ao.refl _ _⟩, ?_⟩
 rintro n us x w10 ⟨j, F', rfl, hj, hS, hT⟩
 have z10 := hT.mod.size
 have hF : ∀ i, F i → i < w.heap.size := fun i hi => h.lt hi
 have hrd10 : ba w10 s5 3 (L.map dp) := hT.mod.Ix (by decide) hrd fun _ b hb hf => by
  have := (ho.own.lt hb).1
  have := hF b hf
  omega
 refine Br.mk (fun hb => ?_) (fun hb => ?_)
 ·replace hb := eN hb
  obtain ⟨y, hy⟩ := aN (l := L) (i := j) (by omega)
  have oky := hok y (List.mem_of_getElem? hy)
  have hy' : (L.map dp)[j]? = some (dp y) := by rw [List.getElem?_map, hy]; rfl
  have htk : L.take (j + 1) = L.take j ++ [y] := by rw [List.take_add_one, hy]; rfl
  have hlost := pL (cD M.T.2) M.now (L.take j) M.q
  have hltk : (L.take j).length ≤ 7 := by rw [List.length_take]; omega
  generalize hqj : (L.take j).foldl (dV (cD M.T.2) M.now) M.q = qj at *
  refine ⟨hrd10.eV (i := (j : Int)) (by decide) (by omega) hb, _, _, _, hrd10.aX hy', fun w15 e15 w16 e16 => ?_⟩
  have x16 : Ext w10 w16 := ((Ext.aq _).ab e15).ah e16 (Nat.le_refl _)
  have z16 := yA e15 e16
  have hb16 : Row w16 w10.heap.size (dp y) mK := by rw [e16]; exact Row.set (by rw [e15]; exact Row.new w10 [_, _, _] _) _
  clear e15 e16
  have xd := x16.tr (Ext.dr w16)
  have zd : w16.drew.heap.size = w16.heap.size := rfl
  have hS16 := hS.ext xd
  obtain ⟨g', m, qs, hq, hqok, ⟨sd', hr'⟩, hsub, hres⟩ := hS16.queue
  refine ⟨_, hr'.at 0 rfl, _, hr'.at 3 rfl, aQ (hS16.tl.at oky) ?_⟩
  rintro e w19 ⟨rfl, x19⟩
  have z19 := x19.size
  have hr19 := hr'.ext x19
  have hb19 := (hb16.ext (Ext.dr w16)).ext x19
  have hd := EF (cD M.T.2 y)
  have wr : IntKind.wrap .i64 (M.now + ay (cD M.T.2 y)) = M.now + ay (cD M.T.2 y) := wI
  refine ⟨_, rfl, x19.k, x19.k, jg (hr19.at 3 rfl), Lo.wv hb19, jg (hr19.at 0 rfl), (uP (cD M.T.2 y) w19).mono ?_⟩
  rintro e w21 ⟨rfl, hw⟩
  subst hw
  refine ⟨_, rfl, rfl, rfl, jg (hr19.at 3 rfl), Lo.wv hb19, jg (hr19.at 0 rfl), ?_⟩
  rw [wr]
  refine (Q.zh (hq.ext x19) hqok (by simp only at hlost ⊢; omega) y (M.now + ay (cD M.T.2 y))).mono ?_
  rintro e w23 ⟨rfl, qs', hq', ht⟩
  have wk : IntKind.wrap .i64 ((j : Int) + 1) = ((j + 1 : Nat) : Int) := by rw [wI]; omega
  have ht' : ao (Q.da g' m qs) (Q.da g' m qs') w16.drew w23 := (ao.ar x19).trans ht
  obtain ⟨F2, hS2, hT2⟩ := hres hq' (hqok.add y _) ht'
  have hsF : ¬ Q.da g' m qs s := (hq).a9 hr' (by decide) (by decide)
  have hr23 := ht'.mod.row hr' hsF
  have nf : ∀ i, (w.heap.size ≤ i ∧ i < w4.heap.size ∨ w10.heap.size ≤ i) → i < w16.drew.heap.size → w23.heap[i]? = w21.heap[i]? := fun i h1 h2 => (hT2.mod.same i h2 (fun hf => by
   rcases h1 with ⟨h1, h1'⟩ | h1
   ·rcases hT.sub i hf with q | q
    ·have := hF i q; omega
    ·omega
   ·have := hS.lt hf; omega)).trans (x19.heap h2).symm
  refine ⟨_, rfl, nf _ (.inl (by omega)) (by omega), nf _ (.inr (by omega)) (by omega), jg (hr23.at 3 rfl), n - 1, by omega, rfl, j + 1, F2, wk, by omega, ?_, (hT.trans (ao.ar xd)).trans hT2⟩
  rw [htk, List.foldl_append, hqj]
  exact hS2
 ·replace hb := eO hb
  rw [List.take_of_length_le (by omega)] at hS
  exact ⟨rfl, F', hS, (ao.ar (x0.tr x4)).trans hT⟩
end
end Go.Proofs.YtalpkjfpmdpbiaaGreatDoor
namespace Go.Proofs.YtalpkjfpmdpbiaaGreatDoor
open Go Go.Vc Go.RowKit Go.Proofs Go.bQ Go.aB Go.Code Go.kW Go.mw
set_option maxRecDepth 100000
section
variable {F F':Nat->Prop} {w w':World} {s o t:Nat} {M M':Sm} {occ:Value}
theorem jf.trans {F1:Nat->Prop} {w1:World} (h:ao F F1 w w1) (k:jf F1 w1 s o t M occ w'):jf F w s o t M occ w':=by
 obtain ⟨F2,h2,t2⟩:=k
 exact ⟨F2,h2,h.trans t2⟩
structure nC (M:Sm) (n:Nat):Prop where
 l:0<=M.q.lost/\M.q.lost<=n
 c:M.ch.length<=n
 now:0<=M.now/\M.now<=1099511627776
 d:M.eT.length<=n
theorem nC.mono {n m:Nat} (h:nC M n) (hm:n<=m):nC M m:=⟨⟨h.l.1,by have:=h.l.2;omega⟩,Nat.le_trans h.c hm,h.now,Nat.le_trans h.d hm⟩
theorem ux (l:List En) (ch:List Go.mw.Cg) (c:Ce) (b:Int):(yN l ch c b).length<=ch.length+1:=Ga l ch c b
theorem Bh (V : Ce → Int) (now : Int) (q : QS) (c : Ce) : q.lost ≤ (cL V now q c).lost ∧ (cL V now q c).lost ≤ q.lost + 7 := by
 have h1 := pL V now (bW V c) q
 have h2 := oq V c
 have h3 : cL V now q c = (bW V c).foldl (dV V now) q := rfl
 rw [h3]
 omega
theorem nC.edit {n : Nat} (h : nC M n) (c : Ce) (b : Int) : nC (dU M c b) (n + 7) := by
 have h1 := ux M.T.2 M.ch c b
 have h2 := Bh (cD (cc M.T.2 c b).1) M.now M.q c
 have h3 := h.l
 have h4 := h.c
 unfold dU
 have h5 := h.d
 refine ⟨?_, ?_, h.now, by simp only; omega⟩
 ·simp only
  split <;> omega
 ·simp only; omega
theorem nC.change {n:Nat} (h:nC M n) (x:Go.mw.Cg):nC (aM M x) (n+7):=by
 unfold aM
 split
 ·exact h.mono (by omega)
 ·exact h.edit _ _
theorem lO (h : SF F w s o t M occ) (c : Ce) (hc : cW c) (b : Int) (hk : nC M 800000) :
  Calls Tryz.prog iU #[.pointer (some ⟨s, 0, none⟩), mq c, b] w fun e w' => e = .returned (.int .i64 (cc M.T.2 c b).2) ∧ jf F w s o t (dU M c b) occ w' := by
 apply ln.vc
 intro w0 e0
 have x0 : Ext w w0.drew := ((Ext.aq _).ab e0).tr (Ext.dr w0)
 have z0 : w0.drew.heap.size = w.heap.size + 1 := by show w0.heap.size = _; rw [e0]; simp
 have zd : w0.drew.heap.size = w0.heap.size := rfl
 clear e0
 have h0 := h.ext x0
 obtain ⟨g, sd, hr, -⟩ := h0.row
 obtain ⟨Fw, hW, hsub, hres⟩ := h0.world
 have hlc := hk.c
 have hll := hk.l
 refine ⟨_, (hr.at 1 rfl), (Cz hW c hc.ok b (by omega)).mono ?_⟩
 rintro e w2 ⟨rfl, hw⟩
 obtain ⟨F2, h2, t2⟩ := hres hw
 have hF : ∀ {i}, w.heap.size ≤ i → i < w0.drew.heap.size → w2.heap[i]? = w0.drew.heap[i]? := fun h1 h3 => t2.mod.same _ h3 fun hf => by have := h.lt hf; omega
 unfold dU
 refine ⟨_, rfl, hF (Nat.le_refl _) (by omega), Br.mk (fun hb => ?_) (fun hb => ?_)⟩
 ·rw [if_pos (by simpa using hb)]
  refine (CV h2 c hc (by simp only; omega) hk.now).mono ?_
  rintro e w4 ⟨rfl, F4, h4, t4⟩
  have hz := t2.mod.size
  have hnf : ¬ F2 w.heap.size := fun hf => by
   rcases t2.sub _ hf with q | q
   ·have := h.lt q; omega
   ·omega
  exact ⟨rfl, t4.mod.same _ (by omega) hnf, rfl, F4, h4, (ao.ar x0).trans (t2.trans t4)⟩
 ·rw [if_neg (by simpa using hb)]
  exact ⟨rfl, F2, h2, (ao.ar x0).trans t2⟩
theorem jT (h : SF F w s o t M occ) (x : Go.mw.Cg) (hc : cW x.1) (hk : nC M 800000) :
  Calls Tryz.prog bU #[.pointer (some ⟨s, 0, none⟩), .agg (gC x).toArray] w fun e w' => e = .returned (.tuple #[]) ∧ jf F w s o t (aM M x) occ w' := by
 apply iY.vc
 intro w0 e0
 have hb0 : Row w0 w.heap.size (gC x) gz := by rw [e0]; exact Row.new w [_, _, _, _] _
 have x0 : Ext w w0.drew := ((Ext.aq _).ab e0).tr (Ext.dr w0)
 have z0 : w0.drew.heap.size = w.heap.size + 1 := by show w0.heap.size = _; rw [e0]; simp
 clear e0
 have hb := hb0.ext (Ext.dr w0)
 have h0 := h.ext x0
 obtain ⟨g, sd, hr, -⟩ := h0.row
 obtain ⟨Fw, hW, -, -⟩ := h0.world
 refine ⟨_, (hr.at 1 rfl), (kT hW).mono ?_⟩
 rintro e w2 ⟨rfl, hw⟩
 subst hw
 refine ⟨_, rfl, rfl, hb.aX (o := 3) (fun j hj => by
  match j, hj with
  | 0, _ => rfl), hb.aX (o := 0) (fun j hj => by
  match j, hj with
  | 0, _ => rfl
  | 1, _ => rfl
  | 2, _ => rfl), aQ (h0.tl.at hc.ok) ?_⟩
 rintro e w4 ⟨rfl, x4⟩
 have z4 := x4.size
 have x04 := x0.tr x4
 unfold aM
 refine ⟨_, rfl, x4.k, (hb.ext x4).aX (o := 3) (fun j hj => by
  match j, hj with
  | 0, _ => rfl), Br.mk (fun hb2 => ?_) (fun hb2 => ?_)⟩
 ·rw [if_neg (by simpa using hb2)]
  refine (lO (h.ext x04) x.1 hc x.2 hk).mono ?_
  rintro e w6 ⟨rfl, F6, h6, t6⟩
  exact ⟨_, rfl, t6.mod.same _ (by omega) (fun hf => by have := h.lt hf; omega), rfl, F6, h6, (ao.ar x04).trans t6⟩
 ·rw [if_pos (by simpa using hb2)]
  exact ⟨rfl, F, h.ext x04, ao.ar x04⟩
end
end Go.Proofs.YtalpkjfpmdpbiaaGreatDoor
namespace Go.Proofs.YtalpkjfpmdpbiaaGreatDoor
open Go Go.Vc Go.RowKit Go.Proofs Go.bQ Go.aB Go.Code Go.kW Go.mw
set_option maxRecDepth 100000
def Oc (occ : Value) (O : Ce → Bool) (F : Nat → Prop) (w : World) : Prop := ∃ D : Nat → Prop, (∀ i, D i → i < w.heap.size ∧ ¬ F i) ∧ ∀ w', (∀ i, D i → w'.heap[i]? = w.heap[i]?) → ∀ c, pW c → a8 Tryz.prog occ [mq c] w' fun e w'' => e = .returned (.bool (O c)) ∧ Ext w' w''
section
variable {F F':Nat->Prop} {w w':World} {s o t:Nat} {M M':Sm} {occ:Value} {O:Ce->Bool}
theorem Oc.eK (h:Oc occ O F w) (ht:ao F F' w w'):Oc occ O F' w':=by
 obtain ⟨D,h1,h2⟩:=h
 refine ⟨D,fun i hi=>⟨Nat.lt_of_lt_of_le (h1 i hi).1 ht.mod.size,fun hf=> ?_⟩,fun w'' hk=>h2 w'' fun i hi=>(hk i hi).trans (ht.mod.same i (h1 i hi).1 (h1 i hi).2)⟩
 rcases ht.sub i hf with q|q
 ·exact (h1 i hi).2 q
 ·have:=(h1 i hi).1;omega
theorem Oc.ext (h:Oc occ O F w) (x:Ext w w'):Oc occ O F w':=h.eK (ao.ar x)
theorem Oc.at (h : Oc occ O F w) {c : Ce} (hc : pW c) : a8 Tryz.prog occ [mq c] w fun e w' => e = .returned (.bool (O c)) ∧ Ext w w' := by
 obtain ⟨D, h1, h2⟩ := h
 exact h2 w (fun _ _ => rfl) c hc
theorem nC.fold {n:Nat}:∀{M:Sm} (l:List Go.mw.Cg),nC M n->nC (l.foldl aM M) (n+7*l.length)
 |M,[],h=>h
 |M,x::l,h=>(nC.fold l (h.change x)).mono (by simp only [List.length_cons];omega)
theorem zD (V:Ce->Int) (c:Ce):(de V c).length<=4:=by
 unfold de qw fJ
 split
 ·split<;>simp
 ·split
  ·split
   ·simp
   ·split
    ·simp
    ·split
     ·simp
     ·split
      ·simp
      ·rw [List.length_map];exact List.length_filter_le _ _
  ·simp
theorem DI (V:Ce->Int) (c:Ce):∀x ∈ de V c,x.1=c\/x.1 ∈ fL c:=by
 have hlow:aS c ∈ fL c:=by simp [fL]
 have hside:∀n ∈ aW c,n ∈ fL c:=fun n hn=>by
  unfold aW at hn
  unfold fL
  simp only [List.mem_cons,List.not_mem_nil,or_false]at hn ⊢
  rcases hn with h|h|h|h
  ·exact .inl h
  ·exact .inr (.inl h)
  ·exact .inr (.inr (.inr (.inr (.inl h))))
  ·exact .inr (.inr (.inr (.inr (.inr h))))
 intro x hx
 unfold de at hx
 split at hx
 ·unfold qw at hx
  split at hx
  ·simp only [List.mem_cons,List.not_mem_nil,or_false]at hx
   rcases hx with rfl|rfl
   ·exact .inl rfl
   ·exact .inr hlow
  ·cases hx
 ·split at hx
  ·unfold fJ at hx
   split at hx
   ·simp only [List.mem_cons,List.not_mem_nil,or_false]at hx
    rw [hx];exact .inl rfl
   ·split at hx
    ·simp only [List.mem_cons,List.not_mem_nil,or_false]at hx
     rw [hx];exact .inl rfl
    ·split at hx
     ·simp only [List.mem_cons,List.not_mem_nil,or_false]at hx
      rw [hx];exact .inr hlow
     ·split at hx
      ·cases hx
      ·obtain ⟨n,hn,rfl⟩:=List.mem_map.1 hx
       exact .inr (hside n (List.mem_filter.1 hn).1)
  ·cases hx
set_option maxRecDepth 100000 in
theorem zE (h : SF F w s o t M occ) (hO : Oc occ O F w) (c : Ce) (hc : pQ c) (hk : nC M 700000) :
  Calls Tryz.prog fN #[.pointer (some ⟨s, 0, none⟩), mq c] w fun e w' => e = .returned (.tuple #[]) ∧ jf F w s o t (fO O M c) occ w' := by
 apply iZ.vc
 have hc' := id hc
 unfold pQ at hc'
 intro w0 e0
 have x0 : Ext w w0.drew := ((Ext.aq _).ab e0).tr (Ext.dr w0)
 have z0 : w0.drew.heap.size = w.heap.size + 1 := by show w0.heap.size = _; rw [e0]; simp
 clear e0
 have h0 := h.ext x0
 obtain ⟨g, sd, hr, hdr, -, hsdF, hres⟩ := h0.row
 obtain ⟨Fw, hW, -, -⟩ := h0.world
 refine ⟨_, (hr.at 1 rfl), (yO hW c hc.wide.ok (Gb (by omega) (by omega))).mono ?_⟩
 rintro e w2 ⟨rfl, x2⟩
 have z2 := x2.size
 have x02 := x0.tr x2
 have hlow : pW (aS c) := ui hc.wide (by simp [fL])
 refine ⟨_, rfl, x2.k, Br.mk (fun hb => ?_) (fun hb => ?_)⟩
 ·have xd := x2.tr (Ext.dr w2)
  have zd : w2.drew.heap.size = w2.heap.size := rfl
  have hnow := hk.now
  have wr : IntKind.wrap .i64 (M.now + 1) = M.now + 1 := wI
  obtain ⟨g', m, qs, hq, hqok, ⟨sd', hr'⟩, hsub, hresq⟩ := (h0.ext xd).queue
  refine ⟨_, hr'.at 0 rfl, _, hr'.at 3 rfl, ?_⟩
  rw [wr]
  have hll := hk.l
  refine (Q.zh hq hqok (by omega) c (M.now + 1)).mono ?_
  rintro e w6 ⟨rfl, qs', hq', ht⟩
  obtain ⟨F2, hS2, hT2⟩ := hresq hq' (hqok.add c _) ht
  have hsF : ¬ Q.da g' m qs s := hq.a9 hr' (by decide) (by decide)
  refine ⟨_, rfl, hT2.mod.same _ (by omega) (fun hf => by have := h.lt hf; omega), jg ((ht.mod.row hr' hsF).at 3 rfl), rfl, ?_⟩
  unfold fO
  rw [if_pos (by simpa using hb)]
  exact ⟨F2, hS2, (ao.ar (x0.tr xd)).trans hT2⟩
 have hrdy : ¬ q6 M.T.2 c = false := by simpa using hb
 have hr2 := hr.ext x2
 refine ⟨_, (hr2.at 1 rfl), (kT (hW.ext x2)).mono ?_⟩
 rintro e w9 ⟨rfl, hw9⟩
 subst hw9
 refine ⟨_, rfl, rfl, (AJ (h0.tl.ext x2) c hc.wide).mono ?_⟩
 rintro e w11 ⟨s12, rfl, ho, x11⟩
 have z11 := x11.size
 have hrd := ho.rd (show 0 < 4 by decide)
 have hn12 := hrd.n
 have hLlen := zD (cD M.T.2) c
 have hLw : ∀ x ∈ de (cD M.T.2) c, cW x.1 := fun x hx => by
  rcases DI _ _ x hx with q | q
  ·rw [q]; exact hc.wide
  ·exact GV hc q
 have hU : fO O M c = if kD O M c = true then aM { M with eT := M.eT ++ [aS c] } (c, 0) else (de (cD M.T.2) c).foldl aM M := by unfold fO; rw [if_neg hrdy]
 have hH : kD O M c = (decide (cD M.T.2 c = 3) && (!(de (cD M.T.2) c).isEmpty && O (aS c))) := rfl
 generalize de (cD M.T.2) c = L at *
 rw [List.length_map] at hn12
 refine ⟨s12, rfl, x11.k, (iJ c hc.wide w11).mono ?_⟩
 rintro e w13 ⟨rfl, x13⟩
 have z13 := x13.size
 refine ⟨_, _, _, _, _, _, _, _, _, _, _, _, _, _, _, _, _, _, rfl, x13.k, by decide, _, _, _, AI c, fun w35 e35 w36 e36 => ?_⟩
 have x36 : Ext w13 w36 := ((Ext.aq _).ab e35).ah e36 (Nat.le_refl _)
 have z36 := yA e35 e36
 clear e35 e36
 have xd := Ext.dr w36
 have zd : w36.drew.heap.size = w36.heap.size := rfl
 have x1136 := x13.tr (x36.tr xd)
 have x036 := x02.tr (x11.tr x1136)
 refine aQ ((h.ext x036).tl.at hc.wide.ok) ?_
 rintro e w37 ⟨rfl, x37⟩
 have z37 := x37.size
 have x037 := x036.tr x37
 have x1137 := x1136.tr x37
 refine ⟨_, rfl, x37.k, x37.k, (oZ (cD M.T.2 c) w37).mono ?_⟩
 rintro e w39 ⟨rfl, hw39⟩
 subst hw39
 have hr39 := hr2.ext (x11.tr x1137)
 refine ⟨_, rfl, rfl, rfl, Br.mk (fun hf => Br.mk (fun hp => ?_) (fun hp => ?_)) (fun hf => ?_)⟩
 ·refine ⟨_, hr39.at 4 rfl, aQ ((hO.ext x037).at hlow) ?_⟩
  rintro e w42 ⟨rfl, x42⟩
  have z42 := x42.size
  have x042 := x037.tr x42
  have hpn : (!L.isEmpty) = true := by
   have : 0 < L.length := by simp only [decide_eq_true_eq, gt_iff_lt] at hp; omega
   cases L with
   | nil => simp at this
   | cons => rfl
  have hf3 : decide (cD M.T.2 c = 3) = true := by simpa using hf
  refine ⟨_, rfl, x42.k, x42.k, Br.mk (fun hh => ?_) (fun hh => ?_)⟩
  ·have hHt : kD O M c = true := by rw [hH, hf3, hpn, hh]; rfl
   intro w44 e44
   have x44 : Ext w42 w44 := (Ext.aq _).ab e44
   have z44 := dR e44
   have rch : Row w44 w42.heap.size (gC (c, 0)) gz := by rw [e44]; exact Row.new w42 [_, _, _, _] _
   clear e44
   have xd44 := Ext.dr w44
   have zd44 : w44.drew.heap.size = w44.heap.size := rfl
   have x044 := x042.tr (x44.tr xd44)
   have x4444 := x2.tr ((x11.tr x1137).tr (x42.tr (x44.tr xd44)))
   obtain ⟨g2, sd2, hr44, hdr44, hFs, hsdF2, hres44⟩ := (h.ext x044).row
   refine ⟨sd2, hr44.at 5 rfl, fun w46 e46 => ?_⟩
   subst e46
   have hsn : sd2.n = M.eT.length := by have := (hdr44.rd (show 0 < 3 by decide)).n; rwa [List.length_map] at this
   have hkd := hk.d
   obtain ⟨hp8, hres8⟩ := hdr44.mB (bytes := 24) (news := dp (aS c)) (.cells #[.int .i64 (aS c).1, .int .i64 (aS c).2.1, .int .i64 (aS c).2.2] mK) (Nat.zero_le _) rfl (vw _) (by omega) (by omega)
   refine ⟨hp8, fun s47 w48 hr48 => ?_⟩
   obtain ⟨f8, ho8, hn8, x8, hk8, hblk⟩ := hres8 s47 w48 hr48
   have xa := Ext.al w44.drew (.cells #[.int .i64 (aS c).1, .int .i64 (aS c).2.1, .int .i64 (aS c).2.2] mK)
   have hsdlt : ∀ b, sd2.ax = some b → b < w.heap.size := fun b hb => h.lt (hsdF2 b hb)
   have kp : ∀ j, w.heap.size ≤ j → j < w44.drew.heap.size → w48.heap[j]? = (w44.drew.alloc (.cells #[.int .i64 (aS c).1, .int .i64 (aS c).2.1, .int .i64 (aS c).2.2] mK)).heap[j]? := fun j h1 h2 => by
    rw [hk8 j (fun hb => by have := hsdlt j hb; omega) h2, xa.heap h2]
   have hslt := h.lt hFs
   have m48 : Mod (fun j => sd2.ax = some j) w44.drew w48 := Mod.oT x8 hk8
   have hsne : ¬ sd2.ax = some s := fun e => by
    obtain ⟨cs', hr'⟩ := au hdr44 (by decide) e
    exact hr'.ne hr44 (by decide) rfl
   have hr48' := m48.row hr44 hsne
   obtain ⟨p1, p2⟩ := hr48'.iR (j := 5) (v := .slice s47.a s47.n s47.c) (by simp [Gu]) rfl
   have z48 := m48.size
   have pb : ∀ j : Nat, s < j → bD (ae (some ⟨s, 0, none⟩) 5) ≠ some j := fun j hj e => by
    rw [br] at e
    have : s = j := by simpa [bD] using e
    omega
   refine ⟨kp _ (by omega) (by omega), kp _ (by omega) (by omega), kp _ (by omega) (by omega), f8, ⟨rfl, p1⟩, pb _ (by omega), pb _ (by omega), pb _ (by omega), pb _ (by omega), fun w49 e49 => ?_⟩
   obtain ⟨q1, q2⟩ := p2 w49 e49
   have ho9 : ∀ b, s47.ax = some b → b ≠ s := fun b hb => by
    obtain ⟨cs', hr'⟩ := au ho8 (by decide) hb
    exact hr'.ne hr48' (by decide)
   have m49 : Mod (fun j => j = s ∨ sd2.ax = some j) w44.drew w49 := (m48.mono fun i _ hi => .inr hi).trans (q2.mono fun i _ hi => .inl hi)
   obtain ⟨F3, hS3, hT3⟩ := hres44 (M' := { M with eT := M.eT ++ [aS c] }) rfl rfl rfl rfl rfl m49 q1 (by rw [List.map_append]; exact q2.cr ho8 ho9) (fun b hb => by
    rcases hblk with e | e
    ·exact .inl (by rw [← e]; exact hb)
    ·rw [e] at hb; cases hb; exact .inr (Nat.le_succ _))
   have z49 := q2.size
   have hlit : Row w49 w44.drew.heap.size (dp (aS c)) mK := q2.row (Row.same (Row.new w44.drew [_, _, _] mK) f8) (by omega)
   have hnl : ¬ F3 w44.drew.heap.size := hS3.a9 hlit IT.1 (by decide) (by decide) (by decide) (by decide) (by decide) (fun g sd r1 hb => by
    have e1 := (r1.at 5 rfl).symm.trans (q1.at 5 rfl)
    have e2 : sd.a = s47.a := by injection e1 with e1; injection e1
    have e3 : sd.ax = s47.ax := by unfold Sl.ax; rw [e2]
    rw [e3] at hb
    rcases hblk with e | e
    ·have := hsdlt _ (by rw [← e]; exact hb); omega
    ·rw [e] at hb; simp at hb)
   have hch49 : Row w49 w42.heap.size (gC (c, 0)) gz := m49.row (rch.ext xd44) (fun q => by
    rcases q with q | q
    ·omega
    ·have := hsdlt _ q; omega)
   have hF3 : ∀ i, F3 i → i < w.heap.size ∨ w44.heap.size ≤ i := fun i hi => (hT3.sub i hi).imp (fun q => h.lt q) id
   refine ⟨fun n x wr => (x = 0 ∧ n = 1 ∧ wr = w49) ∨ (x = 1 ∧ n = 0 ∧ jf F3 w49 s o t (aM { M with eT := M.eT ++ [aS c] } (c, 0)) occ wr), ⟨1, rfl, rfl, rfl, rfl, .inl ⟨rfl, rfl, rfl⟩⟩, ?_⟩
   rintro n us x wr (⟨rfl, rfl, rfl⟩ | ⟨rfl, rfl, hS⟩)
   ·refine Br.mk (fun _ => ?_) (fun q => by simp at q)
    refine ⟨⟨rfl, by decide, by decide⟩, _, _, _, _, Lo.wv hch49, fun w60 e60 w61 e61 => ?_⟩
    have x61 : Ext wr w61 := ((Ext.aq _).ab e60).ah e61 (Nat.le_refl _)
    have z61 := yA e60 e61
    clear e60 e61
    refine (jT (hS3.ext x61) (c, 0) hc.wide ⟨by have := hk.l; simp only; omega, by have := hk.c; simp only; omega, hk.now, by have := hk.d; simp only [List.length_append, List.length_singleton]; omega⟩).mono ?_
    rintro e w62 ⟨rfl, F4, hS4, hT4⟩
    have nf : ∀ i, (w.heap.size ≤ i ∧ i < w44.heap.size ∨ wr.heap.size ≤ i) → i < w61.heap.size → w62.heap[i]? = w61.heap[i]? := fun i h1 h2 => hT4.mod.same i h2 fun hf => by
     rcases h1 with ⟨h1, h1'⟩ | h1
     ·rcases hF3 i hf with q | q <;> omega
     ·have := hS3.lt hf; omega
    refine ⟨rfl, nf _ (.inl (by omega)) (by omega), nf _ (.inl (by omega)) (by omega), nf _ (.inl (by omega)) (by omega), hT4.mod.same _ (by omega) hnl, nf _ (.inr (by omega)) (by omega), 0, by omega, rfl, rfl, rfl, rfl, .inr ⟨rfl, rfl, F4, hS4, (ao.ar x61).trans hT4⟩⟩
   ·refine Br.mk (fun q => by simp at q) (fun _ => ?_)
    rw [hU, if_pos hHt]
    exact ⟨rfl, jf.trans ((ao.ar x044).trans hT3) hS⟩
  ·have hHf : ¬ kD O M c = true := by rw [hH, hh, Bool.and_false, Bool.and_false]; decide
   refine ⟨fun n x wr => ∃ (j : Nat) (F' : Nat → Prop), x = j ∧ j + n = L.length ∧ SF F' wr s o t ((L.take j).foldl aM M) occ ∧ ao F F' w42 wr, ⟨L.length, rfl, rfl, 0, F, rfl, by omega, h.ext x042, ao.refl _ _⟩, ?_⟩
   rintro n us x wr ⟨j, F', rfl, hj, hS, hT⟩
   have zr := hT.mod.size
   have hzw42 := (x042).size
   have pa : ba wr s12 4 (L.map gC) := hT.mod.Ix (by decide) (hrd.ext (x1137.tr x42)) fun _ b hb hf => by
    have := (ho.own.lt hb).1
    have := h.lt hf
    omega
   have nf : ∀ {w2 : World} {F2 : Nat → Prop} {w1 : World}, Ext wr w1 → ao F' F2 w1 w2 → ∀ i, (w.heap.size ≤ i ∧ i < w42.heap.size ∨ wr.heap.size ≤ i) → i < w1.heap.size → w2.heap[i]? = w1.heap[i]? := fun x1 t2 i h1 h2 => t2.mod.same i h2 fun hf => by
    rcases h1 with ⟨h1, h1'⟩ | h1
    ·rcases hT.sub i hf with q | q
     ·have := h.lt q; omega
     ·omega
    ·have := hS.lt hf; omega
   refine Br.mk (fun hb => ?_) (fun hb => ?_)
   ·replace hb := eN hb
    obtain ⟨y, hy⟩ := aN (l := L) (i := j) (by omega)
    have hy' : (L.map gC)[j]? = some (gC y) := by rw [List.getElem?_map, hy]; rfl
    have htk : L.take (j + 1) = L.take j ++ [y] := by rw [List.take_add_one, hy]; rfl
    have wk : IntKind.wrap .i64 ((j : Int) + 1) = ((j + 1 : Nat) : Int) := by rw [wI]; omega
    refine ⟨pa.eV (i := (j : Int)) (by decide) (by omega) hb, _, _, _, _, pa.aX hy', fun w86 e86 w87 e87 => ?_⟩
    have x87 : Ext wr w87 := ((Ext.aq _).ab e86).ah e87 (Nat.le_refl _)
    have z87 := yA e86 e87
    clear e86 e87
    refine (jT (hS.ext x87) y (hLw y (List.mem_of_getElem? hy)) ((hk.fold (L.take j)).mono (by rw [List.length_take]; omega))).mono ?_
    rintro e w88 ⟨rfl, F2, hS2, hT2⟩
    refine ⟨rfl, nf x87 hT2 _ (.inl (by omega)) (by omega), nf x87 hT2 _ (.inl (by omega)) (by omega), nf x87 hT2 _ (.inr (by omega)) (by omega), n - 1, by omega, rfl, rfl, j + 1, F2, wk, by omega, ?_, (hT.trans (ao.ar x87)).trans hT2⟩
    rw [htk, List.foldl_append]
    exact hS2
   ·replace hb := eO hb
    rw [List.take_of_length_le (by omega)] at hS
    rw [hU, if_neg hHf]
    exact ⟨rfl, F', hS, (ao.ar x042).trans hT⟩
 ·have hHf : ¬ kD O M c = true := by
   have : L = [] := by
    have : ¬ 0 < L.length := by simp only [decide_eq_false_iff_not, gt_iff_lt] at hp; omega
    exact List.length_eq_zero_iff.1 (by omega)
   rw [hH, this]; simp
  refine ⟨fun n x wr => ∃ (j : Nat) (F' : Nat → Prop), x = j ∧ j + n = L.length ∧ SF F' wr s o t ((L.take j).foldl aM M) occ ∧ ao F F' w39 wr, ⟨L.length, rfl, rfl, 0, F, rfl, by omega, h.ext x037, ao.refl _ _⟩, ?_⟩
  rintro n us x wr ⟨j, F', rfl, hj, hS, hT⟩
  have zr := hT.mod.size
  have hzw39 := (x037).size
  have pa : ba wr s12 4 (L.map gC) := hT.mod.Ix (by decide) (hrd.ext x1137) fun _ b hb hf => by
   have := (ho.own.lt hb).1
   have := h.lt hf
   omega
  have nf : ∀ {w2 : World} {F2 : Nat → Prop} {w1 : World}, Ext wr w1 → ao F' F2 w1 w2 → ∀ i, (w.heap.size ≤ i ∧ i < w39.heap.size ∨ wr.heap.size ≤ i) → i < w1.heap.size → w2.heap[i]? = w1.heap[i]? := fun x1 t2 i h1 h2 => t2.mod.same i h2 fun hf => by
   rcases h1 with ⟨h1, h1'⟩ | h1
   ·rcases hT.sub i hf with q | q
    ·have := h.lt q; omega
    ·omega
   ·have := hS.lt hf; omega
  refine Br.mk (fun hb => ?_) (fun hb => ?_)
  ·replace hb := eN hb
   obtain ⟨y, hy⟩ := aN (l := L) (i := j) (by omega)
   have hy' : (L.map gC)[j]? = some (gC y) := by rw [List.getElem?_map, hy]; rfl
   have htk : L.take (j + 1) = L.take j ++ [y] := by rw [List.take_add_one, hy]; rfl
   have wk : IntKind.wrap .i64 ((j : Int) + 1) = ((j + 1 : Nat) : Int) := by rw [wI]; omega
   refine ⟨pa.eV (i := (j : Int)) (by decide) (by omega) hb, _, _, _, _, pa.aX hy', fun w86 e86 w87 e87 => ?_⟩
   have x87 : Ext wr w87 := ((Ext.aq _).ab e86).ah e87 (Nat.le_refl _)
   have z87 := yA e86 e87
   clear e86 e87
   refine (jT (hS.ext x87) y (hLw y (List.mem_of_getElem? hy)) ((hk.fold (L.take j)).mono (by rw [List.length_take]; omega))).mono ?_
   rintro e w88 ⟨rfl, F2, hS2, hT2⟩
   refine ⟨rfl, nf x87 hT2 _ (.inl (by omega)) (by omega), nf x87 hT2 _ (.inl (by omega)) (by omega), nf x87 hT2 _ (.inr (by omega)) (by omega), n - 1, by omega, rfl, rfl, j + 1, F2, wk, by omega, ?_, (hT.trans (ao.ar x87)).trans hT2⟩
   rw [htk, List.foldl_append]
   exact hS2
  ·replace hb := eO hb
   rw [List.take_of_length_le (by omega)] at hS
   rw [hU, if_neg hHf]
   exact ⟨rfl, F', hS, (ao.ar x037).trans hT⟩
 ·have hHf : ¬ kD O M c = true := by
   have : ¬ cD M.T.2 c = 3 := by simpa using hf
   rw [hH, decide_eq_false this]; simp
  refine ⟨fun n x wr => ∃ (j : Nat) (F' : Nat → Prop), x = j ∧ j + n = L.length ∧ SF F' wr s o t ((L.take j).foldl aM M) occ ∧ ao F F' w39 wr, ⟨L.length, rfl, rfl, 0, F, rfl, by omega, h.ext x037, ao.refl _ _⟩, ?_⟩
  rintro n us x wr ⟨j, F', rfl, hj, hS, hT⟩
  have zr := hT.mod.size
  have hzw39 := (x037).size
  have pa : ba wr s12 4 (L.map gC) := hT.mod.Ix (by decide) (hrd.ext x1137) fun _ b hb hf => by
   have := (ho.own.lt hb).1
   have := h.lt hf
   omega
  have nf : ∀ {w2 : World} {F2 : Nat → Prop} {w1 : World}, Ext wr w1 → ao F' F2 w1 w2 → ∀ i, (w.heap.size ≤ i ∧ i < w39.heap.size ∨ wr.heap.size ≤ i) → i < w1.heap.size → w2.heap[i]? = w1.heap[i]? := fun x1 t2 i h1 h2 => t2.mod.same i h2 fun hf => by
   rcases h1 with ⟨h1, h1'⟩ | h1
   ·rcases hT.sub i hf with q | q
    ·have := h.lt q; omega
    ·omega
   ·have := hS.lt hf; omega
  refine Br.mk (fun hb => ?_) (fun hb => ?_)
  ·replace hb := eN hb
   obtain ⟨y, hy⟩ := aN (l := L) (i := j) (by omega)
   have hy' : (L.map gC)[j]? = some (gC y) := by rw [List.getElem?_map, hy]; rfl
   have htk : L.take (j + 1) = L.take j ++ [y] := by rw [List.take_add_one, hy]; rfl
   have wk : IntKind.wrap .i64 ((j : Int) + 1) = ((j + 1 : Nat) : Int) := by rw [wI]; omega
   refine ⟨pa.eV (i := (j : Int)) (by decide) (by omega) hb, _, _, _, _, pa.aX hy', fun w86 e86 w87 e87 => ?_⟩
   have x87 : Ext wr w87 := ((Ext.aq _).ab e86).ah e87 (Nat.le_refl _)
   have z87 := yA e86 e87
   clear e86 e87
   refine (jT (hS.ext x87) y (hLw y (List.mem_of_getElem? hy)) ((hk.fold (L.take j)).mono (by rw [List.length_take]; omega))).mono ?_
   rintro e w88 ⟨rfl, F2, hS2, hT2⟩
   refine ⟨rfl, nf x87 hT2 _ (.inl (by omega)) (by omega), nf x87 hT2 _ (.inl (by omega)) (by omega), nf x87 hT2 _ (.inr (by omega)) (by omega), n - 1, by omega, rfl, rfl, j + 1, F2, wk, by omega, ?_, (hT.trans (ao.ar x87)).trans hT2⟩
   rw [htk, List.foldl_append]
   exact hS2
  ·replace hb := eO hb
   rw [List.take_of_length_le (by omega)] at hS
   rw [hU, if_neg hHf]
   exact ⟨rfl, F', hS, (ao.ar x037).trans hT⟩
end
end Go.Proofs.YtalpkjfpmdpbiaaGreatDoor
namespace Go.Proofs.YtalpkjfpmdpbiaaGreatDoor
open Go Go.Vc Go.RowKit Go.Proofs Go.bQ Go.aB Go.Code Go.kW Go.mw
set_option maxRecDepth 100000
section
variable {F F':Nat->Prop} {w w':World} {s o t:Nat} {M M':Sm} {occ:Value} {O:Ce->Bool}
def zC (l:List Ce):Prop:=∀y ∈ l,pQ y
theorem Oc.mono (h:Oc occ O F w) (hs:∀i,F' i->F i):Oc occ O F' w:=by
 obtain ⟨D,h1,h2⟩:=h
 exact ⟨D,fun i hi=>⟨(h1 i hi).1,fun q=>(h1 i hi).2 (hs i q)⟩,h2⟩
theorem nC.IS {n : Nat} (h : nC M n) (O : Ce → Bool) (c : Ce) : nC (fO O M c) (n + 40) := by
 have h1 := h.l
 have h2 := wM M.q c (M.now + 1)
 unfold fO
 split
 ·exact ⟨by simp only; omega, by have := h.c; simp only; omega, h.now, by have := h.d; simp only; omega⟩
 ·split
  ·have : nC { M with eT := M.eT ++ [aS c] } (n + 1) := ⟨by simp only; omega, by have := h.c; simp only; omega, h.now, by have := h.d; simp only [List.length_append, List.length_singleton]; omega⟩
   exact (this.change _).mono (by omega)
  ·have := zD (cD M.T.2) c
   exact (h.fold _).mono (by omega)
theorem nC.Dc {n : Nat} (O : Ce → Bool) : ∀ {M : Sm} (l : List Ce), nC M n → nC (l.foldl (fO O) M) (n + 40 * l.length)
 | M, [], h => h
 | M, x :: l, h => (nC.Dc O l (h.IS O x)).mono (by simp only [List.length_cons]; omega)
theorem B3 {q:QS} {now b:Int} (hb:1<=b/\b<=64):(mv q now b).2.length<=64:=by
 unfold mv db
 rw [List.length_map,List.length_take]
 omega
theorem kK (h : SF F w s o t M occ) (hO : Oc occ O F w) (hd : zC (ju M)) (hk : nC M 600000) (hb : 1 ≤ M.aO ∧ M.aO ≤ 64) :
  Calls Tryz.prog iW #[.pointer (some ⟨s, 0, none⟩)] w fun e w' => e = .returned (.int .i64 (ju M).length) ∧ jf F w s o t (ig O M) occ w' := by
 obtain ⟨g, sd, hr, ho, -, -, hres⟩ := h.row
 apply lq.vc
 have hnow := hk.now
 have wr : IntKind.wrap .i64 (M.now + 1) = M.now + 1 := wI
 have en : (if 1099511627776 < M.now + 1 then 1099511627776 else M.now + 1) = dP M := by unfold dP; split <;> omega
 obtain ⟨p1, p2⟩ := hr.iR (j := 3) (v := .int .i64 (dP M)) (by simp [Gu]) rfl
 refine ⟨M.now, hr.at 3 rfl, ⟨rfl, p1⟩, fun w1 e1 => ?_⟩
 rw [wr, en] at e1
 obtain ⟨q1, q2⟩ := p2 w1 e1
 have hso : ∀ b, sd.ax = some b → b ≠ s := fun b hb => by
  obtain ⟨cs', hr'⟩ := au ho (by decide) hb
  exact hr'.ne hr (by decide)
 obtain ⟨F1, h1, t1⟩ := hres (M' := { M with now := dP M }) (occ' := occ) (sd' := sd) rfl rfl rfl rfl rfl (q2.mono fun i _ hi => .inl hi) q1 (q2.cr ho hso) (fun b hb => .inl hb)
 have xd := Ext.dr w1
 have t1d := t1.trans (ao.ar xd)
 obtain ⟨g', m, qs, hq, hqok, ⟨sd', hr'⟩, hsub, hresq⟩ := (h1.ext xd).queue
 refine ⟨_, hr'.at 0 rfl, _, hr'.at 3 rfl, _, hr'.at 2 rfl, (Q.EZ hq hqok (dP M) M.aO).mono ?_⟩
 rintro e w5 ⟨s6, rfl, qs', hown, hq', ht⟩
 obtain ⟨F5, h5, t5⟩ := hresq hq' (hqok.due _ _) ht
 have h5 : SF F5 w5 s o t (aT M) occ := h5
 have T5 := t1d.trans t5
 have hO5 := hO.eK T5
 have hrd := hown.rd (show 0 < 3 by decide)
 have hdl : (ju M).length ≤ 64 := B3 hb
 have hrd : ba w5 s6 3 ((ju M).map dp) := hrd
 have hown : af w1.drew.heap.size mK 3 w5 s6 ((ju M).map dp) := hown
 have hk5 : nC (aT M) 600000 := ⟨hk.l, hk.c, by show 0 ≤ dP M ∧ dP M ≤ _; unfold dP; omega, hk.d⟩
 obtain ⟨g1, sd1, r1, -, -, f1, -⟩ := (h1.ext xd).row
 have hsq : ¬ Q.da g' m qs s := hq.a9 hr' (by decide) (by decide)
 have r5 := ht.mod.row r1 hsq
 have hsF : ∀ b, s6.ax = some b → ¬ F5 b := fun b hb => by
  obtain ⟨cs6, hr6⟩ := au hown (by decide) hb
  refine h5.a9 hr6 IT.1 (by decide) (by decide) (by decide) (by decide) (by decide) (fun g sd r2 hb2 => ?_)
  have e1 := (r2.at 5 rfl).symm.trans (r5.at 5 rfl)
  have e2 : sd.a = sd1.a := by injection e1 with e1; injection e1
  have e3 : sd.ax = sd1.ax := by unfold Sl.ax; rw [e2]
  have q1 := h1.lt (f1 b (by rw [← e3]; exact hb2))
  have q2 := (hown.own.lt hb).1
  have q3 : w1.drew.heap.size = w1.heap.size := rfl
  omega
 unfold ig
 generalize ju M = L at *
 generalize aT M = M0 at *
 have hn6 := hrd.n
 rw [List.length_map] at hn6
 refine ⟨s6, rfl, fun n x wr => ∃ (j : Nat) (F' : Nat → Prop), x = j ∧ j + n = L.length ∧ SF F' wr s o t ((L.take j).foldl (fO O) M0) occ ∧ ao F5 F' w5 wr, ⟨L.length, 0, F5, rfl, by omega, h5, ao.refl _ _⟩, ?_⟩
 rintro n us x wr2 ⟨j, F', rfl, hj, hS, hT⟩
 have zr := hT.mod.size
 have pa : ba wr2 s6 3 (L.map dp) := hT.mod.Ix (by decide) hrd fun _ b hb hf => hsF b hb hf
 refine Br.mk (fun hb => ?_) (fun hb => ?_)
 ·replace hb := eN hb
  obtain ⟨y, hy⟩ := aN (l := L) (i := j) (by omega)
  have hy' : (L.map dp)[j]? = some (dp y) := by rw [List.getElem?_map, hy]; rfl
  have htk : L.take (j + 1) = L.take j ++ [y] := by rw [List.take_add_one, hy]; rfl
  have wk : IntKind.wrap .i64 ((j : Int) + 1) = ((j + 1 : Nat) : Int) := by rw [wI]; omega
  have hsm := hd y (List.mem_of_getElem? hy)
  refine ⟨pa.eV (i := (j : Int)) (by decide) (by omega) hb, _, _, _, pa.aX hy', fun w16 e16 w17 e17 => ?_⟩
  have x17 : Ext wr2 w17 := ((Ext.aq _).ab e16).ah e17 (Nat.le_refl _)
  have z17 := yA e16 e17
  clear e16 e17
  refine (zE (hS.ext x17) ((hO5.eK hT).ext x17) y hsm ((hk5.Dc O (L.take j)).mono (by rw [List.length_take]; omega))).mono ?_
  rintro e w18 ⟨rfl, F2, hS2, hT2⟩
  refine ⟨rfl, hT2.mod.same _ (by omega) (fun hf => by have := hS.lt hf; omega), n - 1, by omega, j + 1, F2, wk, by omega, ?_, (hT.trans (ao.ar x17)).trans hT2⟩
  rw [htk, List.foldl_append]
  exact hS2
 ·replace hb := eO hb
  rw [List.take_of_length_le (by omega)] at hS
  exact ⟨by rw [hn6], F', hS, T5.trans hT⟩
end
end Go.Proofs.YtalpkjfpmdpbiaaGreatDoor
