import Derived.Test.YtalpkjfpmdpbiaaGreatDoorYI
import Derived.Test.YtalpkjfpmdpbiaaGreatDoorQB
import Derived.Test.YtalpkjfpmdpbiaaGreatDoorWB
import Derived.Test.YtalpkjfpmdpbiaaGreatDoorP
set_option linter.all false
namespace Go.Proofs.YtalpkjfpmdpbiaaGreatDoor
open Go Go.Vc Go.RowKit Go.Proofs Go.bY Go.aD Go.Code Go.j3 Go.ij
set_option maxRecDepth 100000
theorem rU {l : List En} {V : Ce → Int} (h : Hs l V) (c : Ce) (b : Int) :
  ((aX l c b).2 = 0 ∧ (pos c ∈ dC ∧ ig c ∧ aE b = true) ∧ Hs (aX l c b).1 (iu V c b)) ∨ ((aX l c b).2 ≠ 0 ∧ ¬ (pos c ∈ dC ∧ ig c ∧ aE b = true) ∧ Hs (aX l c b).1 V) := by
 by_cases hk : pos c ∈ dC ∧ ig c ∧ aE b = true
 ·obtain ⟨e1, e2⟩ := h.set hk.1 hk.2.1 hk.2.2
  exact .inl ⟨e1, hk, e2⟩
 ·obtain ⟨e1, e2⟩ := IX (l := l) (c := c) (b := b) fun q => hk ⟨(h.h _).1 q.1, q.2⟩
  exact .inr ⟨e2, hk, by rw [e1]; exact h⟩
theorem Bn{n:Ce}(hp:pos n ∈ dC)(hy:ig n):og n:=by
 have hb:(-1<=(pos n).1/\(pos n).1<=1)/\-1<=(pos n).2/\(pos n).2<=1:=by
  generalize pos n=p at hp
  revert hp
  unfold dC
  intro hp
  simp only [List.mem_cons,List.not_mem_nil,or_false]at hp
  rcases hp with rfl|rfl|rfl|rfl|rfl<;>decide
 unfold Go.bY.pos at hb
 unfold ig at hy
 unfold og
 simp only at hb
 omega
theorem FD {l : List En} {V : Ce → Int} (h : Hs l V) {n : Ce} (hd : 0 < aQ (V n)) : og n := by
 by_cases hh : sw l (pos n)
 ·have hp := (h.h _).1 hh
  have hy : ig n := by
   obtain ⟨e, he, hpe⟩ := hh
   have hv := h.v n
   rw [pF h.n he hpe] at hv
   by_cases h0 : n.2.1 < 0
   ·rw [if_pos h0] at hv
    rw [← hv] at hd
    exact absurd hd (by decide)
   ·rw [if_neg h0] at hv
    by_cases h32 : n.2.1 < 32
    ·exact ⟨by omega, h32⟩
    ·have hk : oK e.1 n = false := by
      cases hb : oK e.1 n with
      | false => rfl
      | true => exact absurd ((ct e.1 n).1 hb).1 (fun q => h32 q.2)
     unfold rA at hv
     rw [hk, if_neg (by decide)] at hv
     rw [← hv] at hd
     exact absurd hd (by decide)
  exact Bn hp hy
 ·have hv := h.v n
  rw [AM hh] at hv
  rw [← hv] at hd
  exact absurd hd (by decide)
theorem Co {q : QS} {c : Ce} {t : Int} {x : Go.j3.It} (h : x ∈ (bM q c t).1.l) : x ∈ q.l ∨ x.2 = c := by
 unfold bM at h
 split at h
 ·split at h
  ·exact .inl h
  ·rcases (xu _ _ _).1 h with rfl | h
   ·exact .inr rfl
   ·exact .inl ((uu _ _).subset h)
 ·split at h
  ·exact .inl h
  ·rcases (xu _ _ _).1 h with rfl | h
   ·exact .inr rfl
   ·exact .inl h
theorem Cp {V : Ce → Int} {now : Int} {x : Go.j3.It} : ∀ (l : List Ce) {q : QS}, x ∈ (l.foldl (km V now) q).l → x ∈ q.l ∨ x.2 ∈ l
 | [], q, h => .inl h
 | n :: l, q, h => by
   rcases Cp l (q := km V now q n) h with h | h
   ·rcases Co h with h | h
    ·exact .inl h
    ·exact .inr (by rw [h]; exact .head _)
   ·exact .inr (.tail _ h)
theorem pI(q:QS)(c:Ce)(t:Int):(bM q c t).1.room=q.room:=by
 unfold bM
 split
 ·split<;>rfl
 ·split<;>rfl
theorem zB (V : Ce → Int) (now : Int) : ∀ (l : List Ce) (q : QS), (l.foldl (km V now) q).room = q.room
 | [], q => rfl
 | n :: l, q => (zB V now l (km V now q n)).trans (pI _ _ _)
def Qe(p q:QS):Prop:=p.l=q.l/\p.room=q.room
theorem Qe.add {p q : QS} (h : Qe p q) (c : Ce) (t : Int) : Qe (bM p c t).1 (bM q c t).1 := by
 refine ⟨?_, by rw [pI, pI, h.2]⟩
 unfold bM
 rw [h.1, h.2]
 split
 ·split
  ·exact h.1
  ·rfl
 ·split <;> rfl
theorem Qe.KZ (V : Ce → Int) (now : Int) : ∀ (l : List Ce) {p q : QS}, Qe p q → Qe (l.foldl (km V now) p) (l.foldl (km V now) q)
 | [], _, _, h => h
 | _ :: l, _, _, h => Qe.KZ V now l (h.add _ _)
theorem Qe.due {p q : QS} (h : Qe p q) (now b : Int) : Qe (nt p now b).1 (nt q now b).1 ∧ (nt p now b).2 = (nt q now b).2 := by
 unfold nt
 exact ⟨⟨by simp only; rw [h.1], h.2⟩, by simp only; rw [h.1]⟩
def Nq(M:Sm):Prop:=M.q.room=4096/\∀x ∈ M.q.l,og x.2
structure Lv(M:Sm)(V:Ce->Int):Prop where
 h:Hs M.T.2 V
 q:Nq M
section
variable{A B M:Sm}{V:Ce->Int}{O:Ce->Bool}
theorem Lv.edit (h : Lv M V) (c : Ce) (b : Int) : ∃ V', Lv (dS M c b) V' := by
 rcases rU h.h c b with ⟨e1, -, h1⟩ | ⟨e1, -, h1⟩
 ·refine ⟨_, h1, ?_⟩
  unfold Nq dS
  simp only
  rw [if_pos e1]
  refine ⟨(zB _ _ _ _).trans h.q.1, fun x hx => ?_⟩
  rcases Cp _ hx with q | q
  ·exact h.q.2 x q
  ·have hd := (List.mem_filter.1 q).2
   rw [show cW (aX M.T.2 c b).1 = iu V c b from funext h1.v] at hd
   exact FD h1 (by simpa using hd)
 ·refine ⟨_, h1, ?_⟩
  unfold Nq dS
  simp only
  rw [if_neg e1]
  exact h.q
theorem Lv.change (h : Lv M V) (x : Go.ij.Cg) : ∃ V', Lv (aR M x) V' := by
 unfold aR
 split
 ·exact ⟨V, h⟩
 ·exact h.edit _ _
theorem Lv.changes : ∀ (l : List Go.ij.Cg) {M : Sm} {V : Ce → Int}, Lv M V → ∃ V', Lv (l.foldl aR M) V'
 | [], M, V, h => ⟨V, h⟩
 | x :: l, M, V, h => by
   obtain ⟨V', h'⟩ := h.change x
   exact Lv.changes l h'
theorem Lv.Jn (h : Lv M V) (O : Ce → Bool) {c : Ce} (hc : og c) : ∃ V', Lv (gd O M c) V' := by
 unfold gd
 split
 ·refine ⟨V, h.h, (pI _ _ _).trans h.q.1, fun x hx => ?_⟩
  rcases Co hx with q | q
  ·exact h.q.2 x q
  ·rw [q]; exact hc
 ·split
  ·exact Lv.change (M := { M with dn := M.dn ++ [a8 c] }) ⟨h.h, h.q⟩ _
  ·exact Lv.changes _ h
theorem Lv.vk (O : Ce → Bool) : ∀ (l : List Ce) {M : Sm} {V : Ce → Int}, BP l → Lv M V → ∃ V', Lv (l.foldl (gd O) M) V'
 | [], M, V, _, h => ⟨V, h⟩
 | x :: l, M, V, hn, h => by
   obtain ⟨V', h'⟩ := h.Jn O (hn x (.head _))
   exact Lv.vk O l (fun y hy => hn y (.tail _ hy)) h'
theorem Lv.due (h : Lv M V) : BP (jZ M) ∧ Lv (jw M) V := by
 refine ⟨fun y hy => ?_, h.h, h.q.1, fun x hx => h.q.2 x (List.mem_of_mem_drop hx)⟩
 obtain ⟨x, hx, rfl⟩ := List.mem_map.1 hy
 exact h.q.2 x (List.mem_of_mem_take hx)
theorem Lv.tick (h : Lv M V) (O : Ce → Bool) : ∃ V', Lv (j5 O M) V' := Lv.vk O _ h.due.1 h.due.2
structure rW(A B:Sm):Prop where
 v:∃V,Hs A.T.2 V/\Hs B.T.2 V
 q:Qe A.q B.q
 now:A.now=B.now
 b:A.ax=B.ax
theorem rW.edit (h : rW A B) (c : Ce) (b : Int) : rW (dS A c b) (dS B c b) := by
 obtain ⟨V, hA, hB⟩ := h.v
 rcases rU hA c b with ⟨a1, a2, a3⟩ | ⟨a1, a2, a3⟩ <;> rcases rU hB c b with ⟨b1, b2, b3⟩ | ⟨b1, b2, b3⟩
 ·refine ⟨⟨_, a3, b3⟩, ?_, h.now, h.b⟩
  unfold dS
  simp only
  rw [if_pos a1, if_pos b1, funext a3.v, funext b3.v, h.now]
  exact h.q.KZ _ _ _
 ·exact absurd a2 b2
 ·exact absurd b2 a2
 ·refine ⟨⟨_, a3, b3⟩, ?_, h.now, h.b⟩
  unfold dS
  simp only
  rw [if_neg a1, if_neg b1]
  exact h.q
theorem rW.at(h:rW A B):cW A.T.2=cW B.T.2:=by
 obtain⟨V,hA,hB⟩:=h.v
 rw [funext hA.v,funext hB.v]
theorem rW.change (h : rW A B) (x : Go.ij.Cg) : rW (aR A x) (aR B x) := by
 unfold aR
 rw [h.at]
 split
 ·exact h
 ·exact h.edit _ _
theorem rW.changes : ∀ (l : List Go.ij.Cg) {A B : Sm}, rW A B → rW (l.foldl aR A) (l.foldl aR B)
 | [], A, B, h => h
 | x :: l, A, B, h => rW.changes l (h.change x)
theorem rW.ready (h : rW A B) (c : Ce) : lT A.T.2 c = lT B.T.2 c := by
 obtain ⟨V, hA, hB⟩ := h.v
 have key : ∀ q : Po, (q ∈ A.T.2.map (·.1)) ↔ (q ∈ B.T.2.map (·.1)) := fun q => by
  have e1 : ∀ {l : List En}, q ∈ l.map (·.1) ↔ sw l q := fun {l} => ⟨fun h => by obtain ⟨e, he, rfl⟩ := List.mem_map.1 h; exact ⟨e, he, rfl⟩, fun ⟨e, he, hq⟩ => List.mem_map.2 ⟨e, he, hq⟩⟩
  rw [e1, e1, hA.h, hB.h]
 unfold lT
 congr 1
 funext q
 rw [decide_eq_decide]
 exact key q
theorem rW.Jn (h : rW A B) (O : Ce → Bool) (c : Ce) : rW (gd O A c) (gd O B c) := by
 unfold gd pV
 rw [h.ready c, h.at]
 split
 ·exact ⟨h.v, by simp only; rw [h.now]; exact h.q.add _ _, h.now, h.b⟩
 ·split
  ·exact rW.change (A := { A with dn := A.dn ++ [a8 c] }) (B := { B with dn := B.dn ++ [a8 c] }) ⟨h.v, h.q, h.now, h.b⟩ _
  ·exact rW.changes _ h
theorem rW.vk (O : Ce → Bool) : ∀ (l : List Ce) {A B : Sm}, rW A B → rW (l.foldl (gd O) A) (l.foldl (gd O) B)
 | [], A, B, h => h
 | x :: l, A, B, h => rW.vk O l (h.Jn O x)
theorem rW.tick (h : rW A B) (O : Ce → Bool) : jZ A = jZ B ∧ rW (j5 O A) (j5 O B) := by
 have e1 : jZ A = jZ B := by unfold jZ nE; rw [h.now, h.b]; exact (h.q.due _ _).2
 refine ⟨e1, ?_⟩
 unfold j5
 rw [e1]
 refine rW.vk O _ ⟨h.v, ?_, ?_, h.b⟩
 ·unfold jw nE; simp only; rw [h.now, h.b]; exact (h.q.due _ _).1
 ·unfold jw nE; simp only; rw [h.now]
def yt (V : Ce → Int) (ch : List Go.ij.Cg) : Ce → Int := ch.foldl (fun V x => iu V x.1 x.2) V
theorem EE (V : Ce → Int) (ch : List Go.ij.Cg) (x : Go.ij.Cg) : yt V (ch ++ [x]) = iu (yt V ch) x.1 x.2 := by
 unfold yt
 rw [List.foldl_append]
 rfl
structure Rp (V0 : Ce → Int) (M : Sm) : Prop where
 h : Hs M.T.2 (yt V0 M.ch)
 ok : ∀ x ∈ M.ch, pos x.1 ∈ dC ∧ ig x.1 ∧ aE x.2 = true
theorem IY{V:Ce->Int}{c:Ce}{b:Int}(h:V c=b):iu V c b=V:=funext fun x=>by
 unfold iu
 split
 ·rename_i q;rw [q,h]
 ·rfl
theorem Rp.edit {V0 : Ce → Int} (h : Rp V0 M) (c : Ce) (b : Int) : Rp V0 (dS M c b) := by
 rcases rU h.h c b with ⟨e1, e2, h1⟩ | ⟨e1, e2, h1⟩
 ·by_cases hb : cW M.T.2 c = b
  ·have ew : mV M.T.2 M.ch c b = M.ch := by unfold mV; rw [if_neg fun q => q.2 hb]
   have hv : yt V0 M.ch c = b := (h.h.v c).symm.trans hb
   rw [IY hv] at h1
   exact ⟨by show Hs (aX M.T.2 c b).1 (yt V0 (mV M.T.2 M.ch c b)); rw [ew]; exact h1, by show ∀ x ∈ mV M.T.2 M.ch c b, _; rw [ew]; exact h.ok⟩
  ·have ew : mV M.T.2 M.ch c b = M.ch ++ [(c, b)] := by unfold mV; rw [if_pos ⟨e1, hb⟩]
   refine ⟨by show Hs (aX M.T.2 c b).1 (yt V0 (mV M.T.2 M.ch c b)); rw [ew]; unfold yt; rw [List.foldl_append]; exact h1, ?_⟩
   show ∀ x ∈ mV M.T.2 M.ch c b, _
   rw [ew]
   intro x hx
   rcases List.mem_append.1 hx with hx | hx
   ·exact h.ok x hx
   ·rw [List.mem_singleton.1 hx]; exact e2
 ·have ew : mV M.T.2 M.ch c b = M.ch := by unfold mV; rw [if_neg fun q => e1 q.1]
  exact ⟨by show Hs (aX M.T.2 c b).1 (yt V0 (mV M.T.2 M.ch c b)); rw [ew]; exact h1, by show ∀ x ∈ mV M.T.2 M.ch c b, _; rw [ew]; exact h.ok⟩
theorem Rp.change {V0 : Ce → Int} (h : Rp V0 M) (x : Go.ij.Cg) : Rp V0 (aR M x) := by
 unfold aR
 split
 ·exact h
 ·exact h.edit _ _
theorem Rp.changes {V0 : Ce → Int} : ∀ (l : List Go.ij.Cg) {M : Sm}, Rp V0 M → Rp V0 (l.foldl aR M)
 | [], M, h => h
 | x :: l, M, h => Rp.changes l (h.change x)
theorem Rp.Jn {V0 : Ce → Int} (h : Rp V0 M) (O : Ce → Bool) (c : Ce) : Rp V0 (gd O M c) := by
 unfold gd
 split
 ·exact ⟨h.h, h.ok⟩
 ·split
  ·exact Rp.change (M := { M with dn := M.dn ++ [a8 c] }) ⟨h.h, h.ok⟩ _
  ·exact Rp.changes _ h
theorem Rp.vk {V0 : Ce → Int} (O : Ce → Bool) : ∀ (l : List Ce) {M : Sm}, Rp V0 M → Rp V0 (l.foldl (gd O) M)
 | [], M, h => h
 | x :: l, M, h => Rp.vk O l (h.Jn O x)
theorem Rp.tick {V0 : Ce → Int} (h : Rp V0 M) (O : Ce → Bool) : Rp V0 (j5 O M) := Rp.vk O _ (M := jw M) ⟨h.h, h.ok⟩
end
end Go.Proofs.YtalpkjfpmdpbiaaGreatDoor
namespace Go.Proofs.YtalpkjfpmdpbiaaGreatDoor
open Go Go.Vc Go.RowKit Go.Proofs Go.bY Go.aD Go.Code Go.j3 Go.ij
set_option maxRecDepth 100000
theorem pG (c c' : Ce) (a b d : Int) (he : c' = (c.1 + a, c.2.1 + b, c.2.2 + d)) (hc : cY c) (ha : (-1 ≤ a ∧ a ≤ 1) ∧ (-1 ≤ b ∧ b ≤ 1) ∧ -1 ≤ d ∧ d ≤ 1) (w : World) : Calls Tryz.prog dZ #[iR c, a, b, d] w fun e w' => e = .returned (iR c') ∧ Ext w w' := by
 subst he
 apply xm.vc
 obtain ⟨⟨h1, h2⟩, ⟨h3, h4⟩, h5, h6⟩ := id hc
 have q1 : IntKind.wrap .i64 (c.1 + a) = c.1 + a := wI
 have q2 : IntKind.wrap .i64 (c.2.1 + b) = c.2.1 + b := wI
 have q3 : IntKind.wrap .i64 (c.2.2 + d) = c.2.2 + d := wI
 intro w0 e0 w1 e1 w2 e2
 rw [q1, q2, q3]
 exact ⟨rfl, (((Ext.ao _).aa e0).aa e1).af e2 (by rw [e0]; simp)⟩
theorem Ar (c : Ce) (hc : cY c) (w : World) : Calls Tryz.prog mH #[iR c] w fun e w' => ∃ s : Sl, e = .returned s ∧ ag w.heap.size jY 3 w' s ((c :: eK c).map di) ∧ Ext w w' := by
 apply re.vc
 intro w0 e0
 have x0 : Ext w w0.drew := ((Ext.ao _).aa e0).tr (Ext.dr w0)
 have z0 : w0.drew.heap.size = w.heap.size + 1 := by show w0.heap.size = _; rw [e0]; simp
 have r0 : Row w0.drew w.heap.size (di c) jY := (by rw [e0]; exact Row.new w [_, _, _] _ : Row w0 w.heap.size _ jY).ext (Ext.dr w0)
 clear e0
 refine (pG c (c.1 - 1, c.2.1, c.2.2) (-1) 0 0 (nc (by omega) (by omega) (by omega)) hc (by decide) w0.drew).mono ?_
 rintro e w1 ⟨rfl, x1⟩
 have z1 := x1.size
 have r1 := Lo.wv (r0.ext x1)
 refine ⟨_, _, _, rfl, x1.k, r1, r1, r1, r1, r1, r1, (pG c (c.1 + 1, c.2.1, c.2.2) 1 0 0 (nc (by omega) (by omega) (by omega)) hc (by decide) w1).mono ?_⟩
 rintro e w5 ⟨rfl, x5⟩
 have y5 := x1.tr x5
 have z5 := y5.size
 have r5 := Lo.wv (r0.ext y5)
 refine ⟨_, _, _, rfl, x5.k, r5, r5, r5, r5, r5, (pG c (c.1, c.2.1 - 1, c.2.2) 0 (-1) 0 (nc (by omega) (by omega) (by omega)) hc (by decide) w5).mono ?_⟩
 rintro e w9 ⟨rfl, x9⟩
 have y9 := y5.tr x9
 have z9 := y9.size
 have r9 := Lo.wv (r0.ext y9)
 refine ⟨_, _, _, rfl, x9.k, r9, r9, r9, r9, (pG c (c.1, c.2.1 + 1, c.2.2) 0 1 0 (nc (by omega) (by omega) (by omega)) hc (by decide) w9).mono ?_⟩
 rintro e w13 ⟨rfl, x13⟩
 have y13 := y9.tr x13
 have z13 := y13.size
 have r13 := Lo.wv (r0.ext y13)
 refine ⟨_, _, _, rfl, x13.k, r13, r13, r13, (pG c (c.1, c.2.1, c.2.2 - 1) 0 0 (-1) (nc (by omega) (by omega) (by omega)) hc (by decide) w13).mono ?_⟩
 rintro e w17 ⟨rfl, x17⟩
 have y17 := y13.tr x17
 have z17 := y17.size
 have r17 := Lo.wv (r0.ext y17)
 refine ⟨_, _, _, rfl, x17.k, r17, r17, (pG c (c.1, c.2.1, c.2.2 + 1) 0 0 1 (nc (by omega) (by omega) (by omega)) hc (by decide) w17).mono ?_⟩
 rintro e w21 ⟨rfl, x21⟩
 have y21 := y17.tr x21
 have z21 := y21.size
 refine ⟨_, _, _, rfl, x21.k, Lo.wv (r0.ext y21), fun w25 e25 => ?_⟩
 have hr : Row w25 w21.heap.size (((c :: eK c).map di).flatten) jY := by rw [e25]; exact Row.new w21 [_, _, _, _, _, _, _, _, _, _, _, _, _, _, _, _, _, _, _, _, _] _
 refine ⟨⟨some ⟨w21.heap.size, 0, none⟩, 7, 7⟩, rfl, ag.fC (by omega) hr (by simp [eK]) (Nat.le_refl _) rfl (by intro r hr; obtain ⟨y, -, rfl⟩ := List.mem_map.1 hr; rfl), (x0.tr y21).aa e25⟩
theorem yy (b : Int) (w : World) : Calls Tryz.prog k9 #[b] w fun e w' => e = .returned (.int .i64 (aQ b)) ∧ w' = w := by
 apply oR.vc
 unfold aQ
 refine Br.mk (fun h => ?_) (fun h => ?_)
 ·rw [if_pos (by simpa using h)]; exact ⟨rfl, rfl⟩
 ·rw [if_neg (by simpa using h)]
  have wet : Calls Tryz.prog oS #[b] w fun e w' => e = .returned (.bool (nr b)) ∧ w' = w := by
   apply uo.vc
   unfold nr
   refine Br.mk (fun h => ⟨?_, rfl⟩) (fun h => ⟨?_, rfl⟩)
   ·have h1 : (8 : Int) ≤ b := by simpa using h
    rw [decide_eq_true h1, Bool.true_and]
    congr 2
    first | rfl | (rw [decide_eq_decide]; omega)
   ·have h1 : ¬ (8 : Int) ≤ b := by simpa using h
    rw [decide_eq_false h1, Bool.false_and]
  refine wet.mono ?_
  rintro e w0 ⟨rfl, rfl⟩
  refine ⟨_, rfl, Br.mk (fun h => ?_) (fun h => ?_)⟩
  ·rw [if_pos h]; exact ⟨rfl, rfl⟩
  ·rw [if_neg (by rw [h]; decide)]; exact ⟨rfl, rfl⟩
end Go.Proofs.YtalpkjfpmdpbiaaGreatDoor
namespace Go.Proofs.YtalpkjfpmdpbiaaGreatDoor
open Go Go.Vc Go.RowKit Go.Proofs Go.bY Go.aD Go.Code Go.j3 Go.ij
set_option maxRecDepth 100000
abbrev KE(ae cap:Int)(d:Dk)(s1 s2 s3 s4:Sl)(q:QS)(sq:Sl)(bud now:Int)(so sd:Sl):List Value:=[.int .i64 ae,.int .i64 cap,.int .i64 d.room,.int .i64 d.cS,.int .i64 d.wait,.slice s1.a s1.n s1.c,.slice s2.a s2.n s2.c,.slice s3.a s3.n s3.c,.slice s4.a s4.n s4.c,.int .i64 q.room,.int .i64 q.lost,.slice sq.a sq.n sq.c,.int .i64 bud,.int .i64 now,.slice so.a so.n so.c,.slice sd.a sd.n sd.c]
structure RS (P : Nat → Prop) (w : World) (T : Tb) (ch : List Go.ij.Cg) (q : QS) (s1 s2 s3 s4 sq : Sl) : Prop where
 t : RT P w T s1 s2 s3
 g : RG P w s4 ch
 qo : ag 0 Q.tX 4 w sq (q.l.map a9)
 ok : rV q
def sQ (V : Ce → Int) (now : Int) (q : QS) (n : Ce) : QS := if decide (0 < aQ (V n)) = true then km V now q n else q
theorem HU (V : Ce → Int) (now : Int) (q : QS) (c : Ce) : m7 V now q c = (c :: eK c).foldl (sQ V now) q := by
 unfold m7 eY
 rw [List.foldl_filter]
 rfl
theorem zE (V : Ce → Int) (now : Int) : ∀ (l : List Ce) (q : QS), q.lost ≤ (l.foldl (sQ V now) q).lost ∧ (l.foldl (sQ V now) q).lost ≤ q.lost + l.length
 | [], q => ⟨Int.le_refl _, by simp⟩
 | n :: l, q => by
   have h1 := zE V now l (sQ V now q n)
   have h2 := pD q n (now + aQ (V n))
   have h3 : (sQ V now q n).lost = q.lost ∨ (sQ V now q n).lost = (bM q n (now + aQ (V n))).1.lost := by
    unfold sQ
    split
    ·exact .inr rfl
    ·exact .inl rfl
   simp only [List.foldl_cons, List.length_cons]
   omega
theorem Em {V : Ce → Int} {now : Int} {q : QS} (h : rV q) (n : Ce) : rV (sQ V now q n) := by
 unfold sQ
 split
 ·exact h.add _ _
 ·exact h
section
variable{P P':Nat->Prop}{w w' v v':World}{s s1 s2 s3 s4 sq so sd:Sl}{T:Tb}{ch:List Go.ij.Cg}{q:QS}{ae cap bud now:Int}
theorem Dy (h : RT P w T s1 s2 s3) (ho : Ex T) (q : QS) (c : Ce) (hc : lx c) : Calls Tryz.prog rp #[.agg (KE ae cap T.1 s1 s2 s3 s4 q sq bud now so sd).toArray, iR c] w fun e w' => e = .returned (.int .i64 (cW T.2 c)) ∧ Ext w w' := by
 apply (xW.vc (a0_5 := s1) (a0_6 := s2) (a0_7 := s3) (a0_8 := s4) (a0_11 := sq) (a0_14 := so) (a0_15 := sd))
 intro w0 e0 w1 e1
 have x1 : Ext w w1 := ((Ext.ao _).aa e0).aa e1
 have z0 := cL e0
 have z1 : w1.heap.size = w.heap.size + 2 := by rw [e1]; simp [z0]
 clear e0 e1
 refine (wF (ae := ae) (cap := cap) (h.ext x1) ho c hc).mono ?_
 rintro e w2 ⟨rfl, x2⟩
 exact ⟨_, rfl, x2.k, x2.k, rfl, x1.tr x2⟩
theorem Ai (h : RS P w T ch q s1 s2 s3 s4 sq) (hP : Fw P w) (ho : Ex T) (hn : ch.length ≤ 900000) (hl : 0 ≤ q.lost ∧ q.lost ≤ 900000) (hnow : 0 ≤ now ∧ now ≤ 1099511627776) (c : Ce) (hc : cY c) (b : Int) :
  Calls Tryz.prog sP #[.agg (KE ae cap T.1 s1 s2 s3 s4 q sq bud now so sd).toArray, iR c, b] w fun e w' => ∃ s1' s2' s3' s4' sq' : Sl, e = .returned (.tuple #[.agg (KE ae cap T.1 s1' s2' s3' s4' (if (aX T.2 c b).2 = 0 then m7 (cW (aX T.2 c b).1) now q c else q) sq' bud now so sd).toArray, .int .i64 (aX T.2 c b).2]) ∧ RS P w' (T.1, (aX T.2 c b).1) (mV T.2 ch c b) (if (aX T.2 c b).2 = 0 then m7 (cW (aX T.2 c b).1) now q c else q) s1' s2' s3' s4' sq' ∧ Ext w w' := by
 apply (rq.vc (a0_5 := s1) (a0_6 := s2) (a0_7 := s3) (a0_8 := s4) (a0_11 := sq) (a0_14 := so) (a0_15 := sd))
 intro w0 e0 w1 e1 w2 e2
 have x2 : Ext w w2 := (((Ext.ao _).aa e0).aa e1).aa e2
 have z0 := cL e0
 have z1 : w1.heap.size = w.heap.size + 2 := by rw [e1]; simp [z0]
 have z2 : w2.heap.size = w.heap.size + 3 := by rw [e2]; simp [z1]
 have ra2 : Row w2 w.heap.size (KE ae cap T.1 s1 s2 s3 s4 q sq bud now so sd) cx := ((by rw [e0]; exact Row.new w [_, _, _, _, _, _, _, _, _, _, _, _, _, _, _, _] _ : Row w0 w.heap.size _ cx).ext ((Ext.ao _).aa e1)).ext ((Ext.ao _).aa e2)
 have rb2 : Row w2 w1.heap.size [(0:Int), (0:Int), (0:Int), (0:Int), (0:Int), .slice none 0 0, .slice none 0 0, .slice none 0 0, .slice none 0 0, (0:Int), (0:Int), .slice none 0 0, (0:Int), (0:Int), .slice none 0 0, .slice none 0 0] cx := by rw [e2]; exact Row.new w1 [_, _, _, _, _, _, _, _, _, _, _, _, _, _, _, _] _
 clear e0 e1 e2
 have hT2 := h.t.Bi x2 w2.heap.size
 have hG2 := h.g.Bi x2 w2.heap.size
 have hP2 := hP.bx x2 (Nat.le_refl _)
 refine (Bh (ae := ae) (cap := cap) hT2 hG2 hP2 ho (by omega) c hc.ok b).mono ?_
 rintro e w3 ⟨t1, t2, t3, t4, rfl, h3, g3, x3⟩
 have z3 := x3.size
 refine ⟨_, _, _, _, _, t1, t2, t3, t4, _, rfl, x3.k, x3.k, x3.k, fun w14 e14 w15 e15 w16 e16 => ?_⟩
 have x15 : Ext w3 w15 := ((Ext.ao _).aa e14).af e15 (Nat.le_refl _)
 have z15 := rB e14 e15
 have z16 := vj e16
 have h16 := (h3.ext x15).box e16 ⟨by omega, by omega⟩
 have g16 := (g3.ext x15).box e16 ⟨by omega, by omega⟩
 have x16 : Ext w w16 := (x2.tr (x3.tr x15)).af e16 (Nat.le_refl _)
 have ra16 : Row w16 w.heap.size (KE ae cap T.1 t1 t2 t3 t4 q sq bud now so sd) cx := by rw [e16]; exact Row.set (ra2.ext (x3.tr x15)) _
 have q16 := h.qo.ext x16
 have nbox : w1.heap.size ≠ w.heap.size := by omega
 have rb16 : ∃ cs, Row w16 w1.heap.size cs cx := ⟨_, (rb2.ext (x3.tr x15)).same (by rw [e16, setRow_other _ _ _ _ nbox])⟩
 have ot : cx ≠ Q.tX := by decide
 clear e14 e15 e16
 refine Br.mk (fun hb => fun w17 e17 => ?_) (fun hb => ?_)
 ·have hb : ¬ (aX T.2 c b).2 = 0 := by simpa using hb
  rw [if_neg hb]
  have hk : ∀ g, sq.ay = some g → g < w.heap.size := fun g hg => (h.qo.own.lt hg).2
  exact ⟨t1, t2, t3, t4, sq, rfl, ⟨(h16.box e17 ⟨by omega, by omega⟩).out, (g16.box e17 ⟨by omega, by omega⟩).out, ag.aW q16 fun g hg => by have := hk g hg; rw [e17, setRow_other _ _ _ _ (by omega)], h.ok⟩, x16.af e17 (by omega)⟩
 have hb : (aX T.2 c b).2 = 0 := by simpa using hb
 rw [if_pos hb, HU, hb]
 have hok' := DW ho c b
 generalize aX T.2 c b = S at *
 refine (Ar c hc w16).mono ?_
 rintro e w18 ⟨s19, rfl, hnr, x18⟩
 have z18 := x18.size
 have hrd := hnr.rd (show 0 < 3 by decide)
 have hn19 : s19.n = 7 := hrd.n
 refine ⟨s19, rfl, x18.k, x18.k, x18.k, x18.k, fun n x a1 a2 a3 a4 a5 b1 b2 b3 b4 c1 c2 c3 c4 c5 c6 c7 wr => ∃ (j : Nat) (qj : QS) (sj : Sl), x = j ∧ j + n = 7 ∧ a1 = ae ∧ a2 = cap ∧ a3 = T.1.room ∧ a4 = T.1.cS ∧ a5 = T.1.wait ∧ b1 = ⟨t1.a, t1.n, t1.c⟩ ∧ b2 = ⟨t2.a, t2.n, t2.c⟩ ∧ b3 = ⟨t3.a, t3.n, t3.c⟩ ∧ b4 = ⟨t4.a, t4.n, t4.c⟩ ∧ c1 = qj.room ∧ c2 = qj.lost ∧ c3 = sj ∧ c4 = bud ∧ c5 = now ∧ c6 = ⟨so.a, so.n, so.c⟩ ∧ c7 = ⟨sd.a, sd.n, sd.c⟩ ∧ qj = ((c :: eK c).take j).foldl (sQ (cW S.1) now) q ∧ rV qj ∧ ag 0 Q.tX 4 wr sj (qj.l.map a9) ∧ RT (Bx P w.heap.size w2.heap.size) wr (T.1, S.1) t1 t2 t3 ∧ RG (Bx P w.heap.size w2.heap.size) wr t4 (mV T.2 ch c b) ∧ ag w16.heap.size jY 3 wr s19 ((c :: eK c).map di) ∧ Ext w wr ∧ (∃ cs, Row wr w1.heap.size cs cx) ∧ w18.heap.size ≤ wr.heap.size ∧ Row wr w.heap.size (KE ae cap T.1 t1 t2 t3 t4 qj sj bud now so sd) cx, ⟨7, rfl, rfl, rfl, 0, q, sq, rfl, rfl, rfl, rfl, rfl, rfl, rfl, rfl, rfl, rfl, rfl, rfl, rfl, rfl, rfl, rfl, rfl, rfl, rfl, h.ok, q16.ext x18, h16.ext x18, g16.ext x18, hnr, x16.tr x18, (by obtain ⟨cs, hcs⟩ := rb16; exact ⟨cs, hcs.ext x18⟩), Nat.le_refl _, ra16.ext x18⟩, ?_⟩
 rintro n us x a1 a2 a3 a4 a5 b1 b2 b3 b4 c1 c2 c3 c4 c5 c6 c7 wr ⟨j, qj, sj, rfl, hj, rfl, rfl, rfl, rfl, rfl, rfl, rfl, rfl, rfl, rfl, rfl, rfl, rfl, rfl, rfl, rfl, hqj, hqok, hqo, hT, hG, hnear, xw, ⟨csb, hrb⟩, zr, hra⟩
 refine Br.mk (fun hb2 => ?_) (fun hb2 => ?_)
 ·replace hb2 := dj hb2
  obtain ⟨y, hy⟩ := aI (l := c :: eK c) (i := j) (by have : (c :: eK c).length = 7 := rfl; omega)
  have oky : lx y := by
   rcases List.mem_cons.1 (List.mem_of_getElem? hy) with rfl | h
   ·exact hc.ok
   ·exact uQ hc h
  have hy' : ((c :: eK c).map di)[j]? = some (di y) := by rw [List.getElem?_map, hy]; rfl
  have htk : (c :: eK c).take (j + 1) = (c :: eK c).take j ++ [y] := by rw [List.take_add_one, hy]; rfl
  have wk : IntKind.wrap .i64 ((j : Int) + 1) = ((j + 1 : Nat) : Int) := by rw [wI]; omega
  have hrdr := hnear.rd (show 0 < 3 by decide)
  have xd := Ext.dr wr
  have zd : wr.drew.heap.size = wr.heap.size := rfl
  have hin := hrdr.ee (i := (j : Int)) (by decide) (by omega) hb2
  refine ⟨hin, _, _, _, (hrdr.ext xd).aL hy', (Dy (ae := a1) (cap := a2) (s4 := t4) (sq := c3) (bud := c4) (now := c5) (so := so) (sd := sd) (hT.ext xd) hok' qj y oky).mono ?_⟩
  rintro e w45 ⟨rfl, x45⟩
  have z45 := x45.size
  refine ⟨_, rfl, x45.k, x45.k, x45.k, x45.k, (yy (cW S.1 y) w45).mono ?_⟩
  rintro e w47 ⟨rfl, hw47⟩
  subst hw47
  have x47 := xd.tr x45
  have hd := BB (cW S.1 y)
  have wr2 : IntKind.wrap .i64 (c5 + aQ (cW S.1 y)) = c5 + aQ (cW S.1 y) := wI
  have hlost := zE (cW S.1) c5 ((c :: eK c).take j) q
  have hltk : ((c :: eK c).take j).length ≤ 7 := by rw [List.length_take]; omega
  rw [← hqj] at hlost
  refine ⟨_, rfl, rfl, rfl, rfl, rfl, Br.mk (fun hd2 => ?_) (fun hd2 => ?_)⟩
  ·have hd2 : decide (0 < aQ (cW S.1 y)) = true := by simpa using hd2
   have hadd : sQ (cW S.1) c5 qj y = (bM qj y (c5 + aQ (cW S.1 y))).1 := by unfold sQ; rw [if_pos hd2]
   have xd2 := x47.tr (Ext.dr w47)
   have zd2 : w47.drew.heap.size = w47.heap.size := rfl
   refine ⟨hin, _, _, _, (hrdr.ext xd2).aL hy', ?_, fun w60 e60 => ?_⟩
   ·rw [wr2]
    refine (Q.zj (hqo.ext xd2) hqok (by omega) y (c5 + aQ (cW S.1 y))).mono ?_
    rintro e w52 ⟨⟨s', rfl, ho52⟩, x52⟩
    have z52 := x52.size
    have x052 := xd2.tr x52
    refine ⟨_, _, s', _, rfl, x52.k, x52.k, x52.k, x52.k, (hra.ext x052).aL (o := 13) (fun j hj => by
     match j, hj with
     | 0, _ => rfl), fun w57 e57 w58 e58 w59 e59 => ?_⟩
    have x58 : Ext w52 w58 := ((Ext.ao _).aa e57).af e58 (Nat.le_refl _)
    have z58 := x58.size
    clear e57 e58
    have xx := x052.tr x58
    have ho58 := ho52.ext x58
    have hra58 := hra.ext xx
    have z59 := vj e59
    refine ⟨n - 1, by omega, rfl, rfl, rfl, j + 1, _, s', wk, by omega, rfl, rfl, rfl, rfl, rfl, rfl, rfl, rfl, rfl, by rw [hadd], by rw [hadd], rfl, rfl, rfl, rfl, rfl, by rw [htk, List.foldl_append, ← hqj]; rfl, Em hqok y, ?_, (hT.ext xx).box e59 ⟨by omega, by omega⟩, (hG.ext xx).box e59 ⟨by omega, by omega⟩, ag.aW (hnear.ext xx) (fun g hg => by have := (hnear.own.lt hg).1; rw [e59, setRow_other _ _ _ _ (by omega)]), (xw.tr xx).af e59 (Nat.le_refl _), ⟨csb, (hrb.ext xx).same (by rw [e59, setRow_other _ _ _ _ nbox])⟩, by omega, by rw [hadd, e59]; exact Row.set hra58 _⟩
    rw [hadd]
    refine ag.aW ho58 fun g hg => ?_
    obtain ⟨cs', hr'⟩ := av ho58 (by decide) hg
    rw [e59, setRow_other _ _ _ _ (hr'.ne hra58 ot.symm)]
   ·have x60 : Ext wr w60 := xd2.aa e60
    have z60 := cL e60
    have rq60 : ∃ τ, Row w60 w47.drew.heap.size [(0:Int), (0:Int), .slice none 0 0] τ ∧ Q.tX ≠ τ := ⟨36, by rw [e60]; exact Row.new w47.drew [_, _, _] _, by decide⟩
    obtain ⟨τq, rq60, oq⟩ := rq60
    clear e60
    rw [wr2]
    refine (Q.zj (hqo.ext x60) hqok (by omega) y (c5 + aQ (cW S.1 y))).mono ?_
    rintro e w61 ⟨⟨s', rfl, ho61⟩, x61⟩
    have z61 := x61.size
    have x061 := x60.tr x61
    refine ⟨_, _, s', _, rfl, x61.k, x61.k, x61.k, x61.k, x61.k, (hra.ext x061).aL (o := 13) (fun j hj => by
     match j, hj with
     | 0, _ => rfl), fun w66 e66 w67 e67 => ?_⟩
    have ho66 : ag 0 Q.tX 4 w66 s' ((bM qj y (c5 + aQ (cW S.1 y))).1.l.map a9) := by
     refine ag.aW ho61 fun g hg => ?_
     obtain ⟨cs', hr'⟩ := av ho61 (by decide) hg
     rw [e66, setRow_other _ _ _ _ (hr'.ne (rq60.ext x61) oq)]
    have xx : Ext wr w66 := x061.af e66 (by omega)
    have hra66 := hra.ext xx
    have z66 := vj e66
    have z67 := vj e67
    clear e66
    refine ⟨n - 1, by omega, rfl, rfl, rfl, j + 1, _, s', wk, by omega, rfl, rfl, rfl, rfl, rfl, rfl, rfl, rfl, rfl, by rw [hadd], by rw [hadd], rfl, rfl, rfl, rfl, rfl, by rw [htk, List.foldl_append, ← hqj]; rfl, Em hqok y, ?_, (hT.ext xx).box e67 ⟨by omega, by omega⟩, (hG.ext xx).box e67 ⟨by omega, by omega⟩, ag.aW (hnear.ext xx) (fun g hg => by have := (hnear.own.lt hg).1; rw [e67, setRow_other _ _ _ _ (by omega)]), (xw.tr xx).af e67 (Nat.le_refl _), ⟨csb, (hrb.ext xx).same (by rw [e67, setRow_other _ _ _ _ nbox])⟩, by omega, by rw [hadd, e67]; exact Row.set hra66 _⟩
    rw [hadd]
    refine ag.aW ho66 fun g hg => ?_
    obtain ⟨cs', hr'⟩ := av ho66 (by decide) hg
    rw [e67, setRow_other _ _ _ _ (hr'.ne hra66 ot.symm)]
  ·have hd2 : ¬ decide (0 < aQ (cW S.1 y)) = true := by simpa using hd2
   have hadd : sQ (cW S.1) c5 qj y = qj := by unfold sQ; rw [if_neg hd2]
   exact ⟨n - 1, by omega, rfl, rfl, rfl, j + 1, qj, c3, wk, by omega, rfl, rfl, rfl, rfl, rfl, rfl, rfl, rfl, rfl, rfl, rfl, rfl, rfl, rfl, rfl, rfl, by rw [htk, List.foldl_append, ← hqj]; exact hadd.symm, hqok, hqo.ext x47, hT.ext x47, hG.ext x47, hnear.ext x47, xw.tr x47, ⟨csb, hrb.ext x47⟩, by omega, hra.ext x47⟩
 ·replace hb2 := dH hb2
  have hj7 : (c :: eK c).take j = c :: eK c := List.take_of_length_le (by have : (c :: eK c).length = 7 := rfl; omega)
  rw [hj7] at hqj
  subst hqj
  intro w68 e68
  refine ⟨t1, t2, t3, t4, c3, rfl, ⟨(hT.box e68 ⟨by omega, by omega⟩).out, (hG.box e68 ⟨by omega, by omega⟩).out, ag.aW hqo fun g hg => ?_, hqok⟩, xw.af e68 (by omega)⟩
  obtain ⟨cs', hr'⟩ := av hqo (by decide) hg
  rw [e68, setRow_other _ _ _ _ (hr'.ne hrb ot.symm)]
end
end Go.Proofs.YtalpkjfpmdpbiaaGreatDoor
namespace Go.Proofs.YtalpkjfpmdpbiaaGreatDoor
open Go Go.Vc Go.RowKit Go.Proofs Go.bY Go.aD Go.Code Go.j3 Go.ij
set_option maxRecDepth 100000
section
variable{F F':Nat->Prop}{w w':World}{s o t:Nat}{M M':Sm}{occ:Value}
theorem tC (h : SF F w s o t M occ) : Calls Tryz.prog pU #[.pointer (some ⟨s, 0, none⟩)] w fun e w' => e = .returned (M.now) ∧ w' = w := by
 obtain ⟨g, sd, h1, -⟩ := h.row
 apply oe.vc
 exact ⟨_, h1.at 3 rfl, rfl, rfl⟩
end
theorem HY {l : List Go.j3.It} {x : Go.j3.It} (h : ∀ y ∈ l, y.1 ≤ x.1) : lI l x = l ++ [x] := by
 unfold lI
 have key : ∀ (l : List Go.j3.It), (∀ y ∈ l, y.1 ≤ x.1) → l.takeWhile (fun y => decide (y.1 ≤ x.1)) = l ∧ l.dropWhile (fun y => decide (y.1 ≤ x.1)) = [] := by
  intro l
  induction l with
  | nil => intro _; exact ⟨rfl, rfl⟩
  | cons y l ih =>
    intro h
    obtain ⟨i1, i2⟩ := ih fun z hz => h z (.tail _ hz)
    have hy := decide_eq_true (h y (.head _))
    exact ⟨by rw [List.takeWhile_cons_of_pos (by exact hy), i1], by rw [List.dropWhile_cons_of_pos (by exact hy), i2]⟩
 obtain ⟨e1, e2⟩ := key l h
 rw [e1, e2]
theorem xY : ∀ (xs pre : List Go.j3.It), rV ⟨4096, 0, pre ++ xs⟩ → vw ⟨4096, 0, pre⟩ xs = (⟨4096, 0, pre ++ xs⟩, xs.length)
 | [], pre, _ => by rw [List.append_nil]; rfl
 | x :: xs, pre, h => by
   have hlen := h.len
   simp only [List.length_append, List.length_cons] at hlen
   have hno : ∀ y ∈ pre, y.2 ≠ x.2 := fun y hy q => by
    have hn := h.nodup
    simp only [List.map_append, List.map_cons] at hn
    exact (List.nodup_append.1 hn).2.2 _ (List.mem_map.2 ⟨y, hy, rfl⟩) _ (.head _) q
   have hle : ∀ y ∈ pre, y.1 ≤ x.1 := fun y hy => (List.pairwise_append.1 h.sorted).2.2 y hy x (.head _)
   have ha : bM ⟨4096, 0, pre⟩ x.2 x.1 = (⟨4096, 0, pre ++ [x]⟩, true) := by
    rw [HS hno (by simp only; omega)]
    rw [HY (x := (x.1, x.2)) hle]
   have ih := xY xs (pre ++ [x]) (by rw [List.append_assoc]; exact h)
   unfold vw
   rw [ha]
   simp only
   rw [ih, List.append_assoc]
   simp [Nat.add_comm]
theorem wH {w : World} {a b : Sl} {x : List Go.j3.It} (ha : RdK w a 4 (x.map a9)) (hb : RdK w b 4 (x.map a9)) (hl : x.length ≤ 5000) :
  Calls Tryz.prog kC #[a, b] w fun e w' => e = .returned (.bool true) ∧ Ext w w' := by
 apply (iO.vc (a0 := a) (a1 := b))
 have n1 := ha.n
 have n2 := hb.n
 rw [List.length_map] at n1 n2
 refine Br.mk (fun q => by simp [n1, n2] at q) (fun _ => ⟨fun n x' w' => ∃ j : Nat, x' = j ∧ j + n = x.length ∧ Ext w w', ⟨x.length, 0, rfl, by omega, Ext.ao _⟩, ?_⟩)
 rintro n us x' w4 ⟨j, rfl, hj, x4⟩
 refine Br.mk (fun hb2 => ?_) (fun hb2 => ⟨rfl, x4⟩)
 replace hb2 := dj hb2
 obtain ⟨y, hy⟩ := aI (l := x) (i := j) (by omega)
 have xd := x4.tr (Ext.dr _)
 have hy' : (x.map a9)[j]? = some (a9 y) := by rw [List.getElem?_map, hy]; rfl
 refine ⟨ha.ee (i := (j : Int)) (by decide) (by omega) hb2, _, _, _, _, (ha.ext xd).aL hy', hb.ee (i := (j : Int)) (by decide) (by omega) (by omega), _, _, _, _, (hb.ext xd).aL hy', Br.mk (fun q => by simp at q) (fun _ => ?_)⟩
 have wk : IntKind.wrap .i64 ((j : Int) + 1) = ((j + 1 : Nat) : Int) := by rw [wI]; omega
 exact ⟨n - 1, by omega, j + 1, wk, by omega, xd⟩
theorem Kx (y : Go.j3.It) : One (a9 y) := by
 intro v hv; simp at hv; rcases hv with rfl | rfl | rfl | rfl <;> rfl
theorem wG {w : World} {a : Sl} {x : List Go.j3.It} (ha : RdK w a 4 (x.map a9)) (hl : x.length ≤ 5000) :
  Calls Tryz.prog ql #[a] w fun e w' => ∃ s : Sl, e = .returned (.slice s.a s.n s.c) ∧ ag w.heap.size Q.tX 4 w' s (x.map a9) ∧ Ext w w' := by
 apply (pn.vc (a0 := a))
 have n1 := ha.n
 rw [List.length_map] at n1
 refine ⟨fun n i s wr => ∃ j : Nat, i = j ∧ j + n = x.length ∧ ag w.heap.size Q.tX 4 wr s ((x.take j).map a9) ∧ Ext w wr, ⟨x.length, 0, rfl, by omega, ag.nil, Ext.ao _⟩, ?_⟩
 rintro n us i s wr ⟨j, rfl, hj, ho, xr⟩
 have zr := xr.size
 refine Br.mk (fun hb => ?_) (fun hb => ?_)
 ·replace hb := dj hb
  obtain ⟨y, hy⟩ := aI (l := x) (i := j) (by omega)
  have hy' : (x.map a9)[j]? = some (a9 y) := by rw [List.getElem?_map, hy]; rfl
  have htk : x.take (j + 1) = x.take j ++ [y] := by rw [List.take_add_one, hy]; rfl
  have wk : IntKind.wrap .i64 ((j : Int) + 1) = ((j + 1 : Nat) : Int) := by rw [wI]; omega
  have hrd := ha.ext (xr.tr (Ext.dr wr))
  have hin := ha.ee (i := (j : Int)) (by decide) (by omega) hb
  have hso : (ab a.a ((((j : Nat) : Int)).toNat * 4)).isSome = true := by
   obtain ⟨p, hp⟩ := Option.isSome_iff_exists.1 hin.1
   rw [hp]; rfl
  refine ⟨hin, Cu hso ⟨y.1, hrd.at hy' (j := 0) rfl, hin, Cu hso ⟨y.2.1, y.2.2.1, y.2.2.2, dp fun i u hu => ?_, fun w11 e11 => ?_⟩⟩⟩
  ·rw [Nat.zero_add, cj]
   match i, hu with
   | 0, hu => exact hrd.at hy' (j := 1) hu
   | 1, hu => exact hrd.at hy' (j := 2) hu
   | 2, hu => exact hrd.at hy' (j := 3) hu
  subst e11
  have zd : wr.drew.heap.size = wr.heap.size := rfl
  have hns : s.n = j := by
   have h1 := (ho.rd (show 0 < 4 by decide)).n
   rw [List.length_map, List.length_take] at h1
   omega
  obtain ⟨hp8, hres8⟩ := (ho.ext (Ext.dr wr)).ly (bytes := 32) (news := a9 y) (.cells #[y.1, y.2.1, y.2.2.1, y.2.2.2] Q.tX) (by omega) rfl (Kx y) (by omega) (by omega)
  refine ⟨hp8, fun s12 w13 hr13 => ?_⟩
  obtain ⟨f8, ho8, hn8, x8, hk8, -⟩ := hres8 s12 w13 hr13
  refine ⟨f8, n - 1, by omega, j + 1, wk, by omega, ?_, (Below.trans (xr.tr (Ext.dr wr)) x8 : Below w.heap.size w w13)⟩
  rw [htk, List.map_append]
  exact ho8
 ·replace hb := dH hb
  rw [List.take_of_length_le (by omega)] at ho
  exact ⟨s, rfl, ho, xr⟩
theorem Bm (n : Int) (hn : inI n) (w : World) : Calls Tryz.prog qk #[n] w fun e w' => ∃ b : Int, e = .returned b ∧ Ext w w' := by
 apply pk.vc
 refine (fk n 8 (by decide) (by decide) w).mono ?_
 rintro e w0 ⟨rfl, rfl⟩
 have hb : 0 ≤ n % 8 ∧ n % 8 < 8 := by omega
 refine ⟨_, rfl, Br.mk (fun h => (vA n w0 hn).mono ?_) (fun h w4 e4 => ?_)⟩
 ·rintro e w2 ⟨rfl, hw⟩
  exact ⟨_, rfl, _, rfl, by rw [hw]; exact Ext.ao _⟩
 ·have h : ¬ n % 8 = 7 := by simpa using h
  have hr : Row w4 w0.heap.size [(3:Int), (3:Int), (8:Int), (8:Int), (1:Int), (0:Int), (4:Int)] 3 := by rw [e4]; exact Row.new w0 [_, _, _, _, _, _, _] _
  have hx : ∃ v : Int, ([(3:Int), (3:Int), (8:Int), (8:Int), (1:Int), (0:Int), (4:Int)] : List Value)[(n % 8).toNat * 1]? = some (.int .i64 v) := by
   have : (n % 8).toNat = 0 ∨ (n % 8).toNat = 1 ∨ (n % 8).toNat = 2 ∨ (n % 8).toNat = 3 ∨ (n % 8).toNat = 4 ∨ (n % 8).toNat = 5 ∨ (n % 8).toNat = 6 := by omega
   rcases this with q | q | q | q | q | q | q <;> (rw [q]; exact ⟨_, rfl⟩)
  obtain ⟨v, hv⟩ := hx
  exact ⟨⟨rfl, by omega, by omega⟩, v, hr.at _ hv, v, rfl, (Ext.ao _).aa e4⟩
end Go.Proofs.YtalpkjfpmdpbiaaGreatDoor
namespace Go.Proofs.YtalpkjfpmdpbiaaGreatDoor
open Go Go.Vc Go.RowKit Go.Proofs Go.bY Go.aD Go.Code Go.j3 Go.ij
set_option maxRecDepth 100000
section
variable{F F':Nat->Prop}{w w':World}{s o t:Nat}{M M':Sm}{occ:Value}{O:Ce->Bool}
theorem Aj (h : SF F w s o t M occ) (n : Int) (a : Sl) (xs : List Go.j3.It) (ha : RdK w a 4 (xs.map a9)) (hlt : ∀ b, a.ay = some b → b < w.heap.size ∧ ¬ F b) (hq : rV ⟨4096, 0, xs⟩) :
  Calls Tryz.prog kD #[.pointer (some ⟨s, 0, none⟩), .int .i64 n, .slice a.a a.n a.c] w fun e w' => e = .returned (.int .i64 xs.length) ∧ fX F w s o t { M with q := ⟨4096, 0, xs⟩, now := min (max n 0) 1099511627776 } occ w' := by
 obtain ⟨g, m, qs, Fw, sd, h1, h2, hq0, h3, h4, h5, rfl⟩ := h
 have hFs := h1.lt
 apply (iP.vc (a2 := a))
 have en : (if 1099511627776 < (if 0 > n then 0 else n) then 1099511627776 else (if 0 > n then 0 else n)) = min (max n 0) 1099511627776 := by
  split <;> split <;> omega
 obtain ⟨p1, p2⟩ := h1.gg (j := 3) (v := .int .i64 (min (max n 0) 1099511627776)) (by simp [GN]) rfl
 refine ⟨⟨rfl, p1⟩, fun w0 e0 => ?_⟩
 rw [en] at e0
 obtain ⟨r0, m0⟩ := p2 w0 e0
 refine (Q.sm 4096 w0).mono ?_
 rintro e w1 ⟨g', m', rfl, hn, x1, hg, hm⟩
 have r1 := r0.ext x1
 obtain ⟨p3, p4⟩ := r1.gg (j := 0) (v := .pointer (some ⟨g', 0, none⟩)) (by simp [GN, az]) rfl
 refine ⟨_, rfl, ⟨rfl, p3⟩, fun w3 e3 => ?_⟩
 obtain ⟨r3, m3⟩ := p4 w3 e3
 have mm : Mod (fun i => i = s) w w3 := (m0.trans (Mod.aw x1)).trans m3
 have z3 := mm.size
 have z0 := m0.size
 have z13 := m3.size
 have hn3 : Q.nu w3 g' m' ⟨none, 0, 0⟩ ⟨4096, 0, []⟩ := Q.nu.aW (q := ⟨4096, 0, []⟩) hn m3 fun i hi e => by
  rcases hi with hi | hi | hi
  ·omega
  ·omega
  ·cases hi
 have ha3 : RdK w3 a 4 (xs.map a9) := mm.Jk (by decide) ha fun _ b hb e => (hlt b hb).2 (.inl e)
 have hlen := hq.len
 refine ⟨_, r3.at 0 rfl, (Q.Hz hn3 Gx ⟨Int.le_refl _, by simp only at hlen ⊢; omega⟩ ha3 (fun b hb => by have := (hlt b hb).1; omega) (fun b hb hf => by
  have := (hlt b hb).1
  rcases hf with hf | hf | hf
  ·omega
  ·omega
  ·cases hf)).mono ?_⟩
 have hput := xY xs [] (by rw [List.nil_append]; exact hq)
 rw [List.nil_append] at hput
 rw [hput]
 rintro e w5 ⟨rfl, s', hq5, ht⟩
 have q1 : ∀ b, sd.ay = some b → b ≠ s := fun b hb => by
  obtain ⟨cs', hr'⟩ := av h4 (by decide) hb
  exact hr'.ne h1 (by decide)
 have q2 := h3.aZ h1 (by decide) (by decide) (by decide)
 have hft : ∀ i, i < w.heap.size → ¬ Q.cE g' m' ⟨none, 0, 0⟩ i := fun i hi hf => by
  rcases hf with hf | hf | hf
  ·omega
  ·omega
  ·cases hf
 have hnew : ∀ i, Q.cE g' m' s' i → w.heap.size ≤ i := fun i hi => by
  rcases ht.sub i hi with q | q
  ·by_cases hx : i < w.heap.size
   ·exact absurd q (hft i hx)
   ·omega
  ·omega
 have hW5 := (h3.aW mm fun i hi e => q2 (e ▸ hi)).aW ht.mod fun i hi => hft i (h3.lt hi)
 have hd5 := ht.mod.bT (mm.bT h4 q1) fun b hb => hft b (h4.own.lt hb).2
 have hr5 := ht.mod.row r3 (hft s hFs)
 refine ⟨_, rfl, rfl, _, ⟨g', m', s', Fw, sd, hr5, hq5, hq, hW5, hd5, fun i hi hf => by have := hnew i hi; have := h3.lt hf; omega, rfl⟩, ⟨by rw [ht.mod.os, mm.os], by rw [ht.mod.tape, mm.tape], by rw [ht.mod.output, mm.output], Nat.le_trans z3 ht.mod.size, fun i hi hn => ?_⟩, fun i hi => ?_⟩
 ·exact (ht.mod.same i (by omega) (hft i hi)).trans (mm.same i hi fun e => hn (.inl e))
 ·rcases hi with hi | hi | hi | hi
  ·exact .inl (.inl hi)
  ·exact .inr (hnew i hi)
  ·exact .inl (.inr (.inr (.inl hi)))
  ·exact .inl (.inr (.inr (.inr hi)))
theorem AK (h : SF F w s o t M occ) : Calls Tryz.prog bE #[.pointer (some ⟨o, 0, none⟩)] w fun e w' => ∃ (sc : Sl) (F' : Nat → Prop), e = .returned sc ∧ ag 0 cV 4 w' sc (M.ch.map vW) ∧ SF F' w' s o t { M with ch := [] } occ ∧ (∀ i, F' i → F i) ∧ (∀ b, sc.ay = some b → F b ∧ ¬ F' b) ∧ Mod (fun j => j = o) w w' ∧ F o := by
 obtain ⟨g, m, qs, Fw, sd, h1, h2, hq0, ⟨F1, sc, g1, g2, g3, rfl⟩, h4, h5, rfl⟩ := h
 apply ej.vc
 obtain ⟨p1, p2⟩ := g2.gg (j := 1) (v := .slice none 0 0) (by simp) rfl
 refine ⟨sc, g2.at 1 rfl, ⟨rfl, p1⟩, fun w1 e1 => ?_⟩
 obtain ⟨q1, q2⟩ := p2 w1 e1
 have hso : ∀ b, sc.ay = some b → b ≠ o := fun b hb => by
  obtain ⟨cs', hr'⟩ := av g3 (by decide) hb
  exact hr'.ne g2 (by decide)
 have hsdo : ∀ b, sd.ay = some b → b ≠ o := fun b hb => by
  obtain ⟨cs', hr'⟩ := av h4 (by decide) hb
  exact hr'.ne g2 (by decide)
 have hWn : WF (fun i => F1 i ∨ i = o ∨ (⟨none, 0, 0⟩ : Sl).ay = some i) w1 o t M.ae M.cap M.T [] := ⟨F1, ⟨none, 0, 0⟩, g1.aW q2 fun i hi e => g1.aZ g2 (by decide) (e ▸ hi), q1, ag.nil, rfl⟩
 refine ⟨sc, _, rfl, q2.bT g3 hso, ⟨g, m, qs, _, sd, q2.row h1 (h1.ne g2 (by decide)), h2.aW q2 fun i hi e => h5 i hi (.inr (.inl e)), hq0, hWn, q2.bT h4 hsdo, fun i hi hf => ?_, rfl⟩, fun i hi => ?_, fun b hb => ⟨.inr (.inr (.inl (.inr (.inr hb)))), fun hf => ?_⟩, q2, .inr (.inr (.inl (.inr (.inl rfl))))⟩
 ·rcases hf with hf | hf | hf
  ·exact h5 i hi (.inl hf)
  ·exact h5 i hi (.inr (.inl hf))
  ·cases hf
 ·rcases hi with hi | hi | (hi | hi | hi) | hi
  ·exact .inl hi
  ·exact .inr (.inl hi)
  ·exact .inr (.inr (.inl (.inl hi)))
  ·exact .inr (.inr (.inl (.inr (.inl hi))))
  ·cases hi
  ·exact .inr (.inr (.inr hi))
 ·obtain ⟨cs', hr'⟩ := av g3 (by decide) hb
  rcases hf with hf | hf | (hf | hf | hf) | hf
  ·exact hr'.ne h1 (by decide) hf
  ·exact h5 b hf (.inr (.inr hb))
  ·exact g1.aZ hr' (by decide) hf
  ·exact hso b hb hf
  ·cases hf
  ·obtain ⟨cs2, hr2⟩ := av h4 (by decide) hf
   exact hr'.ne hr2 (by decide) rfl
end
abbrev O0:Ce->Bool:=fun _=>false
structure Pr (w w' : World) (sa oa ta sb ob tb : Nat) (A B : Sm) (ca cb : Value) (sc : Sl) (cs : List Go.ij.Cg) : Prop where
 all : ∃ Fa Fb, SF Fa w' sa oa ta A ca ∧ SF Fb w' sb ob tb B cb ∧ (∀ i, Fa i → ¬ Fb i) ∧ (∀ i, Fa i → w.heap.size ≤ i) ∧ (∀ i, Fb i → w.heap.size ≤ i) ∧ Oc ca O0 (fun i => Fa i ∨ Fb i) w' ∧ Oc cb O0 (fun i => Fa i ∨ Fb i) w' ∧ (∀ b, sc.ay = some b → ¬ Fa b ∧ ¬ Fb b)
 x : Ext w w'
 own : ag 0 cV 4 w' sc (cs.map vW)
def Ks(w w':World):Prop:=∀j cs,Row w j cs cx->w'.heap[j]? =w.heap[j]?
section
variable{w w1 w2:World}{sa oa ta sb ob tb:Nat}{A B A' B':Sm}{ca cb:Value}{sc:Sl}{cs:List Go.ij.Cg}{Fa Fb:Nat->Prop}
theorem nA:sX cx/\cx≠nz/\cx≠cV/\cx≠rG/\cx≠Q.du/\cx≠Q.aS/\cx≠jY:=by decide
theorem Pr.ext (h : Pr w w1 sa oa ta sb ob tb A B ca cb sc cs) (x : Ext w1 w2) : Pr w w2 sa oa ta sb ob tb A B ca cb sc cs := by
 obtain ⟨⟨Fa, Fb, h1, h2, h3, h4, h5, h6, h7, h8⟩, hx, ho⟩ := h
 exact ⟨⟨Fa, Fb, h1.ext x, h2.ext x, h3, h4, h5, h6.ext x, h7.ext x, h8⟩, hx.tr x, ho.ext x⟩
theorem Lw (h1 : SF Fa w1 sa oa ta A ca) (h2 : SF Fb w1 sb ob tb B cb) (hd : ∀ i, Fa i → ¬ Fb i) (fa : ∀ i, Fa i → w.heap.size ≤ i) (fb : ∀ i, Fb i → w.heap.size ≤ i) (oa' : Oc ca O0 (fun i => Fa i ∨ Fb i) w1) (ob' : Oc cb O0 (fun i => Fa i ∨ Fb i) w1) (fs : ∀ b, sc.ay = some b → ¬ Fa b ∧ ¬ Fb b) (x : Ext w w1) (ho : ag 0 cV 4 w1 sc (cs.map vW)) (r : fX Fa w1 sa oa ta A' ca w2) :
  Pr w w2 sa oa ta sb ob tb A' B ca cb sc cs ∧ Ks w1 w2 := by
 obtain ⟨F', h', ht⟩ := r
 obtain ⟨x', f'⟩ := ht.fresh x fa
 have hb := h2.same fun i hi => ht.mod.same i (h2.lt hi) fun q => hd i q hi
 have hd' := ht.apart hd fun i hi => h2.lt hi
 have hs' := ht.apart (G := fun i => sc.ay = some i) (fun i hi hb => (fs i hb).1 hi) fun i hi => (ho.own.lt hi).2
 have htu : ar (fun i => Fa i ∨ Fb i) (fun i => F' i ∨ Fb i) w1 w2 := ⟨ht.mod.mono fun i _ hi => .inl hi, fun i hi => hi.elim (fun q => (ht.sub i q).imp .inl id) fun q => .inl (.inr q)⟩
 exact ⟨⟨⟨F', Fb, h', hb, hd', f', fb, oa'.cm htu, ob'.cm htu, fun b hb => ⟨fun hf => hs' b hf hb, (fs b hb).2⟩⟩, x', ht.mod.bT ho fun b hb => (fs b hb).1⟩, fun j cs hr => ht.mod.same j hr.lt (h1.j4 hr nA.1 nA.2.1 nA.2.2.1 nA.2.2.2.1 nA.2.2.2.2.1 nA.2.2.2.2.2.1 nA.2.2.2.2.2.2)⟩
theorem Iu (h1 : SF Fa w1 sa oa ta A ca) (h2 : SF Fb w1 sb ob tb B cb) (hd : ∀ i, Fa i → ¬ Fb i) (fa : ∀ i, Fa i → w.heap.size ≤ i) (fb : ∀ i, Fb i → w.heap.size ≤ i) (oa' : Oc ca O0 (fun i => Fa i ∨ Fb i) w1) (ob' : Oc cb O0 (fun i => Fa i ∨ Fb i) w1) (fs : ∀ b, sc.ay = some b → ¬ Fa b ∧ ¬ Fb b) (x : Ext w w1) (ho : ag 0 cV 4 w1 sc (cs.map vW)) (r : fX Fb w1 sb ob tb B' cb w2) :
  Pr w w2 sa oa ta sb ob tb A B' ca cb sc cs ∧ Ks w1 w2 := by
 obtain ⟨F', h', ht⟩ := r
 obtain ⟨x', f'⟩ := ht.fresh x fb
 have hb := h1.same fun i hi => ht.mod.same i (h1.lt hi) (hd i hi)
 have hd' := ht.apart (G := Fa) (fun i hi ha => hd i ha hi) fun i hi => h1.lt hi
 have hs' := ht.apart (G := fun i => sc.ay = some i) (fun i hi hb => (fs i hb).2 hi) fun i hi => (ho.own.lt hi).2
 have htu : ar (fun i => Fa i ∨ Fb i) (fun i => Fa i ∨ F' i) w1 w2 := ⟨ht.mod.mono fun i _ hi => .inr hi, fun i hi => hi.elim (fun q => .inl (.inl q)) fun q => (ht.sub i q).imp .inr id⟩
 exact ⟨⟨⟨Fa, F', hb, h', fun i ha hf => hd' i hf ha, fa, f', oa'.cm htu, ob'.cm htu, fun b hb => ⟨(fs b hb).1, fun hf => hs' b hf hb⟩⟩, x', ht.mod.bT ho fun b hb => (fs b hb).2⟩, fun j cs hr => ht.mod.same j hr.lt (h2.j4 hr nA.1 nA.2.1 nA.2.2.1 nA.2.2.2.1 nA.2.2.2.2.1 nA.2.2.2.2.2.1 nA.2.2.2.2.2.2)⟩
theorem DZ (h : Pr w w1 sa oa ta sb ob tb A B ca cb sc cs) (hd : BP (jZ A)) (hk : nC A 600000) (hb : 1 ≤ A.ax ∧ A.ax ≤ 64) :
  Calls Tryz.prog fI #[.pointer (some ⟨sa, 0, none⟩)] w1 fun e w2 => e = .returned (.int .i64 (jZ A).length) ∧ Pr w w2 sa oa ta sb ob tb (j5 O0 A) B ca cb sc cs ∧ Ks w1 w2 := by
 obtain ⟨⟨Fa, Fb, h1, h2, h3, h4, h5, h6, h7, h8⟩, hx, ho⟩ := h
 refine (lK h1 (h6.mono fun i hi => .inl hi) hd hk hb).mono ?_
 rintro e w2 ⟨rfl, r⟩
 exact ⟨rfl, Lw h1 h2 h3 h4 h5 h6 h7 h8 hx ho r⟩
theorem Iw (h : Pr w w1 sa oa ta sb ob tb A B ca cb sc cs) (hd : BP (jZ B)) (hk : nC B 600000) (hb : 1 ≤ B.ax ∧ B.ax ≤ 64) :
  Calls Tryz.prog fI #[.pointer (some ⟨sb, 0, none⟩)] w1 fun e w2 => e = .returned (.int .i64 (jZ B).length) ∧ Pr w w2 sa oa ta sb ob tb A (j5 O0 B) ca cb sc cs ∧ Ks w1 w2 := by
 obtain ⟨⟨Fa, Fb, h1, h2, h3, h4, h5, h6, h7, h8⟩, hx, ho⟩ := h
 refine (lK h2 (h7.mono fun i hi => .inr hi) hd hk hb).mono ?_
 rintro e w2 ⟨rfl, r⟩
 exact ⟨rfl, Iu h1 h2 h3 h4 h5 h6 h7 h8 hx ho r⟩
theorem JX (h : Pr w w1 sa oa ta sb ob tb A B ca cb sc cs) (c : Ce) (hc : lx c) (b : Int) (hn : B.ch.length ≤ 1000000) :
  Calls Tryz.prog fz #[.pointer (some ⟨ob, 0, none⟩), iR c, b] w1 fun e w2 => e = .returned (.int .i64 (aX B.T.2 c b).2) ∧ Pr w w2 sa oa ta sb ob tb A { B with T := (B.T.1, (aX B.T.2 c b).1), ch := mV B.T.2 B.ch c b } ca cb sc cs ∧ Ks w1 w2 := by
 obtain ⟨⟨Fa, Fb, h1, h2, h3, h4, h5, h6, h7, h8⟩, hx, ho⟩ := h
 obtain ⟨Fw, hW, -, hres⟩ := h2.world
 refine (yP hW c hc b hn).mono ?_
 rintro e w2 ⟨rfl, r⟩
 exact ⟨rfl, Iu h1 h2 h3 h4 h5 h6 h7 h8 hx ho (hres r)⟩
theorem Is (h : Pr w w1 sa oa ta sb ob tb A B ca cb sc cs) :
  Calls Tryz.prog bE #[.pointer (some ⟨oa, 0, none⟩)] w1 fun e w2 => ∃ sc' : Sl, e = .returned sc' ∧ Pr w w2 sa oa ta sb ob tb { A with ch := [] } B ca cb sc' A.ch ∧ Ks w1 w2 := by
 obtain ⟨⟨Fa, Fb, h1, h2, h3, h4, h5, h6, h7, h8⟩, hx, ho⟩ := h
 refine (AK h1).mono ?_
 rintro e w2 ⟨sc', F', rfl, ho', hS', hsub, hsc, hm, hFo⟩
 have htu : ar (fun i => Fa i ∨ Fb i) (fun i => F' i ∨ Fb i) w1 w2 := ⟨hm.mono fun i _ hi => .inl (hi ▸ hFo), fun i hi => .inl (hi.imp (hsub i) id)⟩
 refine ⟨sc', rfl, ⟨⟨F', Fb, hS', h2.same fun i hi => hm.same i (h2.lt hi) fun q => h3 oa hFo (q ▸ hi), fun i hi => h3 i (hsub i hi), fun i hi => h4 i (hsub i hi), h5, h6.cm htu, h7.cm htu, fun b hb => ⟨(hsc b hb).2, h3 b (hsc b hb).1⟩⟩, hm.ext hx fun i hi => hi ▸ h4 _ hFo, ho'⟩, fun j cs hr => hm.same j hr.lt fun q => h1.j4 hr nA.1 nA.2.1 nA.2.2.1 nA.2.2.2.1 nA.2.2.2.2.1 nA.2.2.2.2.2.1 nA.2.2.2.2.2.2 (q ▸ hFo)⟩
theorem Ix (h : Pr w w1 sa oa ta sb ob tb A B ca cb sc cs) :
  Calls Tryz.prog bE #[.pointer (some ⟨ob, 0, none⟩)] w1 fun e w2 => ∃ sc' : Sl, e = .returned sc' ∧ Pr w w2 sa oa ta sb ob tb A { B with ch := [] } ca cb sc cs ∧ Ks w1 w2 := by
 obtain ⟨⟨Fa, Fb, h1, h2, h3, h4, h5, h6, h7, h8⟩, hx, ho⟩ := h
 refine (Cj h2).mono ?_
 rintro e w2 ⟨sc', rfl, -, r⟩
 exact ⟨sc', rfl, Iu h1 h2 h3 h4 h5 h6 h7 h8 hx ho r⟩
end
end Go.Proofs.YtalpkjfpmdpbiaaGreatDoor
