import Derived.Test.YtalpkjfpmdpbiaaGreatDoorKS
set_option linter.all false
namespace Go.Proofs.YtalpkjfpmdpbiaaGreatDoor
open Go Go.Vc Go.RowKit Go.Proofs Go.bQ Go.aB
structure It where
 x:Nat
 g:Nat
 s:Sl
 p:Po
 C:List Int
 jD:Bool
 pins:Int
structure ox (w : World) (i : It) : Prop where
 r : Row w i.x [.pointer (some ⟨i.g, 0, none⟩), .bool i.jD, i.pins] aU
 k : vQ w i.g i.s i.p i.C
theorem ox.ext {w w' : World} {i : It} (h : ox w i) (x : Ext w w') : ox w' i := ⟨h.r.ext x, h.k.ext x⟩
theorem ox.bC {w w' : World} {i : It} (h : ox w i) {F : Nat → Prop} (hm : Mod F w w') (h1 : ¬ F i.x) (h2 : ¬ F i.g) (h3 : ∀ b, i.s.ax = some b → ¬ F b) : ox w' i := ⟨hm.row h.r h1, h.k.bC hm h2 h3⟩
abbrev tk (its:List It):List (List Value):=its.map fun i=> [.pointer (some ⟨i.x,0,none⟩)]
structure TO (w : World) (t st d : Nat) (r : Dm) (sl : Sl) (D : Dk) (aa limit : Int) (its : List It) : Prop where
 rt : Row w t [.pointer (some ⟨st, 0, none⟩), aa, limit, sl] rZ
 so : SO w st d r D
 ol : af 0 EA 1 w sl (tk its)
 it : ∀ i ∈ its, ox w i
 dx : (its.map (·.x)).Nodup
 dg : (its.map (·.g)).Nodup
 Ei : 1 ≤ limit ∧ limit ≤ 16
 len : (its.length : Int) ≤ limit
def dM (m:Dm) (i:Nat):Prop:=i=m.r\/m.ls.ax=some i\/∃x ∈ m.E++m.W,x.2.1.ax=some i
def cx (t st d:Nat) (r:Dm) (sl:Sl) (its:List It) (i:Nat):Prop:=i=t\/i=st\/i=d\/dM r i\/sl.ax=some i\/∃y ∈ its,i=y.x\/i=y.g\/y.s.ax=some i
theorem TO.lt {w : World} {t st d : Nat} {r : Dm} {sl : Sl} {D : Dk} {aa limit : Int} {its : List It} (h : TO w t st d r sl D aa limit its) {i : Nat} (hi : cx t st d r sl its i) : i < w.heap.size := by
 rcases hi with rfl | e | e | e | e | ⟨y, hy, e | e | e⟩
 ·exact h.rt.lt
 ·exact h.so.lt (.inl e)
 ·exact h.so.lt (.inr (.inl e))
 ·exact h.so.lt (.inr (.inr e))
 ·exact (h.ol.own.lt e).2
 ·exact e ▸ (h.it y hy).r.lt
 ·exact e ▸ (h.it y hy).k.row.lt
 ·exact ((h.it y hy).k.own.own.lt e).2
theorem TO.same {w w' : World} {t st d : Nat} {r : Dm} {sl : Sl} {D : Dk} {aa limit : Int} {its : List It} (h : TO w t st d r sl D aa limit its) (hs : ∀ i, cx t st d r sl its i → w'.heap[i]? = w.heap[i]?) : TO w' t st d r sl D aa limit its := by
 refine ⟨h.rt.same (hs _ (.inl rfl)), h.so.same fun i hi => hs i ?_, af.bC h.ol fun b hb => hs b (.inr (.inr (.inr (.inr (.inl hb))))), fun y hy => ?_, h.dx, h.dg, h.Ei, h.len⟩
 ·rcases hi with e | e | e
  ·exact .inr (.inl e)
  ·exact .inr (.inr (.inl e))
  ·exact .inr (.inr (.inr (.inl e)))
 ·have f : ∀ i, (i = y.x ∨ i = y.g ∨ y.s.ax = some i) → w'.heap[i]? = w.heap[i]? := fun i hi => hs i (.inr (.inr (.inr (.inr (.inr ⟨y, hy, hi⟩)))))
  have hi := h.it y hy
  exact ⟨hi.r.same (f _ (.inl rfl)), hi.k.row.same (f _ (.inr (.inl rfl))), af.bC hi.k.own fun b hb => f b (.inr (.inr hb)), hi.k.len, hi.k.may⟩
theorem TO.ext {w w' : World} {t st d : Nat} {r : Dm} {sl : Sl} {D : Dk} {aa limit : Int} {its : List It} (h : TO w t st d r sl D aa limit its) (x : Ext w w') : TO w' t st d r sl D aa limit its := h.same fun i hi => x.heap (h.lt hi)
theorem TO.kind {w : World} {t st d : Nat} {r : Dm} {sl : Sl} {D : Dk} {aa limit : Int} {its : List It} (h : TO w t st d r sl D aa limit its) {i : Nat} (hi : cx t st d r sl its i) :
  aJ GI w (some i) (r.E.map kf) ∨ ∃ cs τ, Row w i cs τ ∧ (τ = rZ ∨ τ = rY ∨ τ = mP ∨ τ = EA ∨ τ = aU ∨ τ = pN ∨ τ = cg ∨ τ = tW ∨ τ = eQ) := by
 rcases hi with e | e | e | e | e | ⟨y, hy, e | e | e⟩
 ·exact .inr ⟨_, _, e ▸ h.rt, .inl rfl⟩
 ·exact .inr ⟨_, _, e ▸ h.so.rs, .inr (.inl rfl)⟩
 ·exact .inr ⟨_, _, e ▸ h.so.dk.rd, .inr (.inr (.inl rfl))⟩
 ·rcases h.so.dk.kind (.inr e) with q | ⟨cs, τ, q1, q2⟩
  ·exact .inl q
  ·refine .inr ⟨cs, τ, q1, ?_⟩
   rcases q2 with rfl | rfl | rfl
   ·exact .inr (.inr (.inl rfl))
   ·exact .inr (.inr (.inr (.inr (.inr (.inr (.inr (.inl rfl)))))))
   ·exact .inr (.inr (.inr (.inr (.inr (.inr (.inr (.inr rfl)))))))
 ·obtain ⟨cs, hr⟩ := au h.ol (by decide) e
  exact .inr ⟨_, _, hr, .inr (.inr (.inr (.inl rfl)))⟩
 ·exact .inr ⟨_, _, e ▸ (h.it y hy).r, .inr (.inr (.inr (.inr (.inl rfl))))⟩
 ·exact .inr ⟨_, _, e ▸ (h.it y hy).k.row, .inr (.inr (.inr (.inr (.inr (.inl rfl)))))⟩
 ·obtain ⟨cs, hr⟩ := au (h.it y hy).k.own (by decide) e
  exact .inr ⟨_, _, hr, .inr (.inr (.inr (.inr (.inr (.inr (.inl rfl))))))⟩
theorem TO.a9 {w : World} {t st d : Nat} {r : Dm} {sl : Sl} {D : Dk} {aa limit : Int} {its : List It} (h : TO w t st d r sl D aa limit its) {j : Nat} {cs : List Value} {τ : TypeId} (hr : Row w j cs τ) (hτ : τ ≠ rZ ∧ τ ≠ rY ∧ τ ≠ mP ∧ τ ≠ EA ∧ τ ≠ aU ∧ τ ≠ pN ∧ τ ≠ cg ∧ τ ≠ tW ∧ τ ≠ eQ) : ¬ cx t st d r sl its j := fun hf => by
 rcases h.kind hf with hm | ⟨cs', τ', hr', ht⟩
 ·exact hr.dY hm rfl
 ·obtain ⟨h1, h2, h3, h4, h5, h6, h7, h8, h9⟩ := hτ
  rcases ht with rfl | rfl | rfl | rfl | rfl | rfl | rfl | rfl | rfl
  ·exact hr.ne hr' h1 rfl
  ·exact hr.ne hr' h2 rfl
  ·exact hr.ne hr' h3 rfl
  ·exact hr.ne hr' h4 rfl
  ·exact hr.ne hr' h5 rfl
  ·exact hr.ne hr' h6 rfl
  ·exact hr.ne hr' h7 rfl
  ·exact hr.ne hr' h8 rfl
  ·exact hr.ne hr' h9 rfl
theorem TO.n {w : World} {t st d : Nat} {r : Dm} {sl : Sl} {D : Dk} {aa limit : Int} {its : List It} (h : TO w t st d r sl D aa limit its) : sl.n = its.length := by
 have := (h.ol.rd (by decide)).n
 rwa [List.length_map] at this
theorem TO.at {w : World} {t st d : Nat} {r : Dm} {sl : Sl} {D : Dk} {aa limit : Int} {its : List It} (h : TO w t st d r sl D aa limit its) {i : Nat} {y : It} (hi : its[i]? = some y) : cn sl.a (i : Int) sl.n ∧ ld w (ae sl.a (((i : Nat) : Int).toNat * 1)) = some (.pointer (some ⟨y.x, 0, none⟩)) := by
 have hlt := (List.getElem?_eq_some_iff.1 hi).1
 have hrd := h.ol.rd (show 0 < 1 by decide)
 refine ⟨ba.eV hrd (by decide) (by omega) (by rw [h.n]; omega), ?_⟩
 have := hrd.rd i [.pointer (some ⟨y.x, 0, none⟩)] (by rw [List.getElem?_map, hi]; rfl) 0 _ rfl
 exact this
def eP (room : Int) : Dk := ⟨min (max room 0) 1048576, 0, 0, [], []⟩
theorem DF (aa limit room : Int) (w : World) : Calls Tryz.prog jI #[aa, limit, room] w fun e w' => ∃ t st d r, e = .returned (.pointer (some ⟨t, 0, none⟩)) ∧ TO w' t st d r ⟨none, 0, 0⟩ (eP room) aa (min (max limit 1) 16) [] ∧ Ext w w' ∧ ∀ i, cx t st d r ⟨none, 0, 0⟩ [] i → w.heap.size ≤ i := by
 apply rJ.vc
 refine (DG room w).mono ?_
 rintro e w0 ⟨st, d, m, rfl, hs, x0, hf⟩
 refine ⟨_, rfl, fun w2 e2 => ?_⟩
 have x2 : Ext w0 w2 := (Ext.aq _).ab e2
 have z0 := x0.size
 have hl : (if 16 < (if 1 > limit then 1 else limit) then 16 else (if 1 > limit then 1 else limit)) = min (max limit 1) 16 := by split <;> split <;> omega
 rw [hl] at e2
 refine ⟨_, st, d, m, rfl, ⟨by rw [e2]; exact Row.new w0 [_, _, _, _] _, hs.ext x2, af.nil, by simp, by simp, by simp, by omega, by simp; omega⟩, x0.tr x2, fun i hi => ?_⟩
 rcases hi with rfl | e | e | e | e | ⟨y, hy, -⟩
 ·exact z0
 ·exact hf i (.inl e)
 ·exact hf i (.inr (.inl e))
 ·exact hf i (.inr (.inr e))
 ·cases e
 ·cases hy
theorem nt {α : Type} (s : Sl) (l : List α) (ad : α → Nat) (fv : Value) (q : α → Bool) (w : World) (hs : ba w s 1 (l.map fun i => [.pointer (some ⟨ad i, 0, none⟩)])) (hb : l.length ≤ 1000)
  (hf : ∀ i ∈ l, ∀ w', Ext w w' → a8 Tryz.prog fv [.pointer (some ⟨ad i, 0, none⟩)] w' fun e w'' => e = .returned (.bool (q i)) ∧ Ext w' w'') :
  Calls Tryz.prog bF #[s, fv] w fun e w' => e = .returned (.int .i64 (aR q l)) ∧ Ext w w' := by
 apply c8.vc
 have hn : s.n = l.length := by have := hs.n; rwa [List.length_map] at this
 refine ⟨fun n i wr => ∃ k : Nat, i = k ∧ k + n = l.length ∧ Ext w wr ∧ ∀ j, j < k → ∀ y, l[j]? = some y → q y = false, ⟨l.length, 0, rfl, by omega, Ext.aq _, fun j hj => by omega⟩, ?_⟩
 rintro n us i wr ⟨k, rfl, hk, xr, hno⟩
 have hwk : IntKind.wrap .i64 ((k : Int) + 1) = ((k + 1 : Nat) : Int) := by rw [wI]; omega
 refine Br.mk (fun hc => ?_) (fun hc => ?_)
 ·replace hc := eN hc
  obtain ⟨y, hy⟩ := aN (l := l) (i := k) (by omega)
  have hsr := ba.ext hs xr
  have hld := hsr.rd k [.pointer (some ⟨ad y, 0, none⟩)] (by rw [List.getElem?_map, hy]; rfl) 0 _ rfl
  refine ⟨ba.eV hsr (by decide) (by omega) (by omega), _, hld, pP (hf y (List.mem_of_getElem? hy) wr xr) ?_⟩
  rintro e w7 ⟨rfl, x7⟩
  refine ⟨_, rfl, Br.mk (fun h => ?_) (fun h => ?_)⟩
  ·exact ⟨by rw [oe hy h hno], xr.tr x7⟩
  ·refine ⟨n - 1, by omega, k + 1, hwk, by omega, xr.tr x7, fun j hj z hz => ?_⟩
   by_cases e : j = k
   ·subst e; rw [hy] at hz; cases hz; exact h
   ·exact hno j (by omega) z hz
 ·replace hc := eO hc
  refine ⟨?_, xr⟩
  rw [gD]
  intro y hy
  obtain ⟨j, hj⟩ := List.getElem?_of_mem hy
  exact hno j (by have := (List.getElem?_eq_some_iff.1 hj).1; omega) y hj
set_option maxRecDepth 100000 in
theorem find_spec {w : World} {t st d : Nat} {r : Dm} {sl : Sl} {D : Dk} {aa limit : Int} {its : List It} (h : TO w t st d r sl D aa limit its) (p : Po) :
  Calls Tryz.prog bX #[.pointer (some ⟨t, 0, none⟩), pv p] w fun e w' => e = .returned (.int .i64 (aR (fun i => i.p == p) its)) ∧ Ext w w' := by
 apply fS.vc
 intro w0 e0
 have x0 : Ext w w0 := (Ext.aq w).ab e0
 have hb : Row w0 w.heap.size [p.1, p.2] DR := by rw [e0]; exact Row.new w [_, _] _
 have h0 := h.ext x0
 have hlen := h.len
 have hlim := h.Ei
 refine ⟨sl, h0.rt.at 3 rfl, (nt sl its (·.x) _ (fun i => i.p == p) w0 (h0.ol.rd (by decide)) (by omega) ?_).mono ?_⟩
 ·intro y hy w' x'
  refine fc (by kernel_rfl) (by rfl) ?_
  apply eI.vc
  have hy' := ((h0.it y hy).ext x').ext (Ext.dr w')
  have hb' := (hb.ext x').ext (Ext.dr w')
  refine ⟨_, by rw [aP, hy'.r.ld]; rfl, vD (vD ⟨_, _, hy'.k.pos, _, _, hb'.aX (fun j hj => by rw [Nat.zero_add]), (o4 y.p w'.drew).mono ?_⟩)⟩
  rintro e w5 ⟨rfl, x5⟩
  refine ⟨_, _, rfl, (hb'.ext x5).aX (fun j hj => by rw [Nat.zero_add]), ?_, rfl, (Ext.dr w').tr x5⟩
  rw [aP]
  exact (hy'.ext x5).r.aX (fun j hj => by simp at hj; subst hj; rfl)
 ·rintro e w2 ⟨rfl, x2⟩
  exact ⟨_, rfl, rfl, x0.tr x2⟩
end Go.Proofs.YtalpkjfpmdpbiaaGreatDoor
namespace Go.Proofs.YtalpkjfpmdpbiaaGreatDoor
open Go Go.Vc Go.RowKit Go.Proofs Go.bQ Go.aB
theorem SO.kind {w:World} {st d:Nat} {m:Dm} {D:Dk} (h:SO w st d m D) {i:Nat} (hi:sF st d m i):aJ GI w (some i) (m.E.map kf)\/∃cs τ,Row w i cs τ/\(τ=rY\/τ=mP\/τ=tW\/τ=eQ):=by
 rcases hi with e|hi
 ·exact .inr ⟨_,_,e▸h.rs,.inl rfl⟩
 ·rcases h.dk.kind hi with q|⟨cs,τ,q1,q2⟩
  ·exact .inl q
  ·exact .inr ⟨cs,τ,q1,.inr q2⟩
theorem SO.bC {w w' : World} {st d : Nat} {m : Dm} {D : Dk} (h : SO w st d m D) {F : Nat → Prop} (hm : Mod F w w') (hr : ∀ {j : Nat} {cs : List Value} {τ : TypeId}, Row w j cs τ → (τ = rY ∨ τ = mP ∨ τ = tW ∨ τ = eQ) → ¬ F j) (hmp : ∀ {j : Nat} {kvs : List (Value × Value)}, aJ GI w (some j) kvs → ¬ F j) : SO w' st d m D :=
 h.same fun i hi => hm.same i (h.lt hi) (by
  rcases h.kind hi with q | ⟨cs, τ, q1, q2⟩
  ·exact hmp q
  ·exact hr q1 q2)
abbrev Gn (t:Nat) (sl:Sl):Nat->Prop:=fun j=>j=t\/sl.ax=some j
theorem TO.off {w : World} {t st d : Nat} {r : Dm} {sl : Sl} {D : Dk} {aa limit : Int} {its : List It} (h : TO w t st d r sl D aa limit its) {j : Nat} {cs : List Value} {τ : TypeId} (hr : Row w j cs τ) (h1 : τ ≠ rZ) (h2 : τ ≠ EA) : ¬ Gn t sl j := by
 rintro (e | e)
 ·exact hr.ne h.rt h1 e
 ·obtain ⟨cs', hr'⟩ := au h.ol (by decide) e
  exact hr.ne hr' h2 rfl
theorem TO.item {w w' : World} {t st d : Nat} {r : Dm} {sl : Sl} {D : Dk} {aa limit : Int} {its : List It} (h : TO w t st d r sl D aa limit its) (hm : Mod (Gn t sl) w w') {y : It} (hy : ox w y) : ox w' y :=
 hy.bC hm (h.off hy.r (by decide) (by decide)) (h.off hy.k.row (by decide) (by decide)) (fun b hb => by
  obtain ⟨cs', hr'⟩ := au hy.k.own (by decide) hb
  exact h.off hr' (by decide) (by decide))
theorem TO.EH {w w' : World} {t st d : Nat} {r : Dm} {sl sl' : Sl} {D : Dk} {aa limit : Int} {its its' : List It} (h : TO w t st d r sl D aa limit its) (hm : Mod (Gn t sl) w w')
  (rt : Row w' t [.pointer (some ⟨st, 0, none⟩), aa, limit, sl'] rZ) (ol : af 0 EA 1 w' sl' (tk its')) (hit : ∀ y ∈ its', y ∈ its ∨ ox w y)
  (dx : (its'.map (·.x)).Nodup) (dg : (its'.map (·.g)).Nodup) (len : (its'.length : Int) ≤ limit) : TO w' t st d r sl' D aa limit its' := by
 refine ⟨rt, h.so.bC hm (fun hr hτ => ?_) (fun hmp => ?_), ol, fun y hy => h.item hm ?_, dx, dg, h.Ei, len⟩
 ·rcases hτ with rfl | rfl | rfl | rfl <;> exact h.off hr (by decide) (by decide)
 ·rintro (e | e)
  ·exact h.rt.dY hmp e.symm
  ·obtain ⟨cs', hr'⟩ := au h.ol (by decide) e
   exact hr'.dY hmp rfl
 ·rcases hit y hy with h1 | h1
  ·exact h.it y h1
  ·exact h1
theorem uI {w:World} {t st d:Nat} {r:Dm} {sl sl':Sl} {its its':List It} (hb:∀b,sl'.ax=some b->sl.ax=some b\/w.heap.size<=b) (hi:∀y ∈ its',y ∈ its\/(w.heap.size<=y.x/\w.heap.size<=y.g/\∀b,y.s.ax=some b->w.heap.size<=b)):
  ∀i,cx t st d r sl' its' i->cx t st d r sl its i\/w.heap.size<=i:=by
 rintro i (e|e|e|e|e|⟨y,hy,e⟩)
 ·exact .inl (.inl e)
 ·exact .inl (.inr (.inl e))
 ·exact .inl (.inr (.inr (.inl e)))
 ·exact .inl (.inr (.inr (.inr (.inl e))))
 ·rcases hb i e with h|h
  ·exact .inl (.inr (.inr (.inr (.inr (.inl h)))))
  ·exact .inr h
 ·rcases hi y hy with h|⟨h1,h2,h3⟩
  ·exact .inl (.inr (.inr (.inr (.inr (.inr ⟨y,h,e⟩)))))
  ·rcases e with e|e|e
   ·exact .inr (by omega)
   ·exact .inr (by omega)
   ·exact .inr (h3 i e)
theorem uH {t st d:Nat} {r:Dm} {sl:Sl} {its:List It}:∀i,Gn t sl i->cx t st d r sl its i:=by
 rintro i (e|e)
 ·exact .inl e
 ·exact .inr (.inr (.inr (.inr (.inl e))))
theorem Hf (a:Addr):One [Value.pointer (some a)]:=by intro v hv;simp at hv;subst hv;rfl
theorem TO.push {w : World} {t st d : Nat} {r : Dm} {sl : Sl} {D : Dk} {aa limit : Int} {its : List It} (h : TO w t st d r sl D aa limit its) (y : It) (hy : ox w y) (hx : y.x ∉ its.map (·.x)) (hg : y.g ∉ its.map (·.g)) (hl : (its.length : Int) + 1 ≤ limit) :
  az 8 1 w sl 1 [.pointer (some ⟨y.x, 0, none⟩)] ∧ ∀ (s4 : Sl) (w5 : World), av EA 1 w sl 1 [.pointer (some ⟨y.x, 0, none⟩)] s4 w5 →
   Mod (fun j => sl.ax = some j) w w5 ∧ Wr w5 (ae (some ⟨t, 0, none⟩) 3) 1 ∧ ∀ w6, w6 = aA w5 (ae (some ⟨t, 0, none⟩) 3) [.slice s4.a s4.n s4.c] →
    TO w6 t st d r s4 D aa limit (its ++ [y]) ∧ Mod (Gn t sl) w w6 ∧ ∀ b, s4.ax = some b → sl.ax = some b ∨ w.heap.size ≤ b := by
 have hn := h.n
 have hlim := h.Ei
 obtain ⟨hp, hr⟩ := h.ol.append (bytes := 8) (news := [.pointer (some ⟨y.x, 0, none⟩)]) (Nat.zero_le _) rfl (Hf _) (by omega) (by omega)
 refine ⟨hp, fun s4 w5 hres => ?_⟩
 obtain ⟨ho, hn4, hbl, hk, hblk⟩ := hr s4 w5 hres
 have hm5 : Mod (fun j => sl.ax = some j) w w5 := Mod.oT hbl hk
 have hnt : ¬ sl.ax = some t := fun e => by
  obtain ⟨cs', hr'⟩ := au h.ol (by decide) e
  exact hr'.ne h.rt (by decide) rfl
 have rt5 := hm5.row h.rt hnt
 obtain ⟨p1, p2⟩ := rt5.iR (j := 3) (v := .slice s4.a s4.n s4.c) (by simp) rfl
 refine ⟨hm5, p1, fun w6 e6 => ?_⟩
 obtain ⟨q1, q2⟩ := p2 w6 e6
 have hm6 : Mod (Gn t sl) w w6 := (hm5.mono fun i _ hi => .inr hi).trans (q2.mono fun i _ hi => .inl hi)
 have h4t : ∀ b, s4.ax = some b → b ≠ t := fun b hb => by
  obtain ⟨cs', hr'⟩ := au ho (by decide) hb
  exact hr'.ne rt5 (by decide)
 refine ⟨h.EH hm6 q1 ?_ (fun z hz => ?_) ?_ ?_ (by simp; omega), hm6, fun b hb => ?_⟩
 ·have := q2.cr ho h4t
  show af 0 EA 1 w6 s4 ((its ++ [y]).map _)
  rw [List.map_append]; exact this
 ·rcases List.mem_append.1 hz with hz | hz
  ·exact .inl hz
  ·simp at hz; subst hz; exact .inr hy
 ·rw [List.map_append]
  refine List.nodup_append.2 ⟨h.dx, by simp, ?_⟩
  intro a ha b hb e
  simp at hb
  subst hb; subst e
  exact hx ha
 ·rw [List.map_append]
  refine List.nodup_append.2 ⟨h.dg, by simp, ?_⟩
  intro a ha b hb e
  simp at hb
  subst hb; subst e
  exact hg ha
 ·rcases hblk with e | e
  ·exact .inl (by rw [← e]; exact hb)
  ·rw [e] at hb; cases hb; exact .inr (Nat.le_refl _)
theorem y5 {w : World} {t st d : Nat} {r : Dm} {sl : Sl} {D : Dk} {aa limit : Int} {its : List It} (h : TO w t st d r sl D aa limit its) {i : Nat} {y : It} (hi : its[i]? = some y) :
  Calls Tryz.prog dm #[.pointer (some ⟨t, 0, none⟩), .int .i64 (i : Nat)] w fun e w' => e = .returned (.pointer (some ⟨y.x, 0, none⟩)) ∧ ∃ sl', TO w' t st d r sl' D aa limit (its.eraseIdx i) ∧ Mod (Gn t sl) w w' ∧ ∀ b, sl'.ax = some b → sl.ax = some b ∨ w.heap.size ≤ b := by
 apply gW.vc
 have hn := h.n
 have hlim := h.Ei
 have hlen := h.len
 have hil := (List.getElem?_eq_some_iff.1 hi).1
 obtain ⟨a1, a2⟩ := h.at hi
 have hd := h.ext (Ext.dr w)
 have hle := af.le h.ol
 have w1 : IntKind.wrap .i64 ((i : Int) + 1) = ((i + 1 : Nat) : Int) := by rw [wI]; omega
 refine ⟨sl, h.rt.at 3 rfl, a1, _, a2, sl, hd.rt.at 3 rfl, by omega, by omega, by omega, by omega, sl, hd.rt.at 3 rfl, ?_⟩
 rw [w1]
 have hcut := hd.ol.cut (by decide) (m := i) (by rw [List.length_map]; omega)
 have hrest := ba.rest (hd.ol.rd (by decide)) (l := i + 1) (m := sl.c) (n' := sl.n - (i + 1)) (c' := sl.c - (i + 1)) (by rw [List.length_map]; omega) (by rw [List.length_map]; omega)
 have hml : ((tk its).drop (i + 1)).length = sl.n - (i + 1) := by rw [List.length_drop, List.length_map]; omega
 have hwd : ∀ q ∈ (tk its).drop (i + 1), q.length = 1 ∧ One q := fun q hq => by
  obtain ⟨z, _, rfl⟩ := List.mem_map.1 (List.mem_of_mem_drop hq)
  exact ⟨rfl, Hf _⟩
 obtain ⟨hp, hres⟩ := hcut.yQ (bytes := 8) (more := (tk its).drop (i + 1)) (Nat.zero_le _) (fun q hq => (hwd q hq).1) (fun q hq => (hwd q hq).2) (by rw [hml]; show (i + _) * 8 ≤ _; omega) (by rw [hml]; show i + _ ≤ _; omega)
 rw [hml] at hp hres
 refine ⟨by omega, by omega, ((tk its).drop (i + 1)).flatten, hrest.flat (by decide), hp, fun s5 w6 hr => ?_⟩
 obtain ⟨ho, hn5, hbl, hk, hblk⟩ := hres s5 w6 hr
 have hsb : (Sl.mk (ai sl.a 0 i 1) i i).ax = sl.ax := by rw [bR]; rfl
 rw [hsb] at hk hblk
 have hm6 : Mod (fun j => sl.ax = some j) w w6 := (Mod.ar (Ext.dr w)).trans (Mod.oT hbl hk)
 have hnt : ¬ sl.ax = some t := fun e => by
  obtain ⟨cs', hr'⟩ := au h.ol (by decide) e
  exact hr'.ne h.rt (by decide) rfl
 have rt6 := hm6.row h.rt hnt
 obtain ⟨p1, p2⟩ := rt6.iR (j := 3) (v := .slice s5.a s5.n s5.c) (by simp) rfl
 have hld : aj w6 (ae (some ⟨t, 0, none⟩) 3) 0 [sl] := by
  show ld w6 (ae _ 0) = _
  rw [bf]; exact rt6.at 3 rfl
 refine ⟨hld, hld, ⟨rfl, p1⟩, fun w7 e7 => ⟨rfl, s5, ?_⟩⟩
 obtain ⟨q1, q2⟩ := p2 w7 e7
 have hm7 : Mod (Gn t sl) w w7 := (hm6.mono fun i _ hi => .inr hi).trans (q2.mono fun i _ hi => .inl hi)
 have h5t : ∀ b, s5.ax = some b → b ≠ t := fun b hb => by
  obtain ⟨cs', hr'⟩ := au ho (by decide) hb
  exact hr'.ne rt6 (by decide)
 have hsub : List.Sublist (its.eraseIdx i) its := List.eraseIdx_sublist ..
 refine ⟨h.EH hm7 q1 ?_ (fun z hz => .inl (hsub.subset hz)) (h.dx.sublist (hsub.map _)) (h.dg.sublist (hsub.map _)) ?_, hm7, fun b hb => ?_⟩
 ·have := q2.cr ho h5t
  show af 0 EA 1 w7 s5 ((its.eraseIdx i).map _)
  rw [List.eraseIdx_eq_take_drop_succ, List.map_append, List.map_take, List.map_drop]; exact this
 ·have := hsub.length_le; omega
 ·rcases hblk with e | e
  ·exact .inl (by rw [← e]; exact hb)
  ·rw [e] at hb; cases hb; exact .inr (Nat.le_refl _)
theorem wN {α : Type} {f : α → Nat} {l : List α} {i : Nat} {y : α} (hd : (l.map f).Nodup) (hi : l[i]? = some y) : f y ∉ (l.eraseIdx i).map f := by
 rw [List.eraseIdx_eq_take_drop_succ, List.map_append]
 have e : l = l.take i ++ y :: l.drop (i + 1) := by
  have := List.take_append_drop i l
  rw [List.drop_eq_getElem_cons (List.getElem?_eq_some_iff.1 hi).1] at this
  rw [← (List.getElem?_eq_some_iff.1 hi).2]
  exact this.symm
 rw [e, List.map_append, List.map_cons] at hd
 obtain ⟨h1, h2, h3⟩ := List.nodup_append.1 hd
 intro hm
 rcases List.mem_append.1 hm with hm | hm
 ·exact h3 _ hm _ (.head _) rfl
 ·exact (List.nodup_cons.1 h2).1 hm
theorem uJ {w : World} {t st d : Nat} {r : Dm} {sl : Sl} {D : Dk} {aa limit : Int} {its : List It} (h : TO w t st d r sl D aa limit its) {i : Nat} {y : It} (hi : its[i]? = some y) :
  Calls Tryz.prog cB #[.pointer (some ⟨t, 0, none⟩), .int .i64 (i : Nat)] w fun e w' => e = .returned (.pointer (some ⟨y.x, 0, none⟩)) ∧ ∃ sl', TO w' t st d r sl' D aa limit (its.eraseIdx i ++ [y]) ∧ ao (cx t st d r sl its) (cx t st d r sl' (its.eraseIdx i ++ [y])) w w' := by
 apply fm.vc
 have hil := (List.getElem?_eq_some_iff.1 hi).1
 have hym : y ∈ its := List.mem_of_getElem? hi
 have hlen := h.len
 refine (y5 h hi).mono ?_
 rintro e w0 ⟨rfl, sl0, h0, m0, b0⟩
 have hy0 := h.item m0 (h.it y hym)
 refine ⟨_, rfl, sl0, h0.rt.at 3 rfl, fun w3 e3 => ?_⟩
 have x3 : Ext w0 w3 := (Ext.aq _).ab e3
 have h3 := h0.ext x3
 have hsub : List.Sublist (its.eraseIdx i) its := List.eraseIdx_sublist ..
 have hel : (its.eraseIdx i).length = its.length - 1 := by rw [List.length_eraseIdx, if_pos hil]
 obtain ⟨hp, hr⟩ := h3.push y (hy0.ext x3) (wN h.dx hi) (wN h.dg hi) (by omega)
 refine ⟨hp, fun s4 w5 hres => ?_⟩
 obtain ⟨m5, p1, p2⟩ := hr s4 w5 hres
 have ht0 := h0.rt.lt
 have z3 := dR e3
 refine ⟨m5.same _ (by omega) fun e => by have := (h0.ol.own.lt e).2; omega, ⟨rfl, p1⟩, fun e => ?_, fun w6 e6 => ⟨rfl, s4, ?_⟩⟩
 ·rw [br] at e
  have : t = w0.heap.size := by simpa [bD] using e
  omega
 ·obtain ⟨q1, q2, q3⟩ := p2 w6 e6
  have z0 := m0.size
  refine ⟨q1, ⟨?_, ?_⟩⟩
  ·have a1 : Mod (cx t st d r sl its) w w3 := (m0.mono fun i _ hi => uH i hi).trans (Mod.ar x3)
   refine a1.tr q2 fun j hj => ?_
   rcases hj with e | e
   ·exact .inl (.inl e)
   ·rcases b0 j e with e | e
    ·exact .inl (.inr (.inr (.inr (.inr (.inl e)))))
    ·exact .inr e
  ·refine uI (w := w) (fun b hb => ?_) (fun z hz => .inl ?_)
   ·rcases q3 b hb with e | e
    ·exact b0 b e
    ·exact .inr (by omega)
   ·rcases List.mem_append.1 hz with hz | hz
    ·exact hsub.subset hz
    ·simp at hz; subst hz; exact hym
end Go.Proofs.YtalpkjfpmdpbiaaGreatDoor
namespace Go.Proofs.YtalpkjfpmdpbiaaGreatDoor
open Go Go.Vc Go.RowKit Go.Proofs Go.bQ Go.aB Go.Code
theorem TO.put {w w' : World} {t st d : Nat} {r : Dm} {sl : Sl} {D : Dk} {aa limit : Int} {its : List It} (h : TO w t st d r sl D aa limit its) {i : Nat} {y y' : It} (hi : its[i]? = some y) (hx : y'.x = y.x) (hg : y'.g = y.g) (hm : Mod (fun j => j = y.x) w w') (hy : ox w' y') : TO w' t st d r sl D aa limit (its.set i y') := by
 have hil := (List.getElem?_eq_some_iff.1 hi).1
 have hr := (h.it y (List.mem_of_getElem? hi)).r
 have off : ∀ {j : Nat} {cs : List Value} {τ : TypeId}, Row w j cs τ → τ ≠ aU → ¬ j = y.x := fun hr' ht e => hr'.ne hr ht e
 have hpx : tk (its.set i y') = tk its := by
  unfold tk
  rw [List.map_set, hx]
  apply List.ext_getElem?
  intro j
  rw [List.getElem?_set]
  split
  ·rename_i e; subst e
   rw [if_pos (by rw [List.length_map]; exact hil), List.getElem?_map, hi]; rfl
  ·rfl
 have hmx : (its.set i y').map (·.x) = its.map (·.x) := by
  rw [List.map_set, hx]
  apply List.ext_getElem?
  intro j
  rw [List.getElem?_set]
  split
  ·rename_i e; subst e
   rw [if_pos (by rw [List.length_map]; exact hil), List.getElem?_map, hi]; rfl
  ·rfl
 have hmg : (its.set i y').map (·.g) = its.map (·.g) := by
  rw [List.map_set, hg]
  apply List.ext_getElem?
  intro j
  rw [List.getElem?_set]
  split
  ·rename_i e; subst e
   rw [if_pos (by rw [List.length_map]; exact hil), List.getElem?_map, hi]; rfl
  ·rfl
 refine ⟨hm.row h.rt (off h.rt (by decide)), h.so.bC hm (fun hr' hτ => by rcases hτ with rfl | rfl | rfl | rfl <;> exact off hr' (by decide)) (fun hmp e => hr.dY hmp e.symm), ?_, fun z hz => ?_, by rw [hmx]; exact h.dx, by rw [hmg]; exact h.dg, h.Ei, by rw [List.length_set]; exact h.len⟩
 ·rw [hpx]
  exact hm.cr h.ol fun b hb => by
   obtain ⟨cs', hr'⟩ := au h.ol (by decide) hb
   exact off hr' (by decide)
 ·obtain ⟨j, hj⟩ := List.getElem?_of_mem hz
  rw [List.getElem?_set] at hj
  split at hj
  ·cases hj; exact hy
  ·rename_i hne
   have hzj := h.it z (List.mem_of_getElem? hj)
   refine hzj.bC hm (fun e => ?_) (off hzj.k.row (by decide)) (fun b hb => ?_)
   ·
    have h1 : (its.map (·.x))[i]? = some y.x := by rw [List.getElem?_map, hi]; rfl
    have h2 : (its.map (·.x))[j]? = some z.x := by rw [List.getElem?_map, hj]; rfl
    have hjl := (List.getElem?_eq_some_iff.1 hj).1
    rw [e, ← h1] at h2
    exact hne ((List.getElem?_inj (by rw [List.length_map]; exact hjl) h.dx).1 h2).symm
   ·obtain ⟨cs', hr'⟩ := au hzj.k.own (by decide) hb
    exact off hr' (by decide)
theorem Ej {t st d : Nat} {r : Dm} {sl : Sl} {its : List It} {i : Nat} {y y' : It} (hi : its[i]? = some y) (hx : y'.x = y.x) (hg : y'.g = y.g) (hs : y'.s = y.s) : ∀ j, cx t st d r sl (its.set i y') j → cx t st d r sl its j := by
 rintro j (e | e | e | e | e | ⟨z, hz, e⟩)
 ·exact .inl e
 ·exact .inr (.inl e)
 ·exact .inr (.inr (.inl e))
 ·exact .inr (.inr (.inr (.inl e)))
 ·exact .inr (.inr (.inr (.inr (.inl e))))
 ·rcases List.mem_or_eq_of_mem_set hz with hz | hz
  ·exact .inr (.inr (.inr (.inr (.inr ⟨z, hz, e⟩))))
  ·subst hz
   rw [hx, hg, hs] at e
   exact .inr (.inr (.inr (.inr (.inr ⟨y, List.mem_of_getElem? hi, e⟩))))
abbrev En:=Po × List Int × Bool × Int
def It.ob (i:It):En:=(i.p,i.C,i.jD,i.pins)
abbrev eE (its:List It):List En:=its.map It.ob
theorem rh (its:List It) (i:Nat):eE (its.eraseIdx i)=(eE its).eraseIdx i:=by
 unfold eE
 rw [List.eraseIdx_eq_take_drop_succ,List.eraseIdx_eq_take_drop_succ,List.map_append,List.map_take,List.map_drop]
abbrev Tb:=Dk × List En
def ee (D:Dk) (e:En):Dk × En × Int:=
 if e.2.2.1=true then ((vK D (l8 e.1) (k7 (bN e.2.1))).1,(e.1,e.2.1,decide ((vK D (l8 e.1) (k7 (bN e.2.1))).2≠0),e.2.2.2),(vK D (l8 e.1) (k7 (bN e.2.1))).2)else (D,e,0)
def Ir (D:Dk) (l:List En) (i:Nat):Tb × Int:=
 match l[i]? with
 |none=>((D,l),0)
 |some e=>if (ee D e).2.2=0 then (((ee D e).1,l.eraseIdx i),0)else (((ee D e).1,l.set i (ee D e).2.1),(ee D e).2.2)
def bK (limit : Int) (D : Dk) (l : List En) : Tb × Int :=
 if (l.length : Int) < limit then ((D, l), 0) else if aR (fun e : En => e.2.2.2 == 0) l < 0 then ((D, l), 8) else Ir D l (aR (fun e : En => e.2.2.2 == 0) l).toNat
theorem TO.Ek {w : World} {t st d : Nat} {r : Dm} {sl : Sl} {D : Dk} {aa limit : Int} {its : List It} (h : TO w t st d r sl D aa limit its) {j : Nat} {cs : List Value} {τ : TypeId} (hr : Row w j cs τ) (h1 : τ ≠ mP) (h2 : τ ≠ tW) : ¬ (j = d ∨ r.ls.ax = some j) := by
 rintro (e | e)
 ·exact hr.ne h.so.dk.rd h1 e
 ·obtain ⟨cs', hr'⟩ := au h.so.dk.ol (by decide) e
  exact hr.ne hr' h2 rfl
theorem TO.store {w w' : World} {t st d : Nat} {r r' : Dm} {sl : Sl} {D D' : Dk} {aa limit : Int} {its : List It} (h : TO w t st d r sl D aa limit its) (hm : Mod (fun i => i = d ∨ r.ls.ax = some i) w w') (hs : SO w' st d r' D') : TO w' t st d r' sl D' aa limit its := by
 refine ⟨hm.row h.rt (h.Ek h.rt (by decide) (by decide)), hs, hm.cr h.ol fun b hb => ?_, fun y hy => ?_, h.dx, h.dg, h.Ei, h.len⟩
 ·obtain ⟨cs', hr'⟩ := au h.ol (by decide) hb
  exact h.Ek hr' (by decide) (by decide)
 ·have hy' := h.it y hy
  refine hy'.bC hm (h.Ek hy'.r (by decide) (by decide)) (h.Ek hy'.k.row (by decide) (by decide)) fun b hb => ?_
  obtain ⟨cs', hr'⟩ := au hy'.k.own (by decide) hb
  exact h.Ek hr' (by decide) (by decide)
theorem AK {n:Nat} {t st d:Nat} {r r':Dm} {sl:Sl} {its:List It} (hs:∀i,dF d r' i->dF d r i\/n<=i):∀i,cx t st d r' sl its i->cx t st d r sl its i\/n<=i:=by
 rintro i (e|e|e|e|e|e)
 ·exact .inl (.inl e)
 ·exact .inl (.inr (.inl e))
 ·exact .inl (.inr (.inr (.inl e)))
 ·rcases hs i (.inr e)with q|q
  ·rcases q with q|q
   ·exact .inl (.inr (.inr (.inl q)))
   ·exact .inl (.inr (.inr (.inr (.inl q))))
  ·exact .inr q
 ·exact .inl (.inr (.inr (.inr (.inr (.inl e)))))
 ·exact .inl (.inr (.inr (.inr (.inr (.inr e)))))
theorem Gf {t st d:Nat} {r:Dm} {sl:Sl} {its:List It}:∀i,(i=d\/r.ls.ax=some i)->cx t st d r sl its i:=by
 rintro i (e|e)
 ·exact .inr (.inr (.inl e))
 ·exact .inr (.inr (.inr (.inl (.inr (.inl e)))))
theorem Gg {C:List Int}:ks (k7 (bN C)):=HH _
theorem HI {C:List Int} (hl:C.length=8192):(k7 (bN C)).length<=65536:=by
 have h1:=BN (bN C)
 have h2:=jE C
 omega
set_option maxRecDepth 100000 in
theorem CB {w : World} {t st d : Nat} {r : Dm} {sl : Sl} {D : Dk} {aa limit : Int} {its : List It} (h : TO w t st d r sl D aa limit its) (hW : D.l.length ≤ 1000000) {i : Nat} {y : It} (hi : its[i]? = some y) :
  Calls Tryz.prog eF #[.pointer (some ⟨t, 0, none⟩), .pointer (some ⟨y.x, 0, none⟩)] w fun e w' => e = .returned (.int .i64 (ee D y.ob).2.2) ∧ ∃ r' y', TO w' t st d r' sl (ee D y.ob).1 aa limit (its.set i y') ∧ y'.ob = (ee D y.ob).2.1 ∧ ao (cx t st d r sl its) (cx t st d r' sl (its.set i y')) w w' := by
 apply fM.vc
 have hym := List.mem_of_getElem? hi
 have hy := h.it y hym
 have hset : its.set i y = its := by
  obtain ⟨hl, he⟩ := List.getElem?_eq_some_iff.1 hi
  rw [← he]; exact List.set_getElem_self hl
 refine ⟨_, hy.r.at 1 rfl, Br.mk (fun hb => ?_) (fun hb => ?_)⟩
 ·have hd : y.jD = false := by simpa using hb
  have e : ee D y.ob = (D, y.ob, 0) := by unfold ee; rw [if_neg (by show ¬ y.jD = true; rw [hd]; decide)]
  rw [e]
  exact ⟨rfl, r, y, by rw [hset]; exact h, rfl, by rw [hset]; exact ao.refl _ _⟩
 ·have hd : y.jD = true := by simpa using hb
  have e : ee D y.ob = ((vK D (l8 y.p) (k7 (bN y.C))).1, (y.p, y.C, decide ((vK D (l8 y.p) (k7 (bN y.C))).2 ≠ 0), y.pins), (vK D (l8 y.p) (k7 (bN y.C))).2) := by unfold ee; rw [if_pos (by show y.jD = true; exact hd)]; rfl
  rw [e]
  refine ⟨_, hy.r.at 0 rfl, vD (vD ⟨_, _, hy.k.pos, (o4 y.p w).mono ?_⟩)⟩
  rintro e w4 ⟨rfl, x4⟩
  refine ⟨_, _, rfl, (BO y.p w4).mono ?_⟩
  rintro e w7 ⟨rfl, x7⟩
  have x07 := (x4.tr x7).tr (Ext.dr w7)
  have h7 := h.ext x07
  have hy7 := h7.it y hym
  refine ⟨_, _, rfl, _, h7.rt.at 0 rfl, _, hy7.r.at 0 rfl, (AL hy7.k).mono ?_⟩
  rintro e w12 ⟨s13, rfl, o13, x12⟩
  have x012 := x07.tr x12
  have h12 := h.ext x012
  have hk := hy.k
  refine ⟨s13, rfl, qh (h12.rt.at 0 rfl), (yT h12.so hW (l8 y.p) s13 (k7 (bN y.C)) (jX.vL o13) Gg (Nat.le_trans (HI hk.len) (by decide))).mono ?_⟩
  rintro e w14 ⟨rfl, r', hs14, m14, f14, -⟩
  have h14 := h12.store m14 hs14
  have hy14 := h14.it y hym
  obtain ⟨p1, p2⟩ := hy14.r.iR (j := 1) (v := .bool ((vK D (l8 y.p) (k7 (bN y.C))).2 != 0)) (by simp) rfl
  refine ⟨_, rfl, ⟨rfl, p1⟩, fun w16 e16 => ?_⟩
  obtain ⟨q1, q2⟩ := p2 w16 e16
  have hbd : ((vK D (l8 y.p) (k7 (bN y.C))).2 != 0) = decide ((vK D (l8 y.p) (k7 (bN y.C))).2 ≠ 0) := by
   rw [Bool.eq_iff_iff]; simp
  rw [hbd] at q1
  have hy' : ox w16 { y with jD := decide ((vK D (l8 y.p) (k7 (bN y.C))).2 ≠ 0) } := ⟨q1, hy14.k.bC q2 (fun e => hy14.k.row.ne hy14.r (by decide) e) fun b hb => by
   obtain ⟨cs', hr'⟩ := au hy14.k.own (by decide) hb
   exact hr'.ne hy14.r (by decide)⟩
  have z12 := x012.size
  have z14 := m14.size
  refine ⟨rfl, r', { y with jD := decide ((vK D (l8 y.p) (k7 (bN y.C))).2 ≠ 0) }, h14.put hi rfl rfl q2 hy', rfl, ?_⟩
  have t1 : ao (cx t st d r sl its) (cx t st d r' sl its) w12 w14 := ⟨m14.mono fun i _ hi => Gf i hi, AK f14⟩
  have t2 : ao (cx t st d r' sl its) (cx t st d r' sl (its.set i { y with jD := decide ((vK D (l8 y.p) (k7 (bN y.C))).2 ≠ 0) })) w14 w16 := ⟨q2.mono fun j _ hj => .inr (.inr (.inr (.inr (.inr ⟨y, hym, .inl hj⟩)))), fun j hj => .inl (Ej (y' := { y with jD := decide ((vK D (l8 y.p) (k7 (bN y.C))).2 ≠ 0) }) hi rfl rfl rfl j hj)⟩
  exact (ao.ar x012).trans (t1.trans t2)
end Go.Proofs.YtalpkjfpmdpbiaaGreatDoor
namespace Go.Proofs.YtalpkjfpmdpbiaaGreatDoor
open Go Go.Vc Go.RowKit Go.Proofs Go.bQ Go.aB Go.Code
abbrev wH (w : World) (t st d : Nat) (r : Dm) (sl : Sl) (aa limit : Int) (its : List It) (T : Tb) (w' : World) : Prop :=
 ∃ r' sl' its', TO w' t st d r' sl' T.1 aa limit its' ∧ eE its' = T.2 ∧ ao (cx t st d r sl its) (cx t st d r' sl' its') w w'
theorem HQ {its:List It} {i:Nat} {y:It} (h:its[i]? =some y):(eE its)[i]? =some y.ob:=by rw [List.getElem?_map,h];rfl
theorem Gm {its:List It} {i:Nat} {y':It} {e:En} (h:y'.ob=e):eE (its.set i y')=(eE its).set i e:=by unfold eE;rw [List.map_set,h]
theorem HR {D:Dk} {l:List En} {i:Nat} {e:En} (h:l[i]? =some e):Ir D l i=if (ee D e).2.2=0 then (((ee D e).1,l.eraseIdx i),0)else (((ee D e).1,l.set i (ee D e).2.1),(ee D e).2.2):=by unfold Ir;rw [h]
theorem Ez {w w' : World} {t st d : Nat} {r : Dm} {sl sl' : Sl} {its its' : List It} (hm : Mod (Gn t sl) w w') (hb : ∀ b, sl'.ax = some b → sl.ax = some b ∨ w.heap.size ≤ b) (hs : ∀ y ∈ its', y ∈ its) : ao (cx t st d r sl its) (cx t st d r sl' its') w w' :=
 ⟨hm.mono fun i _ hi => uH i hi, uI hb fun y hy => .inl (hs y hy)⟩
set_option maxRecDepth 100000 in
theorem CK {w : World} {t st d : Nat} {r : Dm} {sl : Sl} {D : Dk} {aa limit : Int} {its : List It} (h : TO w t st d r sl D aa limit its) (hW : D.l.length ≤ 1000000) :
  Calls Tryz.prog eG #[.pointer (some ⟨t, 0, none⟩)] w fun e w' => e = .returned (.int .i64 (bK limit D (eE its)).2) ∧ wH w t st d r sl aa limit its (bK limit D (eE its)).1 w' ∧ ((bK limit D (eE its)).2 = 0 → ((bK limit D (eE its)).1.2.length : Int) + 1 ≤ limit) := by
 apply fT.vc
 have hd := h.ext (Ext.dr w)
 have hn := h.n
 have hol : (eE its).length = its.length := by rw [List.length_map]
 have hlen := h.len
 have hlim := h.Ei
 refine ⟨sl, hd.rt.at 3 rfl, limit, hd.rt.at 2 rfl, Br.mk (fun hb => ?_) (fun hb => ?_)⟩
 ·replace hb := eN hb
  have e : bK limit D (eE its) = ((D, eE its), 0) := by unfold bK; rw [if_pos (by omega)]
  rw [e]
  exact ⟨rfl, ⟨r, sl, its, hd, rfl, ao.ar (Ext.dr w)⟩, fun _ => by simp only; omega⟩
 ·replace hb := eO hb
  refine ⟨sl, hd.rt.at 3 rfl, (nt sl its (·.x) _ (fun i => i.pins == 0) w.drew (hd.ol.rd (by decide)) (by omega) ?_).mono ?_⟩
  ·intro y hy w' x'
   refine fc (by kernel_rfl) (by rfl) ?_
   apply eJ.vc
   have hy' := (hd.it y hy).ext x'
   exact ⟨_, hy'.r.at 2 rfl, rfl, Ext.aq _⟩
  ·rintro e w3 ⟨rfl, x3⟩
   have h3 := hd.ext x3
   have hfm : aR (fun e : En => e.2.2.2 == 0) (eE its) = aR (fun i : It => i.pins == 0) its := iS It.ob _ its
   have x03 : Ext w w3 := (Ext.dr w).tr x3
   refine ⟨_, rfl, Br.mk (fun hb2 => ?_) (fun hb2 => ?_)⟩
   ·replace hb2 := eN hb2
    have e : bK limit D (eE its) = ((D, eE its), 8) := by unfold bK; rw [if_neg (by omega), if_pos (by omega)]
    rw [e]
    exact ⟨rfl, ⟨r, sl, its, h3, rfl, ao.ar x03⟩, fun h => by simp at h⟩
   ·replace hb2 := eO hb2
    rcases cO (fun i : It => i.pins == 0) its with ⟨h1, -⟩ | ⟨k, y, hk, -, hfk, -⟩
    ·omega
    ·have e : bK limit D (eE its) = Ir D (eE its) k := by
      unfold bK
      rw [if_neg (by omega), if_neg (by omega), hfm, hfk]; rfl
     rw [hfk, e, HR (HQ hk)]
     obtain ⟨a1, a2⟩ := h3.at hk
     have hkl := (List.getElem?_eq_some_iff.1 hk).1
     refine ⟨sl, h3.rt.at 3 rfl, a1, _, a2, (CB h3 hW hk).mono ?_⟩
     rintro e w7 ⟨rfl, r', y', h7, hob, t7⟩
     refine ⟨_, rfl, Br.mk (fun hz => ?_) (fun hz => ?_)⟩
     ·have hz : (ee D y.ob).2.2 = 0 := by simpa using hz
      have hk' : (its.set k y')[k]? = some y' := List.getElem?_set_self hkl
      refine (y5 h7 hk').mono ?_
      rintro e w9 ⟨rfl, sl', h9, m9, b9⟩
      rw [List.eraseIdx_set_eq] at h9
      refine ⟨_, rfl, ?_⟩
      rw [if_pos hz]
      refine ⟨by rw [hz], ⟨r', sl', _, h9, rh _ _, (ao.ar x03).trans (t7.trans (Ez m9 b9 fun z hz => ?_))⟩, fun _ => ?_⟩
      ·rw [← List.eraseIdx_set_eq (l := its) (i := k) (a := y')] at hz
       exact (List.eraseIdx_sublist ..).subset hz
      ·simp only [List.length_eraseIdx]; split <;> omega
     ·have hz : (ee D y.ob).2.2 ≠ 0 := by simpa using hz
      rw [if_neg hz]
      exact ⟨rfl, ⟨r', sl, _, h7, Gm hob, (ao.ar x03).trans t7⟩, fun q => absurd q hz⟩
theorem Gp (D:Dk) (e:En):(ee D e).1.l.length<=D.l.length+1:=by
 unfold ee
 split
 ·exact HF _ _ _
 ·exact Nat.le_succ _
theorem IM (D:Dk) (l:List En) (i:Nat):(Ir D l i).1.1.l.length<=D.l.length+1:=by
 unfold Ir
 split
 ·exact Nat.le_succ _
 ·split<;>exact Gp _ _
theorem Gq (limit:Int) (D:Dk) (l:List En):(bK limit D l).1.1.l.length<=D.l.length+1:=by
 unfold bK
 split
 ·exact Nat.le_succ _
 ·split
  ·exact Nat.le_succ _
  ·exact IM _ _ _
theorem BW {p:Po} (h:ow p):BH p:=by unfold ow at h;unfold BH;omega
def gZ (aa:Int) (p:Po) (b:List Int):List Int:=if (bh aC b 8192).2=0 then aH (bh aC b 8192).1 else made aa p
def wJ (aa limit : Int) (D : Dk) (l : List En) (p : Po) : Tb × Int :=
 if ¬ ow p then ((D, l), 5)
 else if 0 ≤ aR (fun e : En => e.1 == p) l then ((D, l.eraseIdx (aR (fun e : En => e.1 == p) l).toNat ++ l[(aR (fun e : En => e.1 == p) l).toNat]?.toList), 0)
 else if (bK limit D l).2 ≠ 0 then bK limit D l
 else (((bK limit D l).1.1, (bK limit D l).1.2 ++ [(p, gZ aa p (oU (bK limit D l).1.1 (l8 p)).1, false, 0)]), 0)
set_option maxRecDepth 100000 in
theorem bL {w v : World} {t st d : Nat} {r : Dm} {sl : Sl} {D : Dk} {aa limit : Int} {its : List It} (h : TO v t st d r sl D aa limit its) (hw : w.heap.size < v.heap.size) (hwf : ¬ cx t st d r sl its w.heap.size) (htw : t < w.heap.size) (hr : (its.length : Int) + 1 ≤ limit) {g : Nat} {s : Sl} {p : Po} {C : List Int} (hk : vQ v g s p C) (hg : g ∉ its.map (·.g)) (u : World) (hn : u.heap.size ≤ v.heap.size) (hgn : u.heap.size ≤ g) (hsn : ∀ b, s.ax = some b → u.heap.size ≤ b)
  {K : World → Prop} (hK : ∀ w', (∃ s' y, TO w' t st d r s' D aa limit (its ++ [y]) ∧ y.ob = (p, C, false, 0) ∧ (∀ i, cx t st d r s' (its ++ [y]) i → cx t st d r sl its i ∨ u.heap.size ≤ i) ∧ Mod (cx t st d r sl its) v w') → K w') :
  ∃ (s21 : Sl), ld v (ae (some ⟨t, 0, none⟩) 3) = some (.slice s21.a s21.n s21.c) ∧
   ∀ w22 : World, w22 = v.alloc (.cells #[.pointer (some ⟨g, 0, none⟩), .bool false, (0:Int)] aU) →
   ∀ w23 : World, w23 = w22.alloc (.cells #[.pointer (some ⟨v.heap.size, 0, none⟩)] EA) →
   az 8 1 w23 ⟨s21.a, s21.n, s21.c⟩ 1 [.pointer (some ⟨v.heap.size, 0, none⟩)] ∧ ∀ (s24 : Sl) (w25 : World), av EA 1 w23 ⟨s21.a, s21.n, s21.c⟩ 1 [.pointer (some ⟨v.heap.size, 0, none⟩)] s24 w25 → w25.heap[w.heap.size]? = w23.heap[w.heap.size]? ∧ w25.heap[w22.heap.size]? = w23.heap[w22.heap.size]? ∧
    (true = true ∧ Wr w25 (ae (some ⟨t, 0, none⟩) 3) 1) ∧ bD (ae (some ⟨t, 0, none⟩) 3) ≠ some w.heap.size ∧ bD (ae (some ⟨t, 0, none⟩) 3) ≠ some w22.heap.size ∧ (∀ w26 : World, w26 = aA w25 (ae (some ⟨t, 0, none⟩) 3) [.slice s24.a s24.n s24.c] → K w26) := by
 refine ⟨sl, h.rt.at 3 rfl, fun w22 e22 w23 e23 => ?_⟩
 have x22 : Ext v w22 := (Ext.aq _).ab e22
 have x23 : Ext w22 w23 := (Ext.aq _).ab e23
 have z22 := dR e22
 have z23 : w23.heap.size = v.heap.size + 2 := by rw [e23]; simp [z22]
 have hy : ox w23 ⟨v.heap.size, g, s, p, C, false, 0⟩ := ⟨(by rw [e22]; exact Row.new v [_, _, _] _ : Row w22 v.heap.size [.pointer (some ⟨g, 0, none⟩), .bool false, (0:Int)] aU).ext x23, (hk.ext x22).ext x23⟩
 have h23 := (h.ext x22).ext x23
 have hxn : v.heap.size ∉ its.map (·.x) := fun hm => by
  obtain ⟨z, hz, e⟩ := List.mem_map.1 hm
  have := (h.it z hz).r.lt; omega
 obtain ⟨hp, hres⟩ := h23.push _ hy hxn hg hr
 refine ⟨hp, fun s24 w25 hr25 => ?_⟩
 obtain ⟨m25, p1, p2⟩ := hres s24 w25 hr25
 have pb : ∀ j : Nat, t < j → bD (ae (some ⟨t, 0, none⟩) 3) ≠ some j := fun j hj e => by
  rw [br] at e
  have : t = j := by simpa [bD] using e
  omega
 have htl := h.rt.lt
 refine ⟨m25.same _ (by omega) fun e => hwf (.inr (.inr (.inr (.inr (.inl e))))), m25.same _ (by omega) fun e => by have := (h.ol.own.lt e).2; omega, ⟨rfl, p1⟩, pb _ htw, pb _ (by omega), fun w26 e26 => hK w26 ⟨s24, ⟨v.heap.size, g, s, p, C, false, 0⟩, ?_, rfl, ?_, ?_⟩⟩
 ·exact (p2 w26 e26).1
 ·obtain ⟨-, q2, q3⟩ := p2 w26 e26
  rintro i hi
  exact uI (w := u) (sl := sl) (its := its) (fun b hb => (q3 b hb).imp id fun e => by omega) (fun z hz => by
   rcases List.mem_append.1 hz with hz | hz
   ·exact .inl hz
   ·simp at hz; subst hz
    exact .inr ⟨hn, hgn, hsn⟩) i hi
 ·obtain ⟨-, q2, q3⟩ := p2 w26 e26
  exact (Mod.ar (x22.tr x23)).trans (q2.mono fun i _ hi => uH i hi)
set_option maxRecDepth 100000 in
theorem CL {w : World} {t st d : Nat} {r : Dm} {sl : Sl} {D : Dk} {aa limit : Int} {its : List It} (h : TO w t st d r sl D aa limit its) (hW : D.l.length ≤ 1000000) (p : Po) :
  Calls Tryz.prog cQ #[.pointer (some ⟨t, 0, none⟩), pv p] w fun e w' => e = .returned (.int .i64 (wJ aa limit D (eE its) p).2) ∧ wH w t st d r sl aa limit its (wJ aa limit D (eE its) p).1 w' := by
 apply fR.vc
 intro w0 e0
 have z0 := dR e0
 have x0 : Ext w w0 := (Ext.aq w).ab e0
 clear e0
 refine (BO p w0).mono ?_
 rintro e w1 ⟨rfl, x1⟩
 have z1 := x1.size
 have x01 := x0.tr x1
 refine ⟨_, _, rfl, x1.k, ?_⟩
 by_cases hin : ow p
 ·rw [decide_eq_true hin]
  refine Br.mk (fun h => by cases h) (fun _ => ?_)
  have h1 := h.ext x01
  refine (find_spec h1 p).mono ?_
  rintro e w4 ⟨rfl, x4⟩
  have z4 := x4.size
  have x04 := x01.tr x4
  have h4 := h.ext x04
  have hfm : aR (fun e : En => e.1 == p) (eE its) = aR (fun i : It => i.p == p) its := iS It.ob _ its
  have bx : ¬ cx t st d r sl its w.heap.size := fun hf => by have := h.lt hf; omega
  refine ⟨_, rfl, x4.k, ?_⟩
  rcases cO (fun i : It => i.p == p) its with ⟨hf, -⟩ | ⟨k, y, hk, -, hf, -⟩
  ·rw [hf]
   refine Br.mk (fun h => by simp at h) (fun _ => ?_)
   have hE : wJ aa limit D (eE its) p = if (bK limit D (eE its)).2 ≠ 0 then bK limit D (eE its) else (((bK limit D (eE its)).1.1, (bK limit D (eE its)).1.2 ++ [(p, gZ aa p (oU (bK limit D (eE its)).1.1 (l8 p)).1, false, 0)]), 0) := by
    unfold wJ
    rw [if_neg (by simpa using hin), hfm, hf, if_neg (by decide)]
   rw [hE]
   refine (CK h4 hW).mono ?_
   rintro e w8 ⟨rfl, ⟨r8, sl8, its8, h8, ho8, t8⟩, hl8⟩
   have hWl : ((bK limit D (eE its)).1.1).l.length ≤ 1000001 := by
    have := Gq limit D (eE its)
    omega
   generalize bK limit D (eE its) = R at *
   have z8 := t8.mod.size
   have t08 : ao (cx t st d r sl its) (cx t st d r8 sl8 its8) w w8 := (ao.ar x04).trans t8
   refine ⟨_, rfl, t8.mod.same _ (by omega) bx, Br.mk (fun hb => ?_) (fun hb => ?_)⟩
   ·have hne : R.2 ≠ 0 := by simpa using hb
    rw [if_pos hne]
    exact ⟨rfl, r8, sl8, its8, h8, ho8, t08⟩
   ·have he : R.2 = 0 := by simpa using hb
    rw [if_neg (by rw [he]; decide)]
    have hroom := hl8 he
    rw [← ho8, List.length_map] at hroom
    refine ⟨_, h8.rt.at 0 rfl, (y7 h8.so (by omega) _).mono ?_⟩
    rintro e w11 ⟨s12, rfl, hs12, hby, hbl, hsc, -, x11⟩
    have z11 := x11.size
    have bx8 : ¬ cx t st d r8 sl8 its8 w.heap.size := fun hf => by
     rcases t8.sub _ hf with q | q
     ·exact bx q
     ·have := x04.size; omega
    refine ⟨s12, _, _, rfl, x11.k, ?_⟩
    refine (CM p s12 (oU R.1.1 (l8 p)).1 w11 hs12 hby hsc (by omega)).mono ?_
    rintro e w15 ⟨hres, x15⟩
    have z15 := x15.size
    have htw := h.rt.lt
    have fin : ∀ {w' v : World} {C : List Int}, Ext w8 v → (∃ s' y, TO w' t st d r8 s' R.1.1 aa limit (its8 ++ [y]) ∧ y.ob = (p, C, false, 0) ∧ (∀ i, cx t st d r8 s' (its8 ++ [y]) i → cx t st d r8 sl8 its8 i ∨ w8.heap.size ≤ i) ∧ Mod (cx t st d r8 sl8 its8) v w') → C = gZ aa p (oU R.1.1 (l8 p)).1 →
      Ending.returned (0:Int) = .returned (0:Int) ∧ wH w t st d r sl aa limit its (R.1.1, R.1.2 ++ [(p, gZ aa p (oU R.1.1 (l8 p)).1, false, 0)]) w' := by
     rintro w' v C xv ⟨s', y, hT, hob, hsub, hm⟩ rfl
     refine ⟨rfl, r8, s', _, hT, ?_, t08.trans ⟨(Mod.ar xv).trans hm, hsub⟩⟩
     unfold eE
     rw [List.map_append]
     change eE its8 ++ [y.ob] = _
     rw [ho8, hob]
    rcases hres with ⟨hz, g, sg, rfl, hk, hg, -, hgb⟩ | ⟨hz, rfl⟩
    ·refine ⟨_, _, rfl, x15.k, Br.mk (fun q => by simp at q) (fun _ => ?_)⟩
     have x815 := x11.tr x15
     have h15 := h8.ext x815
     have hgn : g ∉ its8.map (·.g) := fun hm => by
      obtain ⟨z, hz, e⟩ := List.mem_map.1 hm
      have := (h8.it z hz).k.row.lt; omega
     refine bL (w := w) h15 (by omega) bx8 htw hroom hk hgn w8 (by omega) (by omega) (fun b hb => by have := hgb b hb; omega) fun w' hw' => fin x815 hw' ?_
     unfold gZ; rw [if_pos hz]
    ·refine ⟨_, _, rfl, x15.k, Br.mk (fun _ => ?_) (fun q => by simp at q; exact absurd q hz)⟩
     have x815 := x11.tr x15.drew
     have h15 := h8.ext x815
     refine ⟨aa, h15.rt.at 1 rfl, (AW aa p (BW hin) w15.drew).mono ?_⟩
     rintro e w19 ⟨g, sg, rfl, hk, x19, hg, hsb⟩
     have z19 := x19.size
     have zd : w15.drew.heap.size = w15.heap.size := rfl
     have h19 := h15.ext x19
     have hgn : g ∉ its8.map (·.g) := fun hm => by
      obtain ⟨z, hz, e⟩ := List.mem_map.1 hm
      have := (h15.it z hz).k.row.lt; omega
     refine ⟨_, rfl, x19.k, bL (w := w) h19 (by omega) bx8 htw hroom hk hgn w8 (by omega) (by omega) (fun b hb => by have := hsb b hb; omega) fun w' hw' => fin (x815.tr x19) hw' ?_⟩
     unfold gZ; rw [if_neg hz]
  ·rw [hf]
   refine Br.mk (fun _ => ?_) (fun h => by simp at h)
   have hE : wJ aa limit D (eE its) p = ((D, (eE its).eraseIdx k ++ [y.ob]), 0) := by
    unfold wJ
    rw [if_neg (by simpa using hin), hfm, hf, if_pos (by omega), Int.toNat_natCast, List.getElem?_map, hk]; rfl
   rw [hE]
   refine (uJ h4 hk).mono ?_
   rintro e w6 ⟨rfl, sl6, h6, t6⟩
   have z6 := t6.mod.size
   refine ⟨_, rfl, t6.mod.same _ (by omega) bx, rfl, r, sl6, _, h6, ?_, (ao.ar x04).trans t6⟩
   unfold eE
   rw [List.map_append]
   change eE _ ++ _ = _
   rw [rh]; rfl
 ·rw [decide_eq_false hin]
  refine Br.mk (fun _ => ?_) (fun h => by cases h)
  have hE : wJ aa limit D (eE its) p = ((D, eE its), 5) := by unfold wJ; rw [if_pos hin]
  rw [hE]
  exact ⟨rfl, r, sl, its, h.ext x01, rfl, ao.ar x01⟩
end Go.Proofs.YtalpkjfpmdpbiaaGreatDoor
namespace Go.Proofs.YtalpkjfpmdpbiaaGreatDoor
open Go Go.Vc Go.RowKit Go.Proofs Go.bQ Go.aB Go.Code
theorem yes {b:Bool} {A B:Prop} (hb:b=true) (h:A):Br b A B:=by subst hb;exact h
theorem uS {b:Bool} {A B:Prop} (hb:b=false) (h:B):Br b A B:=by subst hb;exact h
theorem CW {w : World} {t st d : Nat} {r : Dm} {sl : Sl} {D : Dk} {aa limit : Int} {its : List It} (h : TO w t st d r sl D aa limit its) :
  Calls Tryz.prog cP #[.pointer (some ⟨t, 0, none⟩)] w fun e w' => ∃ s' : Sl, e = .returned s' ∧ af w.heap.size DR 2 w' s' ((eE its).map fun e => [.int .i64 e.1.1, .int .i64 e.1.2]) ∧ Ext w w' := by
 apply fP.vc
 have hn := h.n
 have hlen := h.len
 have hlim := h.Ei
 refine ⟨sl, h.rt.at 3 rfl, fun n i so wr => ∃ k : Nat, i = k ∧ k + n = its.length ∧ Ext w wr ∧ af w.heap.size DR 2 wr so (((eE its).take k).map fun e => [.int .i64 e.1.1, .int .i64 e.1.2]), ⟨its.length, 0, rfl, by omega, Ext.aq _, af.nil⟩, ?_⟩
 rintro n us i so wr ⟨k, rfl, hk, xr, ho⟩
 have hwk : IntKind.wrap .i64 ((k : Int) + 1) = ((k + 1 : Nat) : Int) := by rw [wI]; omega
 have hol : (eE its).length = its.length := by rw [List.length_map]
 refine Br.mk (fun hc => ?_) (fun hc => ?_)
 ·replace hc := eN hc
  obtain ⟨y, hy⟩ := aN (l := its) (i := k) (by omega)
  have hr := h.ext xr
  obtain ⟨a1, a2⟩ := hr.at hy
  have hyr := hr.it y (List.mem_of_getElem? hy)
  refine ⟨a1, _, a2, vD (vD ⟨_, hyr.r.at 0 rfl, vD (vD ⟨_, _, hyr.k.pos, (o4 y.p wr).mono ?_⟩)⟩)⟩
  rintro e w12 ⟨rfl, x12⟩
  refine ⟨_, _, rfl, fun w15 e15 => ?_⟩
  have x15 : Ext w12 w15 := (Ext.aq _).ab e15
  have z12 := x12.size
  have zr := xr.size
  have z15 := dR e15
  have ho15 := (ho.ext x12).ext x15
  have hso := (ho.rd (show 0 < 2 by decide)).n
  rw [List.length_map, List.length_take] at hso
  obtain ⟨hp, hres⟩ := ho15.append (bytes := 16) (news := [.int .i64 y.p.1, .int .i64 y.p.2]) (by omega) rfl (kV _ _ _ _) (by omega) (by omega)
  refine ⟨hp, fun s16 w17 hr17 => ?_⟩
  obtain ⟨ho17, hn17, xb, hkp, -⟩ := hres s16 w17 hr17
  refine ⟨hkp _ (fun e => by have := (ho.own.lt e).2; omega) (by omega), n - 1, by omega, k + 1, hwk, by omega, (xr.tr (x12.tr x15)).trans xb, ?_⟩
  have : (eE its).take (k + 1) = (eE its).take k ++ [y.ob] := by rw [List.take_add_one, List.getElem?_map, hy]; rfl
  rw [this, List.map_append]
  exact ho17
 ·replace hc := eO hc
  rw [List.take_of_length_le (by omega)] at ho
  exact ⟨so, rfl, ho, xr⟩
theorem jg {w:World} {p:Option Addr} {v:Value} (h:ld w p=some v):aj w p 0 [v]:=by
 show ld w (ae p 0)=_
 rw [bf];exact h
theorem TO.Jp {w w' : World} {t st d : Nat} {r : Dm} {sl : Sl} {D : Dk} {aa limit : Int} {its : List It} (h : TO w t st d r sl D aa limit its) {i : Nat} {y y' : It} (hi : its[i]? = some y) (hx : y'.x = y.x) (hg : y'.g = y.g) (hm : Mod (fun j => j = y.x ∨ j = y.g) w w') (hy : ox w' y') : TO w' t st d r sl D aa limit (its.set i y') := by
 have hil := (List.getElem?_eq_some_iff.1 hi).1
 have hr := (h.it y (List.mem_of_getElem? hi)).r
 have hrg := (h.it y (List.mem_of_getElem? hi)).k.row
 have off : ∀ {j : Nat} {cs : List Value} {τ : TypeId}, Row w j cs τ → τ ≠ aU → τ ≠ pN → ¬ (j = y.x ∨ j = y.g) := fun hr' ht hc e => by
  rcases e with e | e
  ·exact hr'.ne hr ht e
  ·exact hr'.ne hrg hc e
 have hpx : tk (its.set i y') = tk its := by
  unfold tk
  rw [List.map_set, hx]
  apply List.ext_getElem?
  intro j
  rw [List.getElem?_set]
  split
  ·rename_i e; subst e
   rw [if_pos (by rw [List.length_map]; exact hil), List.getElem?_map, hi]; rfl
  ·rfl
 have hmx : (its.set i y').map (·.x) = its.map (·.x) := by
  rw [List.map_set, hx]
  apply List.ext_getElem?
  intro j
  rw [List.getElem?_set]
  split
  ·rename_i e; subst e
   rw [if_pos (by rw [List.length_map]; exact hil), List.getElem?_map, hi]; rfl
  ·rfl
 have hmg : (its.set i y').map (·.g) = its.map (·.g) := by
  rw [List.map_set, hg]
  apply List.ext_getElem?
  intro j
  rw [List.getElem?_set]
  split
  ·rename_i e; subst e
   rw [if_pos (by rw [List.length_map]; exact hil), List.getElem?_map, hi]; rfl
  ·rfl
 refine ⟨hm.row h.rt (off h.rt (by decide) (by decide)), h.so.bC hm (fun hr' hτ => by rcases hτ with rfl | rfl | rfl | rfl <;> exact off hr' (by decide) (by decide)) (fun hmp e => by
   rcases e with e | e
   ·exact hr.dY hmp e.symm
   ·exact hrg.dY hmp e.symm), ?_, fun z hz => ?_, by rw [hmx]; exact h.dx, by rw [hmg]; exact h.dg, h.Ei, by rw [List.length_set]; exact h.len⟩
 ·rw [hpx]
  exact hm.cr h.ol fun b hb => by
   obtain ⟨cs', hr'⟩ := au h.ol (by decide) hb
   exact off hr' (by decide) (by decide)
 ·obtain ⟨j, hj⟩ := List.getElem?_of_mem hz
  rw [List.getElem?_set] at hj
  split at hj
  ·cases hj; exact hy
  ·rename_i hne
   have hzj := h.it z (List.mem_of_getElem? hj)
   have hjl := (List.getElem?_eq_some_iff.1 hj).1
   refine hzj.bC hm ?_ ?_ (fun b hb => ?_)
   ·rintro (e | e)
    ·have h1 : (its.map (·.x))[i]? = some y.x := by rw [List.getElem?_map, hi]; rfl
     have h2 : (its.map (·.x))[j]? = some z.x := by rw [List.getElem?_map, hj]; rfl
     rw [e, ← h1] at h2
     exact hne ((List.getElem?_inj (by rw [List.length_map]; exact hjl) h.dx).1 h2).symm
    ·exact hzj.r.ne hrg (by decide) e
   ·rintro (e | e)
    ·exact hzj.k.row.ne hr (by decide) e
    ·have h1 : (its.map (·.g))[i]? = some y.g := by rw [List.getElem?_map, hi]; rfl
     have h2 : (its.map (·.g))[j]? = some z.g := by rw [List.getElem?_map, hj]; rfl
     rw [e, ← h1] at h2
     exact hne ((List.getElem?_inj (by rw [List.length_map]; exact hjl) h.dg).1 h2).symm
   ·obtain ⟨cs', hr'⟩ := au hzj.k.own (by decide) hb
    exact off hr' (by decide) (by decide)
theorem CX {t st d : Nat} {r : Dm} {sl : Sl} {its : List It} {i n : Nat} {y y' : It} (hi : its[i]? = some y) (hx : y'.x = y.x) (hg : y'.g = y.g) (hs : ∀ b, y'.s.ax = some b → y.s.ax = some b ∨ n ≤ b) : ∀ j, cx t st d r sl (its.set i y') j → cx t st d r sl its j ∨ n ≤ j := by
 rintro j (e | e | e | e | e | ⟨z, hz, e⟩)
 ·exact .inl (.inl e)
 ·exact .inl (.inr (.inl e))
 ·exact .inl (.inr (.inr (.inl e)))
 ·exact .inl (.inr (.inr (.inr (.inl e))))
 ·exact .inl (.inr (.inr (.inr (.inr (.inl e)))))
 ·have hy : ∀ i, (i = y.x ∨ i = y.g ∨ y.s.ax = some i) → cx t st d r sl its i := fun i e => .inr (.inr (.inr (.inr (.inr ⟨y, List.mem_of_getElem? hi, e⟩))))
  rcases List.mem_or_eq_of_mem_set hz with hz | hz
  ·exact .inl (.inr (.inr (.inr (.inr (.inr ⟨z, hz, e⟩)))))
  ·subst hz
   rw [hx, hg] at e
   rcases e with e | e | e
   ·exact .inl (hy j (.inl e))
   ·exact .inl (hy j (.inr (.inl e)))
   ·rcases hs j e with e | e
    ·exact .inl (hy j (.inr (.inr e)))
    ·exact .inr e
instance (c:Ce):Decidable (fx c):=by unfold fx;exact inferInstance
def cD (l : List En) (c : Ce) : Int :=
 if aR (fun e : En => e.1 == pos c) l < 0 then -1 else if c.2.1 < 0 then 1 else ((l[(aR (fun e : En => e.1 == pos c) l).toNat]?).map fun e => vF e.1 e.2.1 c).getD 0
def cc (l : List En) (c : Ce) (b : Int) : List En × Int :=
 if aR (fun e : En => e.1 == pos c) l < 0 then (l, 11) else if ¬ fx c then (l, 5) else if aC b = false then (l, 1) else
  (l.eraseIdx (aR (fun e : En => e.1 == pos c) l).toNat ++ ((l[(aR (fun e : En => e.1 == pos c) l).toNat]?).map fun e => (e.1, (fW e.1 e.2.1 c b).1, e.2.2.1 || (vF e.1 e.2.1 c != b), e.2.2.2)).toList, 0)
theorem EN {w : World} {t st d : Nat} {r : Dm} {sl : Sl} {D : Dk} {aa limit : Int} {its : List It} (h : TO w t st d r sl D aa limit its) (c : Ce) (hc : pW c) :
  Calls Tryz.prog bc #[.pointer (some ⟨t, 0, none⟩), mq c] w fun e w' => e = .returned (.int .i64 (cD (eE its) c)) ∧ Ext w w' := by
 apply jc.vc
 intro w0 e0
 have z0 := dR e0
 have x0 : Ext w w0 := (Ext.aq w).ab e0
 clear e0
 refine (jA c hc w0).mono ?_
 rintro e w1 ⟨rfl, x1⟩
 have x01 := x0.tr x1
 have z1 := x1.size
 refine ⟨_, _, rfl, x1.k, (find_spec (h.ext x01) (pos c)).mono ?_⟩
 rintro e w4 ⟨rfl, x4⟩
 have z4 := x4.size
 have x04 := x01.tr x4
 have hfm : aR (fun e : En => e.1 == pos c) (eE its) = aR (fun i : It => i.p == pos c) its := iS It.ob _ its
 refine ⟨_, rfl, x4.k, ?_⟩
 rcases cO (fun i : It => i.p == pos c) its with ⟨hf, -⟩ | ⟨k, y, hk, hyp, hf, -⟩
 ·rw [hf]
  refine Br.mk (fun _ => ⟨?_, x04⟩) (fun h => by simp at h)
  unfold cD
  rw [hfm, hf, if_pos (by decide)]
 ·rw [hf]
  refine Br.mk (fun h => by simp at h; omega) (fun _ => Br.mk (fun hb => ?_) (fun hb => ?_))
  ·replace hb := eN hb
   refine ⟨?_, x04⟩
   unfold cD
   rw [hfm, hf, if_neg (by omega), if_pos hb]
  ·replace hb := eO hb
   have hd := (h.ext x04).ext (Ext.dr w4)
   obtain ⟨a1, a2⟩ := hd.at hk
   have hyr := hd.it y (List.mem_of_getElem? hk)
   refine ⟨sl, hd.rt.at 3 rfl, a1, _, a2, vD (vD ⟨_, hyr.r.at 0 rfl, (tE hyr.k c hc).mono ?_⟩)⟩
   rintro e w9 ⟨rfl, x9⟩
   have h9 := hd.ext x9
   obtain ⟨-, b2⟩ := h9.at hk
   refine ⟨_, _, rfl, x9.heap (show w.heap.size < w4.heap.size by omega), jg b2, jg (h9.rt.at 3 rfl), ?_, x04.tr ((Ext.dr _).tr x9)⟩
   unfold cD
   rw [hfm, hf, if_neg (by omega), if_neg hb, Int.toNat_natCast, List.getElem?_map, hk]; rfl
theorem Gw {p:Po} {C:List Int} {c:Ce} {b:Int} (hp:p=pos c) (hy:fx c) (hb:aC b=true):(fW p C c b).2=0:=by
 unfold fW
 rw [if_neg (by rw [(fp p c).2 ⟨hy,hp.symm⟩];decide),if_neg (by rw [hb];decide)]
theorem CY {w : World} {t st d : Nat} {r : Dm} {sl : Sl} {D : Dk} {aa limit : Int} {its : List It} (h : TO w t st d r sl D aa limit its) (c : Ce) (hc : pW c) (b : Int) :
  Calls Tryz.prog dn #[.pointer (some ⟨t, 0, none⟩), mq c, .int .i64 b] w fun e w' => e = .returned (.int .i64 (cc (eE its) c b).2) ∧ wH w t st d r sl aa limit its (D, (cc (eE its) c b).1) w' := by
 apply gY.vc
 intro w0 e0
 have z0 := dR e0
 have x0 : Ext w w0 := (Ext.aq w).ab e0
 clear e0
 refine (jA c hc w0).mono ?_
 rintro e w1 ⟨rfl, x1⟩
 have x01 := x0.tr x1
 have z1 := x1.size
 refine ⟨_, _, rfl, x1.k, (find_spec (h.ext x01) (pos c)).mono ?_⟩
 rintro e w4 ⟨rfl, x4⟩
 have z4 := x4.size
 have x04 := x01.tr x4
 have hfm : aR (fun e : En => e.1 == pos c) (eE its) = aR (fun i : It => i.p == pos c) its := iS It.ob _ its
 refine ⟨_, rfl, x4.k, (sM c w4).mono ?_⟩
 rintro e w6 ⟨⟨ix, iy, rfl, hiy⟩, x6⟩
 have z6 := x6.size
 have x06 := x04.tr x6
 have h6 := h.ext x06
 refine ⟨_, _, rfl, x6.k, ?_⟩
 have same : ∀ {w'}, Ext w w' → wH w t st d r sl aa limit its (D, eE its) w' := fun x => ⟨r, sl, its, h.ext x, rfl, ao.ar x⟩
 rcases cO (fun i : It => i.p == pos c) its with ⟨hf, -⟩ | ⟨k, y, hk, hyp, hf, -⟩
 ·rw [hf]
  refine Br.mk (fun _ => ?_) (fun h => by simp at h)
  have e : cc (eE its) c b = (eE its, 11) := by unfold cc; rw [hfm, hf, if_pos (by decide)]
  rw [e]
  exact ⟨rfl, same x06⟩
 ·rw [hf]
  have hyc : y.p = pos c := by simpa using hyp
  refine Br.mk (fun h => by simp at h; omega) (fun _ => ?_)
  rcases hiy with ⟨rfl, hY, -⟩ | ⟨rfl, hY, -⟩
  ·refine uS rfl ((dG b w6).mono ?_)
   rintro e w9 ⟨rfl, x9⟩
   have z9 := x9.size
   have x09 := x06.tr x9
   refine ⟨_, rfl, x9.k, Br.mk (fun hb => ?_) (fun hb => ?_)⟩
   ·have hb' : aC b = false := by simpa using hb
    have e : cc (eE its) c b = (eE its, 1) := by unfold cc; rw [hfm, hf, if_neg (by omega), if_neg (by simpa using hY), if_pos hb']
    rw [e]
    exact ⟨rfl, same x09⟩
   ·have hb' : aC b = true := by simpa using hb
    have he : cc (eE its) c b = ((eE its).eraseIdx k ++ [(y.p, (fW y.p y.C c b).1, y.jD || (vF y.p y.C c != b), y.pins)], 0) := by
     unfold cc
     rw [hfm, hf, if_neg (by omega), if_neg (by simpa using hY), if_neg (by rw [hb']; decide), Int.toNat_natCast, List.getElem?_map, hk]; rfl
    have h0 := Gw (C := y.C) hyc hY hb'
    rw [he]
    have h9 := h.ext x09
    refine (uJ h9 hk).mono ?_
    rintro e w11 ⟨rfl, sl11, h11, t11⟩
    have t011 := (ao.ar x09).trans t11
    have z11 := t11.mod.size
    have bx : ∀ {F : Nat → Prop}, (∀ i, F i → cx t st d r sl its i) → ¬ F w.heap.size := fun hF hf => by have := h.lt (hF _ hf); omega
    have hi' : (its.eraseIdx k ++ [y])[(its.eraseIdx k).length]? = some y := by rw [List.getElem?_append_right (Nat.le_refl _), Nat.sub_self]; rfl
    have hd := h11.ext (Ext.dr w11)
    have hyd := hd.it y (List.mem_of_getElem? hi')
    have hxw : y.x < w.heap.size := (h.it y (List.mem_of_getElem? hk)).r.lt
    have hgw : y.g < w.heap.size := (h.it y (List.mem_of_getElem? hk)).k.row.lt
    refine ⟨_, rfl, t11.mod.same _ (by omega) (bx fun i hi => hi), vD (vD ⟨_, hyd.r.at 0 rfl, (tE hyd.k c hc).mono ?_⟩)⟩
    rintro e w14 ⟨rfl, x14⟩
    have x1114 : Ext w11 w14 := (Ext.dr _).tr x14
    have z14 := x1114.size
    have h14 := h11.ext x1114
    have hy14 := h14.it y (List.mem_of_getElem? hi')
    have pt : ∀ v : Bool, _ := fun v => hy14.r.iR (j := 1) (v := .bool v) (by simp) rfl
    refine ⟨_, _, rfl, x14.heap (show w.heap.size < w11.heap.size by omega), vD (vD ⟨_, hy14.r.at 1 rfl, Br.mk (fun hb => vD (vD ⟨⟨rfl, (pt true).1⟩, fun e => ?_, fun w18 e18 => vD (vD ?_)⟩)) (fun hb => vD (vD ⟨⟨rfl, (pt true).1⟩, fun e => ?_, fun w18 e18 => vD (vD ?_)⟩))⟩)⟩
    case refine_1 | refine_3 =>
     rw [br] at e
     have : y.x = w.heap.size := by simpa [bD] using e
     omega
    all_goals
     obtain ⟨q1, q2⟩ := (pt _).2 w18 e18
     have z18 := q2.size
     have hk18 : vQ w18 y.g y.s y.p y.C := hy14.k.bC q2 (fun e => hy14.k.row.ne hy14.r (by decide) e) (fun b hb => by
      obtain ⟨cs', hr'⟩ := au hy14.k.own (by decide) hb
      exact hr'.ne hy14.r (by decide))
     refine ⟨_, (q1.ext (Ext.dr _)).at 0 rfl, (EO (hk18.ext (Ext.dr w18)) c hc b).mono ?_⟩
     rintro e w20 ⟨rfl, s', hk20, m20, b20⟩
     have q1d := q1.ext (Ext.dr w18)
     refine ⟨_, rfl, m20.same _ (show w.heap.size < w18.heap.size by omega) (fun e => by omega), congrArg _ (congrArg _ h0), ?_⟩
     have hm : Mod (fun j => j = y.x ∨ j = y.g) w14 w20 := ((q2.mono fun i _ hi => .inl hi).trans (Mod.ar (Ext.dr _))).trans (m20.mono fun i _ hi => .inr hi)
     have hy20 : ox w20 ⟨y.x, y.g, s', y.p, (fW y.p y.C c b).1, y.jD || (vF y.p y.C c != b), y.pins⟩ := by
      refine ⟨?_, hk20⟩
      have := m20.row q1d (fun e => q1d.ne (hk18.ext (Ext.dr w18)).row (by decide) e)
      rw [hb]
      exact this
     have h20 := h14.Jp hi' (y' := ⟨y.x, y.g, s', y.p, (fW y.p y.C c b).1, y.jD || (vF y.p y.C c != b), y.pins⟩) rfl rfl hm hy20
     refine ⟨r, sl11, _, h20, ?_, t011.trans ⟨(Mod.ar x1114).trans (hm.mono fun i _ hi => ?_), fun j hj => ?_⟩⟩
     ·unfold eE
      rw [List.set_append_right _ _ (Nat.le_refl _), Nat.sub_self, List.map_append]
      have := rh its k
      unfold eE at this
      rw [this]; rfl
     ·exact .inr (.inr (.inr (.inr (.inr ⟨y, List.mem_of_getElem? hi', hi.elim .inl fun e => .inr (.inl e)⟩))))
     ·exact CX (y' := ⟨y.x, y.g, s', y.p, (fW y.p y.C c b).1, y.jD || (vF y.p y.C c != b), y.pins⟩) hi' rfl rfl (fun b hb => (b20 b hb).imp id fun e => Nat.le_trans (Nat.le_trans z14 z18) e) j hj
  ·have e : cc (eE its) c b = (eE its, 5) := by unfold cc; rw [hfm, hf, if_neg (by omega), if_pos hY]
   refine yes rfl ?_
   rw [e]
   exact ⟨rfl, same x06⟩
end Go.Proofs.YtalpkjfpmdpbiaaGreatDoor
namespace Go.Proofs.YtalpkjfpmdpbiaaGreatDoor
open Go Go.Vc Go.RowKit Go.Proofs Go.bQ Go.aB Go.Code
def wF (l:List En):Prop:=∀e ∈ l,e.2.1.length=8192/\∀b ∈ e.2.1,aC b=true
theorem DJ {c d:Ce} (hc:fx c) (hd:fx d) (hp:pos c=pos d) (hi:(idx c).toNat=(idx d).toNat):c=d:=by
 have h1:=pM hc
 have h2:=pM hd
 have hi':idx c=idx d:=by omega
 obtain ⟨a,b,e⟩:=c
 obtain ⟨a',b',e'⟩:=d
 unfold idx at hi'
 unfold pos at hp
 simp only [Prod.mk.injEq]at hp ⊢
 simp only at hi'
 omega
def sW (l:List En) (p:Po):Prop:=∃e ∈ l,e.1=p
def qC (l:List En):Prop:=(l.map (·.1)).Nodup
theorem yx {l : List En} {c : Ce} (h : ¬ sW l (pos c)) : cD l c = -1 := by
 unfold cD
 rw [gD fun y hy => ?_, if_pos (by decide)]
 cases hb : (y.1 == pos c) with
 | false => rfl
 | true => exact absurd ⟨y, hy, by simpa using hb⟩ h
theorem vB {l : List En} (hn : qC l) {e : En} (he : e ∈ l) : ∃ k : Nat, l[k]? = some e ∧ aR (fun x : En => x.1 == e.1) l = k := by
 obtain ⟨k, hk⟩ := List.getElem?_of_mem he
 refine ⟨k, hk, oe hk (by simp) fun j hj y hy => ?_⟩
 cases hb : (y.1 == e.1) with
 | false => rfl
 | true =>
   have h1 : (l.map (·.1))[k]? = some e.1 := by rw [List.getElem?_map, hk]; rfl
   have h2 : (l.map (·.1))[j]? = some e.1 := by rw [List.getElem?_map, hy]; simpa using hb
   have hkl := (List.getElem?_eq_some_iff.1 h1).1
   have := (List.getElem?_inj (show j < _ by omega) hn).1 (h2.trans h1.symm)
   omega
theorem lG {l:List En} (hn:qC l) {e:En} (he:e ∈ l) {c:Ce} (hp:e.1=pos c):cD l c=if c.2.1<0 then 1 else vF e.1 e.2.1 c:=by
 obtain ⟨k,hk,hf⟩:=vB hn he
 unfold cD
 rw [<-hp,hf,if_neg (by omega),Int.toNat_natCast,hk];rfl
theorem FM {p : Po} {C : List Int} (hl : C.length = 8192) {c : Ce} (hy : fx c) (hp : p = pos c) {b : Int} (hb : aC b = true) (c' : Ce) (hp' : p = pos c') : vF p (fW p C c b).1 c' = if c' = c then b else vF p C c' := by
 have e : (fW p C c b).1 = C.set (idx c).toNat b := by
  unfold fW
  rw [if_neg (by rw [(fp p c).2 ⟨hy, hp.symm⟩]; decide), if_neg (by rw [hb]; decide)]
 rw [e]
 have hi := pM hy
 by_cases hcc : c' = c
 ·subst hcc
  rw [if_pos rfl]
  have hk : vG p c' = true := (fp p c').2 ⟨hy, hp'.symm⟩
  unfold vF
  rw [hk, if_pos rfl]
  unfold FT
  rw [if_neg (by omega), List.getD_eq_getElem?_getD, List.getElem?_set, if_pos rfl, if_pos (by omega)]; rfl
 ·rw [if_neg hcc]
  by_cases hy' : fx c'
  ·have hk : vG p c' = true := (fp p c').2 ⟨hy', hp'.symm⟩
   have hi' := pM hy'
   have h0 : ¬ idx c' < 0 := by omega
   unfold vF
   rw [hk, if_pos rfl, if_pos rfl]
   unfold FT
   rw [if_neg h0, if_neg h0, List.getD_eq_getElem?_getD, List.getD_eq_getElem?_getD, List.getElem?_set, if_neg (fun h => hcc (DJ hy hy' (hp.symm.trans hp') h).symm)]
  ·have hk : vG p c' = false := by
    cases h : vG p c' with
    | false => rfl
    | true => exact absurd ((fp p c').1 h).1 hy'
   unfold vF
   rw [hk, if_neg (by decide), if_neg (by decide)]
theorem EL {l : List En} (hn : qC l) (hg : wF l) {c : Ce} (hh : sW l (pos c)) (hy : fx c) {b : Int} (hb : aC b = true) :
  (cc l c b).2 = 0 ∧ qC (cc l c b).1 ∧ (∀ p, sW (cc l c b).1 p ↔ sW l p) ∧ ∀ c', cD (cc l c b).1 c' = if c' = c then b else cD l c' := by
 obtain ⟨e, he, hp⟩ := hh
 obtain ⟨k, hk, hf⟩ := vB hn he
 have hs : cc l c b = (l.eraseIdx k ++ [(e.1, (fW e.1 e.2.1 c b).1, e.2.2.1 || (vF e.1 e.2.1 c != b), e.2.2.2)], 0) := by
  unfold cc
  rw [← hp, hf, if_neg (by omega), if_neg (by simpa using hy), if_neg (by rw [hb]; decide), Int.toNat_natCast, hk]; rfl
 generalize hd : (e.2.2.1 || (vF e.1 e.2.1 c != b)) = d at hs
 obtain ⟨A, B, hl2, hkA⟩ : ∃ A B, l = A ++ e :: B ∧ k = A.length := by
  obtain ⟨hkl, he⟩ := List.getElem?_eq_some_iff.1 hk
  exact ⟨l.take k, l.drop (k + 1), by rw [← he, ← List.drop_eq_getElem_cons hkl, List.take_append_drop], by rw [List.length_take]; omega⟩
 subst hkA
 rw [hl2, List.eraseIdx_append_of_length_le (Nat.le_refl _), Nat.sub_self] at hs
 have dR : cc l c b = (A ++ B ++ [(e.1, (fW e.1 e.2.1 c b).1, d, e.2.2.2)], 0) := by rw [hl2]; exact hs
 rw [dR]
 have hmem : ∀ x, x ∈ l ↔ x ∈ A ++ B ∨ x = e := fun x => by
  rw [hl2]
  simp only [List.mem_append, List.mem_cons]
  constructor
  ·rintro (h | h | h)
   ·exact .inl (.inl h)
   ·exact .inr h
   ·exact .inl (.inr h)
  ·rintro ((h | h) | h)
   ·exact .inl h
   ·exact .inr (.inr h)
   ·exact .inr (.inl h)
 have hn' : qC (A ++ B ++ [(e.1, (fW e.1 e.2.1 c b).1, d, e.2.2.2)]) := by
  have hnl : qC (A ++ e :: B) := by rw [← hl2]; exact hn
  unfold qC at hnl ⊢
  rw [List.map_append, List.map_cons] at hnl
  obtain ⟨n1, n2, n3⟩ := List.nodup_append.1 hnl
  obtain ⟨n4, n5⟩ := List.nodup_cons.1 n2
  rw [List.map_append, List.map_append]
  refine List.nodup_append.2 ⟨List.nodup_append.2 ⟨n1, n5, fun a ha b hb => n3 a ha b (.tail _ hb)⟩, by simp, fun a ha b hb => ?_⟩
  simp only [List.map_cons, List.map_nil, List.mem_singleton] at hb
  subst hb
  rcases List.mem_append.1 ha with ha | ha
  ·exact n3 a ha _ (.head _)
  ·exact fun h => n4 (h ▸ ha)
 have hone : ∀ x ∈ A ++ B, x.1 ≠ e.1 := fun x hx h => by
  have hnl : qC (A ++ e :: B) := by rw [← hl2]; exact hn
  unfold qC at hnl
  rw [List.map_append, List.map_cons] at hnl
  obtain ⟨n1, n2, n3⟩ := List.nodup_append.1 hnl
  obtain ⟨n4, n5⟩ := List.nodup_cons.1 n2
  rcases List.mem_append.1 hx with hx | hx
  ·exact n3 _ (List.mem_map.2 ⟨x, hx, rfl⟩) _ (.head _) h
  ·exact n4 (by rw [← h]; exact List.mem_map.2 ⟨x, hx, rfl⟩)
 refine ⟨rfl, hn', fun p => ⟨?_, ?_⟩, fun c' => ?_⟩
 ·rintro ⟨x, hx, hxp⟩
  rcases List.mem_append.1 hx with hx | hx
  ·exact ⟨x, (hmem x).2 (.inl hx), hxp⟩
  ·simp only [List.mem_singleton] at hx
   subst hx
   exact ⟨e, he, hxp⟩
 ·rintro ⟨x, hx, hxp⟩
  rcases (hmem x).1 hx with hx | hx
  ·exact ⟨x, List.mem_append_left _ hx, hxp⟩
  ·subst hx
   exact ⟨_, List.mem_append_right _ (.head _), hxp⟩
 ·show cD (A ++ B ++ [(e.1, (fW e.1 e.2.1 c b).1, d, e.2.2.2)]) c' = _
  by_cases hpc : e.1 = pos c'
  ·rw [lG hn' (List.mem_append_right _ (.head _)) (e := (e.1, (fW e.1 e.2.1 c b).1, d, e.2.2.2)) hpc, lG hn he hpc]
   show (if c'.2.1 < 0 then 1 else vF e.1 (fW e.1 e.2.1 c b).1 c') = _
   rw [FM (hg e he).1 hy hp hb c' hpc]
   by_cases hcc : c' = c
   ·subst hcc
    rw [if_pos rfl, if_pos rfl, if_neg (by unfold fx at hy; omega)]
   ·rw [if_neg hcc, if_neg hcc]
  ·have hcc : c' ≠ c := fun h => hpc (by rw [h]; exact hp)
   rw [if_neg hcc]
   by_cases hx : ∃ x ∈ A ++ B, x.1 = pos c'
   ·obtain ⟨x, hx, hxp⟩ := hx
    rw [lG hn' (List.mem_append_left _ hx) hxp, lG hn ((hmem x).2 (.inl hx)) hxp]
   ·rw [yx, yx]
    ·rintro ⟨x, hx2, hxp⟩
     rcases (hmem x).1 hx2 with h | h
     ·exact hx ⟨x, h, hxp⟩
     ·subst h; exact hpc hxp
    ·rintro ⟨x, hx2, hxp⟩
     rcases List.mem_append.1 hx2 with h | h
     ·exact hx ⟨x, h, hxp⟩
     ·simp only [List.mem_singleton] at h
      subst h; exact hpc hxp
theorem GX {l : List En} {c : Ce} {b : Int} (h : ¬ (sW l (pos c) ∧ fx c ∧ aC b = true)) : (cc l c b).1 = l ∧ (cc l c b).2 ≠ 0 := by
 unfold cc
 rcases cO (fun e : En => e.1 == pos c) l with ⟨hf, -⟩ | ⟨k, e, hk, hek, hf, -⟩
 ·rw [hf, if_pos (by decide)]; exact ⟨rfl, by simp⟩
 ·rw [hf, if_neg (by omega)]
  have hh : sW l (pos c) := ⟨e, List.mem_of_getElem? hk, by simpa using hek⟩
  by_cases hy : fx c
  ·rw [if_neg (by simpa using hy)]
   have hb : aC b = false := by
    cases hb : aC b with
    | false => rfl
    | true => exact absurd ⟨hh, hy, hb⟩ h
   rw [if_pos hb]; exact ⟨rfl, by simp⟩
  ·rw [if_pos hy]; exact ⟨rfl, by simp⟩
def TF (F:Nat->Prop) (w:World) (t:Nat) (aa limit:Int) (T:Tb):Prop:=
 ∃st d r sl its,TO w t st d r sl T.1 aa limit its/\eE its=T.2/\F=cx t st d r sl its
theorem TF.lt {F:Nat->Prop} {w:World} {t:Nat} {aa limit:Int} {T:Tb} (h:TF F w t aa limit T) {i:Nat} (hi:F i):i<w.heap.size:=by
 obtain ⟨st,d,r,sl,its,h1,h2,rfl⟩:=h
 exact h1.lt hi
theorem TF.same {F:Nat->Prop} {w w':World} {t:Nat} {aa limit:Int} {T:Tb} (h:TF F w t aa limit T) (hs:∀i,F i->w'.heap[i]? =w.heap[i]?):TF F w' t aa limit T:=by
 obtain ⟨st,d,r,sl,its,h1,h2,rfl⟩:=h
 exact ⟨st,d,r,sl,its,h1.same hs,h2,rfl⟩
theorem TF.ext {F:Nat->Prop} {w w':World} {t:Nat} {aa limit:Int} {T:Tb} (h:TF F w t aa limit T) (x:Ext w w'):TF F w' t aa limit T:=h.same fun _ hi=>x.heap (h.lt hi)
theorem TF.bC {F G:Nat->Prop} {w w':World} {t:Nat} {aa limit:Int} {T:Tb} (h:TF F w t aa limit T) (hm:Mod G w w') (hn:∀i,F i->¬G i):TF F w' t aa limit T:=h.same fun i hi=>hm.same i (h.lt hi) (hn i hi)
abbrev tY (τ:TypeId):Prop:=τ≠rZ/\τ≠rY/\τ≠mP/\τ≠EA/\τ≠aU/\τ≠pN/\τ≠cg/\τ≠tW/\τ≠eQ
theorem TF.a9 {F:Nat->Prop} {w:World} {t:Nat} {aa limit:Int} {T:Tb} (h:TF F w t aa limit T) {j:Nat} {cs:List Value} {τ:TypeId} (hr:Row w j cs τ) (hτ:tY τ):¬F j:=by
 obtain ⟨st,d,r,sl,its,h1,h2,rfl⟩:=h
 exact h1.a9 hr hτ
theorem TF.len {F:Nat->Prop} {w:World} {t:Nat} {aa limit:Int} {T:Tb} (h:TF F w t aa limit T):(T.2.length:Int)<=limit/\1<=limit/\limit<=16:=by
 obtain ⟨st,d,r,sl,its,h1,e,rfl⟩:=h
 have:=h1.len;have:=h1.Ei
 rw [<-e]
 unfold eE
 rw [List.length_map]
 omega
theorem TF.ok {F:Nat->Prop} {w:World} {t:Nat} {aa limit:Int} {T:Tb} (h:TF F w t aa limit T):ke T.1:=by
 obtain ⟨st,d,r,sl,its,h1,e,rfl⟩:=h
 exact h1.so.dk.ok
theorem TF.JA {F:Nat->Prop} {w:World} {t:Nat} {aa limit:Int} {T:Tb} (h:TF F w t aa limit T):wF T.2:=by
 obtain ⟨st,d,r,sl,its,h1,e,rfl⟩:=h
 rw [<-e]
 intro e he
 obtain ⟨y,hy,rfl⟩:=List.mem_map.1 he
 exact ⟨(h1.it y hy).k.len,(h1.it y hy).k.may⟩
abbrev F9 (F:Nat->Prop) (w:World) (t:Nat) (aa limit:Int) (T:Tb) (w':World):Prop:=∃F',TF F' w' t aa limit T/\ao F F' w w'
theorem Hr {w w' : World} {t st d : Nat} {r : Dm} {sl : Sl} {aa limit : Int} {its : List It} {T : Tb} (hl : wH w t st d r sl aa limit its T w') : F9 (cx t st d r sl its) w t aa limit T w' := by
 obtain ⟨r', sl', its', h', ho, ht⟩ := hl
 exact ⟨_, ⟨st, d, r', sl', its', h', ho, rfl⟩, ht⟩
theorem Az (aa limit room : Int) (w : World) : Calls Tryz.prog jI #[aa, limit, room] w fun e w' => ∃ t F, e = .returned (.pointer (some ⟨t, 0, none⟩)) ∧ TF F w' t aa (min (max limit 1) 16) (eP room, []) ∧ Ext w w' ∧ ∀ i, F i → w.heap.size ≤ i := by
 refine (DF aa limit room w).mono ?_
 rintro e w' ⟨t, st, d, r, rfl, h, x, hf⟩
 exact ⟨t, _, rfl, ⟨st, d, r, _, [], h, rfl, rfl⟩, x, hf⟩
section
variable {F:Nat->Prop} {w:World} {t:Nat} {aa limit:Int} {T:Tb}
theorem zm (h : TF F w t aa limit T) (hW : T.1.l.length ≤ 1000000) (p : Po) :
  Calls Tryz.prog cQ #[.pointer (some ⟨t, 0, none⟩), pv p] w fun e w' => e = .returned (.int .i64 (wJ aa limit T.1 T.2 p).2) ∧ F9 F w t aa limit (wJ aa limit T.1 T.2 p).1 w' := by
 obtain ⟨st, d, r, sl, its, h1, e, rfl⟩ := h
 rw [← e]
 refine (CL h1 hW p).mono ?_
 rintro e w' ⟨rfl, hl⟩
 exact ⟨rfl, Hr hl⟩
theorem wh (h : TF F w t aa limit T) (c : Ce) (hc : pW c) :
  Calls Tryz.prog bc #[.pointer (some ⟨t, 0, none⟩), mq c] w fun e w' => e = .returned (.int .i64 (cD T.2 c)) ∧ Ext w w' := by
 obtain ⟨st, d, r, sl, its, h1, e, rfl⟩ := h
 rw [← e]
 exact EN h1 c hc
theorem AA (h : TF F w t aa limit T) (c : Ce) (hc : pW c) (b : Int) :
  Calls Tryz.prog dn #[.pointer (some ⟨t, 0, none⟩), mq c, b] w fun e w' => e = .returned (.int .i64 (cc T.2 c b).2) ∧ F9 F w t aa limit (T.1, (cc T.2 c b).1) w' := by
 obtain ⟨st, d, r, sl, its, h1, e, rfl⟩ := h
 rw [← e]
 refine (CY h1 c hc b).mono ?_
 rintro e w' ⟨rfl, hl⟩
 exact ⟨rfl, Hr hl⟩
end
end Go.Proofs.YtalpkjfpmdpbiaaGreatDoor
