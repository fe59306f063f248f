import Derived.Test.YtalpkjfpmdpbiaaGreatDoorYA
import Derived.Test.YtalpkjfpmdpbiaaGreatDoorWA
import Derived.Test.YtalpkjfpmdpbiaaGreatDoorQA
import Derived.Test.YtalpkjfpmdpbiaaGreatDoorWB
set_option linter.all false
namespace Go.Proofs.YtalpkjfpmdpbiaaGreatDoor
open Go Go.Vc Go.RowKit Go.Proofs Go.bQ Go.aB Go.Code Go.kW Go.mw
abbrev tp:TypeId:=98
structure Sm where
 aa:Int
 cap:Int
 T:Tb
 ch:List Go.mw.Cg
 q:QS
 aO:Int
 now:Int
 eT:List Ce
abbrev Gu (g o:Nat) (M:Sm) (occ:Value) (sd:Sl):List Value:=[.pointer (some ⟨g,0,none⟩),.pointer (some ⟨o,0,none⟩),.int .i64 M.aO,.int .i64 M.now,occ,.slice sd.a sd.n sd.c]
def SF (F : Nat → Prop) (w : World) (s o t : Nat) (M : Sm) (occ : Value) : Prop :=
 ∃ g m qs Fw sd, Row w s (Gu g o M occ sd) tp ∧ Q.oM w g m qs M.q ∧ sQ M.q ∧ WF Fw w o t M.aa M.cap M.T M.ch ∧ af 0 mK 3 w sd (M.eT.map dp) ∧ (∀ i, Q.da g m qs i → ¬ Fw i) ∧ F = fun i => i = s ∨ Q.da g m qs i ∨ Fw i ∨ sd.ax = some i
section
variable {F F':Nat->Prop} {w w':World} {s o t:Nat} {M M':Sm} {occ:Value}
theorem SF.lt (h:SF F w s o t M occ) {i:Nat} (hi:F i):i<w.heap.size:=by
 obtain ⟨g,m,qs,Fw,sd,h1,h2,-,h3,h4,-,rfl⟩:=h
 rcases hi with rfl|hi|hi|hi
 ·exact h1.lt
 ·exact h2.lt i hi
 ·exact h3.lt hi
 ·exact (h4.own.lt hi).2
theorem SF.same (h:SF F w s o t M occ) (hk:∀i,F i->w'.heap[i]? =w.heap[i]?):SF F w' s o t M occ:=by
 obtain ⟨g,m,qs,Fw,sd,h1,h2,hq,h3,h4,h5,rfl⟩:=h
 obtain ⟨kvs,m1,m2⟩:=h2.map
 exact ⟨g,m,qs,Fw,sd,h1.same (hk _ (.inl rfl)),⟨h2.row.same (hk _ (.inr (.inl (.inl rfl)))),af.bC h2.own fun b hb=>hk b (.inr (.inl (.inr (.inr hb)))),kvs,m1.same (hk _ (.inr (.inl (.inr (.inl rfl))))),m2⟩,hq,h3.same fun i hi=>hk i (.inr (.inr (.inl hi))),af.bC h4 fun b hb=>hk b (.inr (.inr (.inr hb))),h5,rfl⟩
theorem SF.ext (h:SF F w s o t M occ) (x:Ext w w'):SF F w' s o t M occ:=h.same fun _ hi=>x.heap (h.lt hi)
theorem SF.a9 (h : SF F w s o t M occ) {j : Nat} {cs : List Value} {τ : TypeId} (hr : Row w j cs τ) (h1 : tY τ) (h2 : τ ≠ qX) (h3 : τ ≠ gz) (h4 : τ ≠ tp) (h5 : τ ≠ Q.ea) (h6 : τ ≠ Q.aU) (hj : ∀ (g : Nat) (sd : Sl), Row w s (Gu g o M occ sd) tp → sd.ax ≠ some j) : ¬ F j := by
 obtain ⟨g, m, qs, Fw, sd, r1, r2, -, r3, r4, -, rfl⟩ := h
 rintro (hi | hi | hi | hi)
 ·exact hr.ne r1 h4 hi
 ·exact r2.a9 hr h5 h6 hi
 ·exact r3.a9 hr h1 h2 h3 hi
 ·exact hj g sd r1 hi
theorem SF.B0 (h : SF F w s o t M occ) {j : Nat} {cs : List Value} {τ : TypeId} (hr : Row w j cs τ) (h1 : tY τ) (h2 : τ ≠ qX) (h3 : τ ≠ gz) (h4 : τ ≠ tp) (h5 : τ ≠ Q.ea) (h6 : τ ≠ Q.aU) (h7 : τ ≠ mK) : ¬ F j := by
 obtain ⟨g, m, qs, Fw, sd, r1, r2, -, r3, r4, -, rfl⟩ := h
 rintro (hi | hi | hi | hi)
 ·exact hr.ne r1 h4 hi
 ·exact r2.a9 hr h5 h6 hi
 ·exact r3.a9 hr h1 h2 h3 hi
 ·obtain ⟨cs', hr'⟩ := au r4 (by decide) hi
  exact hr.ne hr' h7 rfl
abbrev jf (F:Nat->Prop) (w:World) (s o t:Nat) (M:Sm) (occ:Value) (w':World):Prop:=∃F',SF F' w' s o t M occ/\ao F F' w w'
theorem SF.world (h : SF F w s o t M occ) : ∃ Fw, WF Fw w o t M.aa M.cap M.T M.ch ∧ (∀ i, Fw i → F i) ∧ ∀ {w' : World} {T' : Tb} {ch' : List Go.mw.Cg}, F8 Fw w o t M.aa M.cap T' ch' w' → jf F w s o t { M with T := T', ch := ch' } occ w' := by
 obtain ⟨g, m, qs, Fw, sd, h1, h2, hq, h3, h4, h5, rfl⟩ := h
 refine ⟨Fw, h3, fun i hi => .inr (.inr (.inl hi)), ?_⟩
 rintro w' T' ch' ⟨F', h', ht⟩
 have n1 := h3.a9 h1 (by decide) (by decide) (by decide)
 have n2 : ∀ i, Q.da g m qs i → ¬ Fw i := h5
 have n4 : ∀ b, sd.ax = some b → ¬ Fw b := fun b hb => by
  obtain ⟨cs', hr'⟩ := au h4 (by decide) hb
  exact h3.a9 hr' (by decide) (by decide) (by decide)
 refine ⟨_, ⟨g, m, qs, F', sd, ht.mod.row h1 n1, h2.bC ht.mod n2, hq, h', ht.mod.cr h4 n4, ?_, rfl⟩, ht.mod.mono fun i _ hi => .inr (.inr (.inl hi)), fun i hi => ?_⟩
 ·exact fun i hi hf => ht.apart (G := Q.da g m qs) (fun i hi hg => h5 i hg hi) (fun i hi => h2.lt i hi) i hf hi
 ·rcases hi with hi | hi | hi | hi
  ·exact .inl (.inl hi)
  ·exact .inl (.inr (.inl hi))
  ·exact (ht.sub i hi).imp (fun h => .inr (.inr (.inl h))) id
  ·exact .inl (.inr (.inr (.inr hi)))
theorem SF.queue (h : SF F w s o t M occ) : ∃ g m qs, Q.oM w g m qs M.q ∧ sQ M.q ∧ (∃ sd, Row w s (Gu g o M occ sd) tp) ∧ (∀ i, Q.da g m qs i → F i) ∧ ∀ {w' : World} {qs' : Sl} {q' : QS}, Q.oM w' g m qs' q' → sQ q' → ao (Q.da g m qs) (Q.da g m qs') w w' → jf F w s o t { M with q := q' } occ w' := by
 obtain ⟨g, m, qs, Fw, sd, h1, h2, hq, h3, h4, h5, rfl⟩ := h
 refine ⟨g, m, qs, h2, hq, ⟨sd, h1⟩, fun i hi => .inr (.inl hi), ?_⟩
 rintro w' qs' q' h' hq' ht
 have n1 := h2.a9 h1 (by decide) (by decide)
 have n3 : ∀ i, Fw i → ¬ Q.da g m qs i := fun i hi hf => h5 i hf hi
 have n4 := h2.E1 h4 (by decide) (by decide) (by decide)
 refine ⟨_, ⟨g, m, qs', Fw, sd, ht.mod.row h1 n1, h', hq', h3.bC ht.mod n3, ht.mod.cr h4 n4, ?_, rfl⟩, ht.mod.mono fun i _ hi => .inr (.inl hi), fun i hi => ?_⟩
 ·exact fun i hi hf => ht.apart (G := Fw) (fun i hi hg => h5 i hi hg) (fun i hi => h3.lt hi) i hi hf
 ·rcases hi with hi | hi | hi | hi
  ·exact .inl (.inl hi)
  ·exact (ht.sub i hi).imp (fun h => .inr (.inl h)) id
  ·exact .inl (.inr (.inr (.inl hi)))
  ·exact .inl (.inr (.inr (.inr hi)))
theorem SF.row (h : SF F w s o t M occ) : ∃ g sd, Row w s (Gu g o M occ sd) tp ∧ af 0 mK 3 w sd (M.eT.map dp) ∧ F s ∧ (∀ b, sd.ax = some b → F b) ∧ ∀ {w' : World} {M' : Sm} {occ' : Value} {sd' : Sl}, M'.aa = M.aa → M'.cap = M.cap → M'.T = M.T → M'.ch = M.ch → M'.q = M.q → Mod (fun i => i = s ∨ sd.ax = some i) w w' → Row w' s (Gu g o M' occ' sd') tp → af 0 mK 3 w' sd' (M'.eT.map dp) → (∀ b, sd'.ax = some b → sd.ax = some b ∨ w.heap.size ≤ b) → jf F w s o t M' occ' w' := by
 obtain ⟨g, m, qs, Fw, sd, h1, h2, hq, h3, h4, h5, rfl⟩ := h
 refine ⟨g, sd, h1, h4, .inl rfl, fun b hb => .inr (.inr (.inr hb)), ?_⟩
 rintro w' M' occ' sd' e1 e2 e3 e4 e5 hm hr hd hsub
 have q1 := h2.a9 h1 (by decide) (by decide)
 have q2 := h2.E1 h4 (by decide) (by decide) (by decide)
 have r1 := h3.a9 h1 (by decide) (by decide) (by decide)
 have r2 : ∀ b, sd.ax = some b → ¬ Fw b := fun b hb => by
  obtain ⟨cs', hr'⟩ := au h4 (by decide) hb
  exact h3.a9 hr' (by decide) (by decide) (by decide)
 refine ⟨_, ⟨g, m, qs, Fw, sd', hr, by rw [e5]; exact h2.bC hm fun i hi hf => hf.elim (fun e => q1 (e ▸ hi)) (fun e => q2 _ e hi), by rw [e5]; exact hq, by rw [e1, e2, e3, e4]; exact h3.bC hm fun i hi hf => hf.elim (fun e => r1 (e ▸ hi)) (fun e => r2 _ e hi), hd, h5, rfl⟩, hm.mono fun i _ hi => hi.elim .inl (fun e => .inr (.inr (.inr e))), fun i hi => ?_⟩
 rcases hi with hi | hi | hi | hi
 ·exact .inl (.inl hi)
 ·exact .inl (.inr (.inl hi))
 ·exact .inl (.inr (.inr (.inl hi)))
 ·exact (hsub i hi).imp (fun h => .inr (.inr (.inr h))) id
end
end Go.Proofs.YtalpkjfpmdpbiaaGreatDoor
namespace Go.Proofs.YtalpkjfpmdpbiaaGreatDoor
open Go Go.Vc Go.RowKit Go.Proofs Go.bQ Go.aB Go.Code Go.kW Go.mw
def dU (M : Sm) (c : Ce) (b : Int) : Sm := { M with T := (M.T.1, (cc M.T.2 c b).1), ch := yN M.T.2 M.ch c b, q := if (cc M.T.2 c b).2 = 0 then cL (cD (cc M.T.2 c b).1) M.now M.q c else M.q }
def aM (M:Sm) (x:Go.mw.Cg):Sm:=if cD M.T.2 x.1=x.2 then M else dU M x.1 x.2
def kD (O : Ce → Bool) (M : Sm) (c : Ce) : Bool := decide (cD M.T.2 c = 3) && (!(de (cD M.T.2) c).isEmpty && O (aS c))
def fO (O : Ce → Bool) (M : Sm) (c : Ce) : Sm :=
 if q6 M.T.2 c = false then { M with q := (cX M.q c (M.now + 1)).1 }
 else if kD O M c = true then aM { M with eT := M.eT ++ [aS c] } (c, 0)
 else (de (cD M.T.2) c).foldl aM M
def dP (M : Sm) : Int := min (M.now + 1) 1099511627776
def aT (M : Sm) : Sm := { M with now := dP M, q := (mv M.q (dP M) M.aO).1 }
def ju (M : Sm) : List Ce := (mv M.q (dP M) M.aO).2
def ig (O:Ce->Bool) (M:Sm):Sm:=(ju M).foldl (fO O) (aT M)
def di:List Po:=[(0,0),(-1,0),(1,0),(0,-1),(0,1)]
def l5 (aa:Int) (k:Nat):List En:=(di.take k).map fun p=>(p,made aa p,false,0)
structure Hs (l:List En) (V:Ce->Int):Prop where
 n:qC l
 g:wF l
 h:∀p,sW l p ↔ p ∈ di
 v:∀c,cD l c=V c
def cK (V:Ce->Int) (c:Ce) (b:Int):Ce->Int:=fun c'=>if c'=c then b else V c'
theorem Hs.set {l : List En} {V : Ce → Int} (h : Hs l V) {c : Ce} (hp : pos c ∈ di) (hy : fx c) {b : Int} (hb : aC b = true) : (cc l c b).2 = 0 ∧ Hs (cc l c b).1 (cK V c b) := by
 obtain ⟨e1, e2, e3, e4⟩ := EL h.n h.g ((h.h _).2 hp) hy hb
 exact ⟨e1, e2, Et h.g c b, fun p => (e3 p).trans (h.h p), fun c' => by rw [e4, h.v]; rfl⟩
theorem AP {l:List En} {V:Ce->Int} (h:Hs l V) {c:Ce} (hc:pos c=(0,0)):q6 l c=true:=by
 unfold q6
 rw [hc,List.all_eq_true]
 intro q hq
 have hq:q ∈ di:=hq
 obtain ⟨e,he,rfl⟩:=(h.h q).2 hq
 exact decide_eq_true (List.mem_map.2 ⟨e,he,rfl⟩)
theorem uG (s x z : Int) : ground s x z ≤ 14 := by
 unfold ground
 have hu : 0 ≤ x % 8 ∧ x % 8 ≤ 8 := by omega
 have hv : 0 ≤ z % 8 ∧ z % 8 ≤ 8 := by omega
 generalize x % 8 = u at *
 generalize z % 8 = v at *
 have key : ∀ {c w : Int}, (0 ≤ c ∧ c ≤ 8) → 0 ≤ w → c * w ≤ 8 * w := fun h1 h2 => Int.mul_le_mul_of_nonneg_right h1.2 h2
 have w1 : 0 ≤ (8 - u) * (8 - v) := Int.mul_nonneg (by omega) (by omega)
 have w2 : 0 ≤ u * (8 - v) := Int.mul_nonneg (by omega) (by omega)
 have w3 : 0 ≤ (8 - u) * v := Int.mul_nonneg (by omega) (by omega)
 have w4 : 0 ≤ u * v := Int.mul_nonneg (by omega) (by omega)
 have a := key (bg s (x / 8) (z / 8)) w1
 have b := key (bg s (x / 8 + 1) (z / 8)) w2
 have c := key (bg s (x / 8) (z / 8 + 1)) w3
 have d := key (bg s (x / 8 + 1) (z / 8 + 1)) w4
 have e : (8 - u) * (8 - v) + u * (8 - v) + (8 - u) * v + u * v = 64 := by
  simp only [Int.sub_mul, Int.mul_sub]
  omega
 omega
theorem HU (aa:Int):(l5 aa 5).map (·.1)=di:=by
 unfold l5
 rw [List.map_map]
 rfl
theorem xW (aa:Int):qC (l5 aa 5):=by
 unfold qC
 rw [HU]
 decide
theorem Hc (aa : Int) {c : Ce} (hy : fx c) (hp : pos c ∈ di) : cD (l5 aa 5) c = mu c.2.1 (ground aa c.1 c.2.2) := by
 have hn := xW aa
 have he : (pos c, made aa (pos c), false, (0 : Int)) ∈ l5 aa 5 := List.mem_map.2 ⟨pos c, hp, rfl⟩
 rw [lG hn he rfl, if_neg (by unfold fx at hy; omega)]
 have hk : vG (pos c) c = true := (fp _ _).2 ⟨hy, rfl⟩
 have hi := pM hy
 unfold vF
 simp only
 rw [hk, if_pos rfl]
 have hg := uR aa (pos c) (k := (idx c).toNat) (by omega)
 rw [Int.toNat_of_nonneg hi.1, A7 hy, Gv (c := made aa (pos c)) (i := idx c) hi.1 (by rw [dy]; omega)] at hg
 exact Option.some.inj hg
theorem BU (aa:Int):Hs (l5 aa 5) (cD (l5 aa 5)):=by
 refine ⟨xW aa,fun e he=> ?_,fun p=>⟨?_,fun hp=>⟨_,List.mem_map.2 ⟨p,hp,rfl⟩,rfl⟩⟩,fun c=>rfl⟩
 ·obtain ⟨p,-,he2⟩:=List.mem_map.1 he
  have h1:=dy aa p
  have h2:=zj aa p
  generalize made aa p=m at*
  subst he2
  exact ⟨h1,h2⟩
 ·rintro ⟨e,he,rfl⟩
  obtain ⟨p,hp,rfl⟩:=List.mem_map.1 he
  exact hp
theorem EM (aa : Int) {c : Ce} (hy : 14 ≤ c.2.1 ∧ c.2.1 < 32) (hp : pos c ∈ di) : cD (l5 aa 5) c = 0 := by
 rw [Hc aa (by unfold fx; omega) hp]
 have := uG aa c.1 c.2.2
 have := iK aa c.1 c.2.2
 unfold mu
 rw [if_neg (by omega), if_neg (by omega), if_neg (by omega), if_neg (by omega), if_neg (by omega)]
end Go.Proofs.YtalpkjfpmdpbiaaGreatDoor
