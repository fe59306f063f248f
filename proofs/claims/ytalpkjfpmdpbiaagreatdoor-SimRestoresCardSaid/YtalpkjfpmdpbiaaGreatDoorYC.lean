import Derived.Test.YtalpkjfpmdpbiaaGreatDoorYA
import Derived.Test.YtalpkjfpmdpbiaaGreatDoorWA
import Derived.Test.YtalpkjfpmdpbiaaGreatDoorQA
import Derived.Test.YtalpkjfpmdpbiaaGreatDoorWB
set_option linter.all false
namespace Go.Proofs.YtalpkjfpmdpbiaaGreatDoor
open Go Go.Vc Go.RowKit Go.Proofs Go.bY Go.aD Go.Code Go.j3 Go.ij
abbrev rG:TypeId:=98
structure Sm where
 ae:Int
 cap:Int
 T:Tb
 ch:List Go.ij.Cg
 q:QS
 ax:Int
 now:Int
 dn:List Ce
abbrev GN (g o : Nat) (M : Sm) (occ : Value) (sd : Sl) : List Value := [.pointer (some ⟨g, 0, none⟩), .pointer (some ⟨o, 0, none⟩), .int .i64 M.ax, .int .i64 M.now, occ, .slice sd.a sd.n sd.c]
def SF (F : Nat → Prop) (w : World) (s o t : Nat) (M : Sm) (occ : Value) : Prop :=
 ∃ g m qs Fw sd, Row w s (GN g o M occ sd) rG ∧ Q.nu w g m qs M.q ∧ rV M.q ∧ WF Fw w o t M.ae M.cap M.T M.ch ∧ ag 0 jY 3 w sd (M.dn.map di) ∧ (∀ i, Q.cE g m qs i → ¬ Fw i) ∧ F = fun i => i = s ∨ Q.cE g m qs i ∨ Fw i ∨ sd.ay = some i
section
variable{F F':Nat->Prop}{w w':World}{s o t:Nat}{M M':Sm}{occ:Value}
theorem SF.lt(h:SF F w s o t M occ){i:Nat}(hi:F i):i<w.heap.size:=by
 obtain⟨g,m,qs,Fw,sd,h1,h2,-,h3,h4,-,rfl⟩:=h
 rcases hi with rfl|hi|hi|hi
 ·exact h1.lt
 ·exact h2.lt i hi
 ·exact h3.lt hi
 ·exact(h4.own.lt hi).2
theorem SF.same (h : SF F w s o t M occ) (hk : ∀ i, F i → w'.heap[i]? = w.heap[i]?) : SF F w' s o t M occ := by
 obtain ⟨g, m, qs, Fw, sd, h1, h2, hq, h3, h4, h5, rfl⟩ := h
 obtain ⟨kvs, m1, m2⟩ := h2.map
 exact ⟨g, m, qs, Fw, sd, h1.same (hk _ (.inl rfl)), ⟨h2.row.same (hk _ (.inr (.inl (.inl rfl)))), ag.aW h2.own fun b hb => hk b (.inr (.inl (.inr (.inr hb)))), kvs, m1.same (hk _ (.inr (.inl (.inr (.inl rfl))))), m2⟩, hq, h3.same fun i hi => hk i (.inr (.inr (.inl hi))), ag.aW h4 fun b hb => hk b (.inr (.inr (.inr hb))), h5, rfl⟩
theorem SF.ext (h : SF F w s o t M occ) (x : Ext w w') : SF F w' s o t M occ := h.same fun _ hi => x.heap (h.lt hi)
theorem SF.aZ (h : SF F w s o t M occ) {j : Nat} {cs : List Value} {τ : TypeId} (hr : Row w j cs τ) (h1 : sX τ) (h2 : τ ≠ nz) (h3 : τ ≠ cV) (h4 : τ ≠ rG) (h5 : τ ≠ Q.du) (h6 : τ ≠ Q.aS) (hj : ∀ (g : Nat) (sd : Sl), Row w s (GN g o M occ sd) rG → sd.ay ≠ some j) : ¬ F j := by
 obtain ⟨g, m, qs, Fw, sd, r1, r2, -, r3, r4, -, rfl⟩ := h
 rintro (hi | hi | hi | hi)
 ·exact hr.ne r1 h4 hi
 ·exact r2.aZ hr h5 h6 hi
 ·exact r3.aZ hr h1 h2 h3 hi
 ·exact hj g sd r1 hi
theorem SF.j4 (h : SF F w s o t M occ) {j : Nat} {cs : List Value} {τ : TypeId} (hr : Row w j cs τ) (h1 : sX τ) (h2 : τ ≠ nz) (h3 : τ ≠ cV) (h4 : τ ≠ rG) (h5 : τ ≠ Q.du) (h6 : τ ≠ Q.aS) (h7 : τ ≠ jY) : ¬ F j := by
 obtain ⟨g, m, qs, Fw, sd, r1, r2, -, r3, r4, -, rfl⟩ := h
 rintro (hi | hi | hi | hi)
 ·exact hr.ne r1 h4 hi
 ·exact r2.aZ hr h5 h6 hi
 ·exact r3.aZ hr h1 h2 h3 hi
 ·obtain ⟨cs', hr'⟩ := av r4 (by decide) hi
  exact hr.ne hr' h7 rfl
abbrev fX(F:Nat->Prop)(w:World)(s o t:Nat)(M:Sm)(occ:Value)(w':World):Prop:=∃F',SF F' w' s o t M occ/\ar F F' w w'
theorem SF.world (h : SF F w s o t M occ) : ∃ Fw, WF Fw w o t M.ae M.cap M.T M.ch ∧ (∀ i, Fw i → F i) ∧ ∀ {w' : World} {T' : Tb} {ch' : List Go.ij.Cg}, Ic Fw w o t M.ae M.cap T' ch' w' → fX F w s o t { M with T := T', ch := ch' } occ w' := by
 obtain ⟨g, m, qs, Fw, sd, h1, h2, hq, h3, h4, h5, rfl⟩ := h
 refine ⟨Fw, h3, fun i hi => .inr (.inr (.inl hi)), ?_⟩
 rintro w' T' ch' ⟨F', h', ht⟩
 have n1 := h3.aZ h1 (by decide) (by decide) (by decide)
 have n2 : ∀ i, Q.cE g m qs i → ¬ Fw i := h5
 have n4 : ∀ b, sd.ay = some b → ¬ Fw b := fun b hb => by
  obtain ⟨cs', hr'⟩ := av h4 (by decide) hb
  exact h3.aZ hr' (by decide) (by decide) (by decide)
 refine ⟨_, ⟨g, m, qs, F', sd, ht.mod.row h1 n1, h2.aW ht.mod n2, hq, h', ht.mod.bT h4 n4, ?_, rfl⟩, ht.mod.mono fun i _ hi => .inr (.inr (.inl hi)), fun i hi => ?_⟩
 ·exact fun i hi hf => ht.apart (G := Q.cE g m qs) (fun i hi hg => h5 i hg hi) (fun i hi => h2.lt i hi) i hf hi
 ·rcases hi with hi | hi | hi | hi
  ·exact .inl (.inl hi)
  ·exact .inl (.inr (.inl hi))
  ·exact (ht.sub i hi).imp (fun h => .inr (.inr (.inl h))) id
  ·exact .inl (.inr (.inr (.inr hi)))
theorem SF.queue (h : SF F w s o t M occ) : ∃ g m qs, Q.nu w g m qs M.q ∧ rV M.q ∧ (∃ sd, Row w s (GN g o M occ sd) rG) ∧ (∀ i, Q.cE g m qs i → F i) ∧ ∀ {w' : World} {qs' : Sl} {q' : QS}, Q.nu w' g m qs' q' → rV q' → ar (Q.cE g m qs) (Q.cE g m qs') w w' → fX F w s o t { M with q := q' } occ w' := by
 obtain ⟨g, m, qs, Fw, sd, h1, h2, hq, h3, h4, h5, rfl⟩ := h
 refine ⟨g, m, qs, h2, hq, ⟨sd, h1⟩, fun i hi => .inr (.inl hi), ?_⟩
 rintro w' qs' q' h' hq' ht
 have n1 := h2.aZ h1 (by decide) (by decide)
 have n3 : ∀ i, Fw i → ¬ Q.cE g m qs i := fun i hi hf => h5 i hf hi
 have n4 := h2.Hf h4 (by decide) (by decide) (by decide)
 refine ⟨_, ⟨g, m, qs', Fw, sd, ht.mod.row h1 n1, h', hq', h3.aW ht.mod n3, ht.mod.bT h4 n4, ?_, rfl⟩, ht.mod.mono fun i _ hi => .inr (.inl hi), fun i hi => ?_⟩
 ·exact fun i hi hf => ht.apart (G := Fw) (fun i hi hg => h5 i hi hg) (fun i hi => h3.lt hi) i hi hf
 ·rcases hi with hi | hi | hi | hi
  ·exact .inl (.inl hi)
  ·exact (ht.sub i hi).imp (fun h => .inr (.inl h)) id
  ·exact .inl (.inr (.inr (.inl hi)))
  ·exact .inl (.inr (.inr (.inr hi)))
theorem SF.row (h : SF F w s o t M occ) : ∃ g sd, Row w s (GN g o M occ sd) rG ∧ ag 0 jY 3 w sd (M.dn.map di) ∧ F s ∧ (∀ b, sd.ay = some b → F b) ∧ ∀ {w' : World} {M' : Sm} {occ' : Value} {sd' : Sl}, M'.ae = M.ae → M'.cap = M.cap → M'.T = M.T → M'.ch = M.ch → M'.q = M.q → Mod (fun i => i = s ∨ sd.ay = some i) w w' → Row w' s (GN g o M' occ' sd') rG → ag 0 jY 3 w' sd' (M'.dn.map di) → (∀ b, sd'.ay = some b → sd.ay = some b ∨ w.heap.size ≤ b) → fX F w s o t M' occ' w' := by
 obtain ⟨g, m, qs, Fw, sd, h1, h2, hq, h3, h4, h5, rfl⟩ := h
 refine ⟨g, sd, h1, h4, .inl rfl, fun b hb => .inr (.inr (.inr hb)), ?_⟩
 rintro w' M' occ' sd' e1 e2 e3 e4 e5 hm hr hd hsub
 have q1 := h2.aZ h1 (by decide) (by decide)
 have q2 := h2.Hf h4 (by decide) (by decide) (by decide)
 have r1 := h3.aZ h1 (by decide) (by decide) (by decide)
 have r2 : ∀ b, sd.ay = some b → ¬ Fw b := fun b hb => by
  obtain ⟨cs', hr'⟩ := av h4 (by decide) hb
  exact h3.aZ hr' (by decide) (by decide) (by decide)
 refine ⟨_, ⟨g, m, qs, Fw, sd', hr, by rw [e5]; exact h2.aW hm fun i hi hf => hf.elim (fun e => q1 (e ▸ hi)) (fun e => q2 _ e hi), by rw [e5]; exact hq, by rw [e1, e2, e3, e4]; exact h3.aW hm fun i hi hf => hf.elim (fun e => r1 (e ▸ hi)) (fun e => r2 _ e hi), hd, h5, rfl⟩, hm.mono fun i _ hi => hi.elim .inl (fun e => .inr (.inr (.inr e))), fun i hi => ?_⟩
 rcases hi with hi | hi | hi | hi
 ·exact .inl (.inl hi)
 ·exact .inl (.inr (.inl hi))
 ·exact .inl (.inr (.inr (.inl hi)))
 ·exact (hsub i hi).imp (fun h => .inr (.inr (.inr h))) id
end
end Go.Proofs.YtalpkjfpmdpbiaaGreatDoor
namespace Go.Proofs.YtalpkjfpmdpbiaaGreatDoor
open Go Go.Vc Go.RowKit Go.Proofs Go.bY Go.aD Go.Code Go.j3 Go.ij
def dS (M : Sm) (c : Ce) (b : Int) : Sm := { M with T := (M.T.1, (aX M.T.2 c b).1), ch := mV M.T.2 M.ch c b, q := if (aX M.T.2 c b).2 = 0 then m7 (cW (aX M.T.2 c b).1) M.now M.q c else M.q }
def aR(M:Sm)(x:Go.ij.Cg):Sm:=if cW M.T.2 x.1=x.2 then M else dS M x.1 x.2
def pV (O : Ce → Bool) (M : Sm) (c : Ce) : Bool := decide (cW M.T.2 c = 3) && (!(jz (cW M.T.2) c).isEmpty && O (a8 c))
def gd (O : Ce → Bool) (M : Sm) (c : Ce) : Sm :=
 if lT M.T.2 c = false then { M with q := (bM M.q c (M.now + 1)).1 }
 else if pV O M c = true then aR { M with dn := M.dn ++ [a8 c] } (c, 0)
 else (jz (cW M.T.2) c).foldl aR M
def nE (M : Sm) : Int := min (M.now + 1) 1099511627776
def jw (M : Sm) : Sm := { M with now := nE M, q := (nt M.q (nE M) M.ax).1 }
def jZ (M : Sm) : List Ce := (nt M.q (nE M) M.ax).2
def j5 (O : Ce → Bool) (M : Sm) : Sm := (jZ M).foldl (gd O) (jw M)
def dC:List Po:=[(0,0),(-1,0),(1,0),(0,-1),(0,1)]
def l5(ae:Int)(k:Nat):List En:=(dC.take k).map fun p=>(p,made ae p,false,0)
structure Hs(l:List En)(V:Ce->Int):Prop where
 n:su l
 g:yZ l
 h:∀p,sw l p ↔ p ∈ dC
 v:∀c,cW l c=V c
def iu(V:Ce->Int)(c:Ce)(b:Int):Ce->Int:=fun c'=>if c'=c then b else V c'
theorem Hs.set {l : List En} {V : Ce → Int} (h : Hs l V) {c : Ce} (hp : pos c ∈ dC) (hy : ig c) {b : Int} (hb : aE b = true) : (aX l c b).2 = 0 ∧ Hs (aX l c b).1 (iu V c b) := by
 obtain ⟨e1, e2, e3, e4⟩ := GY h.n h.g ((h.h _).2 hp) hy hb
 exact ⟨e1, e2, Bg h.g c b, fun p => (e3 p).trans (h.h p), fun c' => by rw [e4, h.v]; rfl⟩
theorem JV {l : List En} {V : Ce → Int} (h : Hs l V) {c : Ce} (hc : pos c = (0, 0)) : lT l c = true := by
 unfold lT
 rw [hc, List.all_eq_true]
 intro q hq
 have hq : q ∈ dC := hq
 obtain ⟨e, he, rfl⟩ := (h.h q).2 hq
 exact decide_eq_true (List.mem_map.2 ⟨e, he, rfl⟩)
theorem C2 (s x z : Int) : ground s x z ≤ 14 := by
 unfold ground
 have hu : 0 ≤ x % 8 ∧ x % 8 ≤ 8 := by omega
 have hv : 0 ≤ z % 8 ∧ z % 8 ≤ 8 := by omega
 generalize x % 8 = u at *
 generalize z % 8 = v at *
 have key : ∀ {c w : Int}, (0 ≤ c ∧ c ≤ 8) → 0 ≤ w → c * w ≤ 8 * w := fun h1 h2 => Int.mul_le_mul_of_nonneg_right h1.2 h2
 have w1 : 0 ≤ (8 - u) * (8 - v) := Int.mul_nonneg (by omega) (by omega)
 have w2 : 0 ≤ u * (8 - v) := Int.mul_nonneg (by omega) (by omega)
 have w3 : 0 ≤ (8 - u) * v := Int.mul_nonneg (by omega) (by omega)
 have w4 : 0 ≤ u * v := Int.mul_nonneg (by omega) (by omega)
 have a := key (bh s (x / 8) (z / 8)) w1
 have b := key (bh s (x / 8 + 1) (z / 8)) w2
 have c := key (bh s (x / 8) (z / 8 + 1)) w3
 have d := key (bh s (x / 8 + 1) (z / 8 + 1)) w4
 have e : (8 - u) * (8 - v) + u * (8 - v) + (8 - u) * v + u * v = 64 := by
  simp only [Int.sub_mul, Int.mul_sub]
  omega
 omega
theorem J5 (ae : Int) : (l5 ae 5).map (·.1) = dC := by
 unfold l5
 rw [List.map_map]
 rfl
theorem zQ (ae : Int) : su (l5 ae 5) := by
 unfold su
 rw [J5]
 decide
theorem KS (ae : Int) {c : Ce} (hy : ig c) (hp : pos c ∈ dC) : cW (l5 ae 5) c = yi c.2.1 (ground ae c.1 c.2.2) := by
 have hn := zQ ae
 have he : (pos c, made ae (pos c), false, (0 : Int)) ∈ l5 ae 5 := List.mem_map.2 ⟨pos c, hp, rfl⟩
 rw [pF hn he rfl, if_neg (by unfold ig at hy; omega)]
 have hk : oK (pos c) c = true := (ct _ _).2 ⟨hy, rfl⟩
 have hi := mC hy
 unfold rA
 simp only
 rw [hk, if_pos rfl]
 have hg := xl ae (pos c) (k := (idx c).toNat) (by omega)
 rw [Int.toNat_of_nonneg hi.1, C3 hy, IG (c := made ae (pos c)) (i := idx c) hi.1 (by rw [dO]; omega)] at hg
 exact Option.some.inj hg
theorem DX (ae : Int) : Hs (l5 ae 5) (cW (l5 ae 5)) := by
 refine ⟨zQ ae, fun e he => ?_, fun p => ⟨?_, fun hp => ⟨_, List.mem_map.2 ⟨p, hp, rfl⟩, rfl⟩⟩, fun c => rfl⟩
 ·obtain ⟨p, -, he2⟩ := List.mem_map.1 he
  have h1 := dO ae p
  have h2 := BD ae p
  generalize made ae p = m at *
  subst he2
  exact ⟨h1, h2⟩
 ·rintro ⟨e, he, rfl⟩
  obtain ⟨p, hp, rfl⟩ := List.mem_map.1 he
  exact hp
theorem GZ (ae : Int) {c : Ce} (hy : 14 ≤ c.2.1 ∧ c.2.1 < 32) (hp : pos c ∈ dC) : cW (l5 ae 5) c = 0 := by
 rw [KS ae (by unfold ig; omega) hp]
 have := C2 ae c.1 c.2.2
 have := lA ae c.1 c.2.2
 unfold yi
 rw [if_neg (by omega), if_neg (by omega), if_neg (by omega), if_neg (by omega), if_neg (by omega)]
end Go.Proofs.YtalpkjfpmdpbiaaGreatDoor
