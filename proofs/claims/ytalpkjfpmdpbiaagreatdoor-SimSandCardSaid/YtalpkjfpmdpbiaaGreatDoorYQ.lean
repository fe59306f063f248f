import Derived.Test.YtalpkjfpmdpbiaaGreatDoorYI
set_option linter.all false
namespace Go.Proofs.YtalpkjfpmdpbiaaGreatDoor
open Go Go.Vc Go.RowKit Go.Proofs Go.bQ Go.aB Go.Code Go.kW Go.mw
set_option maxRecDepth 100000
theorem Cj {l : List En} {V : Ce → Int} (h : Hs l V) (c : Ce) (b : Int) :
  ((cc l c b).2 = 0 ∧ (pos c ∈ di ∧ fx c ∧ aC b = true) ∧ Hs (cc l c b).1 (cK V c b)) ∨ ((cc l c b).2 ≠ 0 ∧ ¬ (pos c ∈ di ∧ fx c ∧ aC b = true) ∧ Hs (cc l c b).1 V) := by
 by_cases hk : pos c ∈ di ∧ fx c ∧ aC b = true
 ·obtain ⟨e1, e2⟩ := h.set hk.1 hk.2.1 hk.2.2
  exact .inl ⟨e1, hk, e2⟩
 ·obtain ⟨e1, e2⟩ := GX (l := l) (c := c) (b := b) fun q => hk ⟨(h.h _).1 q.1, q.2⟩
  exact .inr ⟨e2, hk, by rw [e1]; exact h⟩
theorem FI {n:Ce} (hp:pos n ∈ di) (hy:fx n):pQ n:=by
 have hb:(-1<=(pos n).1/\(pos n).1<=1)/\-1<=(pos n).2/\(pos n).2<=1:=by
  generalize pos n=p at hp
  revert hp
  unfold di
  intro hp
  simp only [List.mem_cons,List.not_mem_nil,or_false]at hp
  rcases hp with rfl|rfl|rfl|rfl|rfl<;>decide
 unfold Go.bQ.pos at hb
 unfold fx at hy
 unfold pQ
 simp only at hb
 omega
theorem DD {l:List En} {V:Ce->Int} (h:Hs l V) {n:Ce} (hd:0<ay (V n)):pQ n:=by
 by_cases hh:sW l (pos n)
 ·have hp:=(h.h _).1 hh
  have hy:fx n:=by
   obtain ⟨e,he,hpe⟩:=hh
   have hv:=h.v n
   rw [lG h.n he hpe]at hv
   by_cases h0:n.2.1<0
   ·rw [if_pos h0]at hv
    rw [<-hv]at hd
    exact absurd hd (by decide)
   ·rw [if_neg h0]at hv
    by_cases h32:n.2.1<32
    ·exact ⟨by omega,h32⟩
    ·have hk:vG e.1 n=false:=by
      cases hb:vG e.1 n with
      |false=>rfl
      |true=>exact absurd ((fp e.1 n).1 hb).1 (fun q=>h32 q.2)
     unfold vF at hv
     rw [hk,if_neg (by decide)]at hv
     rw [<-hv]at hd
     exact absurd hd (by decide)
  exact FI hp hy
 ·have hv:=h.v n
  rw [yx hh]at hv
  rw [<-hv]at hd
  exact absurd hd (by decide)
theorem Ai {q:QS} {c:Ce} {t:Int} {x:Go.kW.It} (h:x ∈(cX q c t).1.l):x ∈ q.l\/x.2=c:=by
 unfold cX at h
 split at h
 ·split at h
  ·exact .inl h
  ·rcases (fo _ _ _).1 h with rfl|h
   ·exact .inr rfl
   ·exact .inl ((kF _ _).subset h)
 ·split at h
  ·exact .inl h
  ·rcases (fo _ _ _).1 h with rfl|h
   ·exact .inr rfl
   ·exact .inl h
theorem Aj {V : Ce → Int} {now : Int} {x : Go.kW.It} : ∀ (l : List Ce) {q : QS}, x ∈ (l.foldl (dV V now) q).l → x ∈ q.l ∨ x.2 ∈ l
 | [], q, h => .inl h
 | n :: l, q, h => by
   rcases Aj l (q := dV V now q n) h with h | h
   ·rcases Ai h with h | h
    ·exact .inl h
    ·exact .inr (by rw [h]; exact .head _)
   ·exact .inr (.tail _ h)
theorem xj (q:QS) (c:Ce) (t:Int):(cX q c t).1.room=q.room:=by
 unfold cX
 split
 ·split<;>rfl
 ·split<;>rfl
theorem sB (V : Ce → Int) (now : Int) : ∀ (l : List Ce) (q : QS), (l.foldl (dV V now) q).room = q.room
 | [], q => rfl
 | n :: l, q => (sB V now l (dV V now q n)).trans (xj _ _ _)
def Nq (M:Sm):Prop:=M.q.room=4096/\∀x ∈ M.q.l,pQ x.2
structure Lv (M:Sm) (V:Ce->Int):Prop where
 h:Hs M.T.2 V
 q:Nq M
section
variable {A B M:Sm} {V:Ce->Int} {O:Ce->Bool}
theorem Lv.edit (h : Lv M V) (c : Ce) (b : Int) : ∃ V', Lv (dU M c b) V' := by
 rcases Cj h.h c b with ⟨e1, -, h1⟩ | ⟨e1, -, h1⟩
 ·refine ⟨_, h1, ?_⟩
  unfold Nq dU
  simp only
  rw [if_pos e1]
  refine ⟨(sB _ _ _ _).trans h.q.1, fun x hx => ?_⟩
  rcases Aj _ hx with q | q
  ·exact h.q.2 x q
  ·have hd := (List.mem_filter.1 q).2
   rw [show cD (cc M.T.2 c b).1 = cK V c b from funext h1.v] at hd
   exact DD h1 (by simpa using hd)
 ·refine ⟨_, h1, ?_⟩
  unfold Nq dU
  simp only
  rw [if_neg e1]
  exact h.q
theorem Lv.change (h : Lv M V) (x : Go.mw.Cg) : ∃ V', Lv (aM M x) V' := by
 unfold aM
 split
 ·exact ⟨V, h⟩
 ·exact h.edit _ _
theorem Lv.changes : ∀ (l : List Go.mw.Cg) {M : Sm} {V : Ce → Int}, Lv M V → ∃ V', Lv (l.foldl aM M) V'
 | [], M, V, h => ⟨V, h⟩
 | x :: l, M, V, h => by
   obtain ⟨V', h'⟩ := h.change x
   exact Lv.changes l h'
theorem Lv.IS (h : Lv M V) (O : Ce → Bool) {c : Ce} (hc : pQ c) : ∃ V', Lv (fO O M c) V' := by
 unfold fO
 split
 ·refine ⟨V, h.h, (xj _ _ _).trans h.q.1, fun x hx => ?_⟩
  rcases Ai hx with q | q
  ·exact h.q.2 x q
  ·rw [q]; exact hc
 ·split
  ·exact Lv.change (M := { M with eT := M.eT ++ [aS c] }) ⟨h.h, h.q⟩ _
  ·exact Lv.changes _ h
theorem Lv.Dc (O : Ce → Bool) : ∀ (l : List Ce) {M : Sm} {V : Ce → Int}, zC l → Lv M V → ∃ V', Lv (l.foldl (fO O) M) V'
 | [], M, V, _, h => ⟨V, h⟩
 | x :: l, M, V, hn, h => by
   obtain ⟨V', h'⟩ := h.IS O (hn x (.head _))
   exact Lv.Dc O l (fun y hy => hn y (.tail _ hy)) h'
theorem Lv.due (h : Lv M V) : zC (ju M) ∧ Lv (aT M) V := by
 refine ⟨fun y hy => ?_, h.h, h.q.1, fun x hx => h.q.2 x (List.mem_of_mem_drop hx)⟩
 obtain ⟨x, hx, rfl⟩ := List.mem_map.1 hy
 exact h.q.2 x (List.mem_of_mem_take hx)
theorem Lv.tick (h : Lv M V) (O : Ce → Bool) : ∃ V', Lv (ig O M) V' := Lv.Dc O _ h.due.1 h.due.2
end
theorem nU:∀(l:List Go.mw.Cg) (M:Sm),(l.foldl aM M).aO=M.aO
 | [],M=>rfl
 |x::l,M=>(nU l (aM M x)).trans (by unfold aM;split<;>rfl)
theorem GY (O:Ce->Bool) (M:Sm) (c:Ce):(fO O M c).aO=M.aO:=by
 unfold fO
 split
 ·rfl
 ·split
  ·exact nU [_] {M with eT:=M.eT++ [aS c]}
  ·exact nU _ M
theorem Ak (O : Ce → Bool) : ∀ (l : List Ce) (M : Sm), (l.foldl (fO O) M).aO = M.aO
 | [], M => rfl
 | x :: l, M => (Ak O l (fO O M x)).trans (GY O M x)
structure St (bud:Int) (M:Sm) (n:Nat):Prop where
 v:∃V,Lv M V
 k:nC M n
 b:M.aO=bud
theorem St.tick {bud : Int} {M : Sm} {n : Nat} (h : St bud M n) (hb : 1 ≤ bud ∧ bud ≤ 64) (O : Ce → Bool) : St bud (ig O M) (n + 2560) := by
 obtain ⟨V, hV⟩ := h.v
 have hd : (ju M).length ≤ 64 := B3 (by rw [h.b]; exact hb)
 have hn := h.k.now
 have hs : nC (aT M) n := ⟨h.k.l, h.k.c, by show 0 ≤ dP M ∧ dP M ≤ _; unfold dP; omega, h.k.d⟩
 exact ⟨hV.tick O, (hs.Dc O (ju M)).mono (by omega), (Ak O _ (aT M)).trans h.b⟩
end Go.Proofs.YtalpkjfpmdpbiaaGreatDoor
