import Derived.Test.YtalpkjfpmdpbiaaGreatDoorYI
import Derived.Test.YtalpkjfpmdpbiaaGreatDoorRL
import Derived.Test.YtalpkjfpmdpbiaaGreatDoorYD
set_option linter.all false
namespace Go.Proofs.YtalpkjfpmdpbiaaGreatDoor
open Go Go.Vc Go.RowKit Go.Proofs Go.dS Go.bh Go.Code Go.km Go.iQ
set_option maxRecDepth 100000
def TT{n:Ce}(hp:pos n ∈ fG)(hy:k8 n):nZ n:=by
 have hb:(-1<=(pos n).1/\(pos n).1<=1)/\-1<=(pos n).2/\(pos n).2<=1:=by generalize pos n=p at hp;revert hp;unfold fG;intro hp;simp only [bJ,fY,or_false] at hp;rcases hp with rfl|rfl|rfl|rfl|rfl<;>decide
 unfold Go.dS.pos at hb;unfold k8 at hy;unfold nZ;simp only at hb;omega
def I5{q:QS}{c:Ce}{t:Int}{x:Go.km.It}(h:x ∈(fc q c t).1.l):x ∈ q.l\/x.2=c:=by
 unfold fc at h;split at h
 ·split at h
  ·exact .inl h
  ·rcases (Av _ _ _).1 h with rfl|h
   ·exact .inr rfl
   ·exact .inl ((vU _ _).subset h)
 ·split at h
  ·exact .inl h
  ·rcases (Av _ _ _).1 h with rfl|h
   ·exact .inr rfl
   ·exact .inl h
def I9{V:Ce->Int}{now:Int}{x:Go.km.It}:∀(l:List Ce) {q:QS},x ∈(l.foldl (oO V now) q).l->x ∈ q.l\/x.2 ∈ l
 | [],q,h=> .inl h
 |n::l,q,h=>by
  rcases I9 l (q:=oO V now q n) h with h|h
  ·rcases I5 h with h|h
   ·exact .inl h
   ·exact .inr (by rw [h];exact .head _)
  ·exact .inr (.tail _ h)
def DJ(q:QS)(c:Ce)(t:Int):(fc q c t).1.room=q.room:=by
 unfold fc;split
 ·split<;>rfl
 ·split<;>rfl
def DK(V:Ce->Int)(now:Int):∀(l:List Ce)(q:QS),(l.foldl (oO V now) q).room=q.room
 | [],q=>rfl
 |n::l,q=>(DK V now l (oO V now q n)).trans (DJ _ _ _)
def NqY(M:Sm):Prop:=M.q.room=4096/\∀x ∈ M.q.l,nZ x.2
def ahH(b:Int):1<=min (max b 1) 64/\min (max b 1) 64<=64:=by omega
def qh:∀(l:List Go.iQ.Cg)(M:Sm),(l.foldl bB M).aO=M.aO
 | [],M=>rfl
 |x::l,M=>(qh l (bB M x)).trans (by unfold bB;split<;>rfl)
def WV(O:Ce->Bool)(M:Sm)(c:Ce):(g9 O M c).aO=M.aO:=by
 unfold g9;split
 ·rfl
 ·split
  ·exact qh [_] {M with dK:=M.dK++ [bz c]}
  ·exact qh _ M
def Ja(O:Ce->Bool):∀(l:List Ce)(M:Sm),(l.foldl (g9 O) M).aO=M.aO
 | [],M=>rfl
 |x::l,M=>(Ja O l (g9 O M x)).trans (WV O M x)
end Go.Proofs.YtalpkjfpmdpbiaaGreatDoor
namespace Go.Proofs.YtalpkjfpmdpbiaaGreatDoor
open Go Go.Vc Go.RowKit Go.Proofs Go.dS Go.bh Go.Code Go.km Go.iQ
set_option maxRecDepth 100000
def wc(l:List En):Prop:=∀e ∈ l,e.1 ∈ fG
def PY{l:List En}(hn:iS l)(hs:wc l){n:Ce}(hd:0<bQ (eB l n)):nZ n:=by
 by_cases hh:oP l (pos n)
 ·obtain ⟨e,he,hpe⟩:=hh;have hp:pos n ∈ fG:=hpe▸hs e he;have hv:=qL hn he hpe;have hy:k8 n:=by
   by_cases h0:n.2.1<0
   ·rw [if_pos h0] at hv;rw [hv] at hd;exact absurd hd aC
   ·rw [if_neg h0] at hv;by_cases h32:n.2.1<32
    ·exact ⟨by omega,h32⟩
    ·have hk:pJ e.1 n=false:=by
      cases hb:pJ e.1 n with
      |false=>rfl
      |true=>exact absurd ((eT e.1 n).1 hb).1 (λq=>h32 q.2)
     unfold rZ at hv;rw [hk,if_neg aC] at hv;rw [hv] at hd;exact absurd hd aC
  exact TT hp hy
 ·rw [Fm hh] at hd;exact absurd hd aC
def TX{l:List En}(hn:iS l)(hg:wS l)(hs:wc l)(c:Ce)(b:Int):wc (cr l c b).1:=by
 by_cases hk:oP l (pos c)/\k8 c/\ba b=true
 ·obtain ⟨-,-,e3,-⟩:=HM hn hg hk.1 hk.2.1 hk.2.2;intro e he;obtain ⟨e',he',hq⟩:=(e3 e.1).1 ⟨e,he,rfl⟩;exact hq▸hs e' he'
 ·rw [(W3 hk).1];exact hs
structure Lw(m:Nat)(M:Sm):Prop where
 iv:Iv m 0 M.T
 ok:qH M.T
 s:wc M.T.2
 q:NqY M
section
variable {M:Sm} {m:Nat} {O:Ce->Bool}
def Lw.edit(h:Lw m M)(c:Ce)(b:Int):Lw m (gw M c b):=by
 have hs:=TX h.iv.Yq h.ok.g h.s c b;have hiv:Iv m 0 (M.T.1,(cr M.T.2 c b).1):=aas (D:=M.T.1) (l:=M.T.2) h.iv c b;refine ⟨hiv,Et h.ok c b,hs,?_⟩;unfold NqY gw;simp only;by_cases e1:(cr M.T.2 c b).2=0
 ·rw [if_pos e1];refine ⟨(DK _ _ _ _).trans h.q.1,λx hx=> ?_⟩;rcases I9 _ hx with q|q
  ·exact h.q.2 x q
  ·have hd:=(jJ.1 q).2;exact PY hiv.Yq hs (by simpa using hd)
 ·rw [if_neg e1];exact h.q
def Lw.change(h:Lw m M)(x:Go.iQ.Cg):Lw m (bB M x):=by
 unfold bB;split
 ·exact h
 ·exact h.edit _ _
def Lw.changes:∀(l:List Go.iQ.Cg) {M:Sm},Lw m M->Lw m (l.foldl bB M)
 | [],_,h=>h
 |x::l,_,h=>Lw.changes l (h.change x)
def Lw.upd(h:Lw m M)(O:Ce->Bool){c:Ce}(hc:nZ c):Lw m (g9 O M c):=by
 unfold g9;split
 ·refine ⟨h.iv,h.ok,h.s,(DJ _ _ _).trans h.q.1,λx hx=> ?_⟩;rcases I5 hx with q|q
  ·exact h.q.2 x q
  ·rw [q];exact hc
 ·split
  ·exact Lw.change (M:={M with dK:=M.dK++ [bz c]}) ⟨h.iv,h.ok,h.s,h.q⟩ _
  ·exact Lw.changes _ h
def Lw.KU(O:Ce->Bool):∀(l:List Ce) {M:Sm},Ht l->Lw m M->Lw m (l.foldl (g9 O) M)
 | [],_,_,h=>h
 |x::l,_,hn,h=>Lw.KU O l (λy hy=>hn y (.tail _ hy)) (h.upd O (hn x (.head _)))
def Lw.due(h:Lw m M):Ht (mH M)/\Lw m (jv M):=by refine ⟨λy hy=> ?_,h.iv,h.ok,h.s,h.q.1,λx hx=>h.q.2 x (oE hx)⟩;obtain ⟨x,hx,rfl⟩:=aS.1 hy;exact h.q.2 x (kq hx)
def Lw.tick(h:Lw m M)(O:Ce->Bool):Lw m (fN O M):=Lw.KU O _ h.due.1 h.due.2
end
def runM(O:Ce->Bool):Nat->Sm->Sm × Nat
 |0,M=>(M,0)
 |k+1,M=>if 0<M.q.l.length then ((runM O k (fN O M)).1,(runM O k (fN O M)).2+1) else (M,0)
structure qI(bud:Int)(m:Nat)(M:Sm)(n:Nat):Prop where
 l:Lw m M
 k:ng M n
 b:M.aO=bud
section
variable {bud:Int} {m n:Nat} {M:Sm}
def qI.mono{n':Nat}(h:qI bud m M n)(hn:n<=n'):qI bud m M n':=⟨h.l,h.k.mono hn,h.b⟩
def qI.tick(h:qI bud m M n)(hb:1<=bud/\bud<=64)(O:Ce->Bool):qI bud m (fN O M) (n+2560):=by have hd:(mH M).length<=64:=Ez (by rw [h.b];exact hb);have hn:=h.k.now;have hs:ng (jv M) n:=⟨h.k.l,h.k.c,by show 0<=nh M/\nh M<=_;unfold nh;omega,h.k.d⟩;exact ⟨h.l.tick O,(hs.KU O (mH M)).mono aa,(Ja O _ (jv M)).trans h.b⟩
def qI.edit(h:qI bud m M n)(c:Ce)(b:Int):qI bud m (gw M c b) (n+7):=⟨h.l.edit c b,h.k.edit c b,h.b⟩
def qI.run(hb:1<=bud/\bud<=64)(O:Ce->Bool):∀(k:Nat) {M:Sm} {n:Nat},qI bud m M n->qI bud m (runM O k M).1 (n+2560*k)
 |0,_,_,h=>h
 |k+1,M,n,h=>by
  unfold runM
  split
  ·exact (qI.run hb O k (h.tick hb O)).mono aa
  ·exact h.mono aa
end
def qi:∀(l:List Go.iQ.Cg)(M:Sm),(l.foldl bB M).cap=M.cap
 | [],M=>rfl
 |x::l,M=>(qi l (bB M x)).trans (by unfold bB;split<;>rfl)
def W4(O:Ce->Bool)(M:Sm)(c:Ce):(g9 O M c).cap=M.cap:=by
 unfold g9;split
 ·rfl
 ·split
  ·exact qi [_] {M with dK:=M.dK++ [bz c]}
  ·exact qi _ M
def A1(O:Ce->Bool):∀(l:List Ce)(M:Sm),(l.foldl (g9 O) M).cap=M.cap
 | [],M=>rfl
 |x::l,M=>(A1 O l (g9 O M x)).trans (W4 O M x)
def IT(O:Ce->Bool):∀(k:Nat)(M:Sm),(runM O k M).1.cap=M.cap
 |0,M=>rfl
 |k+1,M=>by
  unfold runM
  split
  ·exact (IT O k _).trans (A1 O _ (jv M))
  ·rfl
def vF(O:Ce->Bool):∀(k:Nat)(M:Sm),(runM O k M).2=k->runM O (k+1) M=if 0<(runM O k M).1.q.l.length then (fN O (runM O k M).1,k+1) else ((runM O k M).1,k)
 |0,M,_=>rfl
 |k+1,M,h=>by
  have h1:runM O (k+1) M=if 0<M.q.l.length then ((runM O k (fN O M)).1,(runM O k (fN O M)).2+1) else (M,0):=rfl
  by_cases hp:0<M.q.l.length
  ·rw [if_pos hp] at h1
   have h2:(runM O k (fN O M)).2=k:=by rw [h1] at h;simpa using h
   have ih:=vF O k (fN O M) h2;have h3:runM O (k+1+1) M=if 0<M.q.l.length then ((runM O (k+1) (fN O M)).1,(runM O (k+1) (fN O M)).2+1) else (M,0):=rfl;rw [if_pos hp] at h3;rw [h3,h1,ih];simp only;split<;>rfl
  ·rw [if_neg hp] at h1;rw [h1] at h
   cases h
end Go.Proofs.YtalpkjfpmdpbiaaGreatDoor
namespace Go.Proofs.YtalpkjfpmdpbiaaGreatDoor
open Go Go.Vc Go.RowKit Go.Proofs Go.dS Go.bh Go.Code Go.km Go.iQ
set_option maxRecDepth 100000
def vG(O:Ce->Bool):∀(k d:Nat)(M:Sm),(runM O k M).2=k->¬0<(runM O k M).1.q.l.length->runM O (k+d) M=runM O k M
 |0,0,M,_,_=>rfl
 |0,d+1,M,_,h=>by
  rw [cP]
  show (if 0<M.q.l.length then _ else _)=_
  rw [if_neg (show ¬0<M.q.l.length from h)]
  rfl
 |k+1,d,M,h1,h2=>by
  have e1:runM O (k+1) M=if 0<M.q.l.length then ((runM O k (fN O M)).1,(runM O k (fN O M)).2+1) else (M,0):=rfl
  have e2:runM O (k+1+d) M=if 0<M.q.l.length then ((runM O (k+d) (fN O M)).1,(runM O (k+d) (fN O M)).2+1) else (M,0):=by rw [show k+1+d=k+d+1 by omega];rfl
  by_cases hp:0<M.q.l.length
  ·rw [if_pos hp] at e1 e2;rw [e1] at h1 h2;have h1:(runM O k (fN O M)).2=k:=by simpa using h1
   rw [e2,e1,vG O k d (fN O M) h1 h2]
  ·rw [if_neg hp] at e1 e2;rw [e1,e2]
section
variable {F F':Nat->Prop} {w w':World} {s o t:Nat} {M M':Sm} {occ:Value} {O:Ce->Bool} {bud:Int} {m n0:Nat}
def qI.Af(h:qI bud m M n0)(hn:n0<=600000)(hb:1<=bud/\bud<=64):Ht (mH M)/\ng M 600000/\1<=M.aO/\M.aO<=64:=⟨h.l.due.1,h.k.mono hn,by rw [h.b];exact hb⟩
def PN(hb:1<=bud/\bud<=64)(N:Nat)(hN:N<=1000)(h:SF F w s o t M occ)(hO:Oc occ O F w)(hs:qI bud m M n0)(hn0:n0+2560*N<=600000):
  Calls Tryz.prog 16 #[.pointer (some ⟨s,0,none⟩),.int .i64 N] w λe w'=>e=.returned (.int .i64 (runM O N M).2)/\jM F w s o t (runM O N M).1 occ w':=by
 apply G8.vc;refine ⟨λn x wr=>∃(k:Nat)(F':Nat->Prop),x=k/\k+n=N/\(runM O k M).2=k/\SF F' wr s o t (runM O k M).1 occ/\aG F F' w wr,⟨N,0,F,rfl,by omega,rfl,h,aG.refl _ _⟩,?_⟩;rintro n us x wr ⟨k,F',rfl,Fq,BN,hS,hT⟩;obtain ⟨g,m',qs,hq,qZ,⟨sd,hr⟩,eI,-⟩:=hS.queue;refine ⟨_,hr.at 0 rfl,(Q.S7 hq).mono ?_⟩;rintro e w7 ⟨rfl,x7⟩;refine ⟨_,rfl,Br.mk (λhp=>Br.mk (λhm=> ?_) (λhm=> ?_)) (λhp=> ?_)⟩
 ·simp only [decide_eq_true_eq,gt_iff_lt] at hp hm;have hkN:k<N:=by split at hm<;>omega
  have hp':0<(runM O k M).1.q.l.length:=by omega
  have Qk:=(qI.run hb O k hs).Af (by omega) hb;have es:=vF O k M BN;rw [if_pos hp'] at es;refine (nm (hS.ext x7) ((hO.iT hT).ext x7) Qk.1 Qk.2.1 Qk.2.2).mono ?_;rintro e w9 ⟨rfl,F2,te,ph⟩;have wk:IntKind.wrap .i64 ((k:Int)+1)=((k+1:Nat):Int):=by rw [wI];omega
  exact ⟨_,rfl,n-1,by omega,k+1,F2,wk,by omega,by rw [es],by rw [es];exact te,(hT.trans (aG.aN x7)).trans ph⟩
 ·replace hm:=eX hm;have hk':k=N:=by
   by_cases hkN:k<N
   ·exact absurd (by split<;>omega) hm
   ·omega
  subst hk';exact ⟨by rw [BN],F',hS.ext x7,hT.trans (aG.aN x7)⟩
 ·simp only [decide_eq_false_iff_not,gt_iff_lt] at hp;have hp':¬0<(runM O k M).1.q.l.length:=by omega
  have es:=vG O k n M BN hp';rw [Fq] at es;rw [es,BN];exact ⟨rfl,F',hS.ext x7,hT.trans (aG.aN x7)⟩
end
end Go.Proofs.YtalpkjfpmdpbiaaGreatDoor
