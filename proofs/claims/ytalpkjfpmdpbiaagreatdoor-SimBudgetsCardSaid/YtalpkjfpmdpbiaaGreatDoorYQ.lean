import Derived.Test.YtalpkjfpmdpbiaaGreatDoorYI
import Derived.Test.YtalpkjfpmdpbiaaGreatDoorRL
import Derived.Test.YtalpkjfpmdpbiaaGreatDoorYD
set_option linter.all false
namespace Go.Proofs.YtalpkjfpmdpbiaaGreatDoor
open Go Go.Vc Go.RowKit Go.Proofs Go.dQ Go.bf Go.Code Go.ks Go.jd
set_option maxRecDepth 100000
def Tm{n:Ce}(hp:pos n ∈ gl)(hy:kX n):nS n:=by
 have hb:(-1<=(pos n).1/\(pos n).1<=1)/\-1<=(pos n).2/\(pos n).2<=1:=by generalize pos n=p at hp;revert hp;unfold gl;intro hp;simp only [bI,fS,or_false] at hp;rcases hp with rfl|rfl|rfl|rfl|rfl<;>decide
 unfold Go.dQ.pos at hb;unfold kX at hy;unfold nS;simp only at hb;omega
def Ix{q:QS}{c:Ce}{t:Int}{x:Go.ks.It}(h:x ∈(eX q c t).1.l):x ∈ q.l\/x.2=c:=by
 unfold eX at h;split at h
 ·split at h
  ·exact .inl h
  ·rcases (zZ _ _ _).1 h with rfl|h
   ·exact .inr rfl
   ·exact .inl ((vq _ _).subset h)
 ·split at h
  ·exact .inl h
  ·rcases (zZ _ _ _).1 h with rfl|h
   ·exact .inr rfl
   ·exact .inl h
def Iy{V:Ce->Int}{now:Int}{x:Go.ks.It}:∀(l:List Ce) {q:QS},x ∈(l.foldl (oG V now) q).l->x ∈ q.l\/x.2 ∈ l
 | [],q,h=> .inl h
 |n::l,q,h=>by
  rcases Iy l (q:=oG V now q n) h with h|h
  ·rcases Ix h with h|h
   ·exact .inl h
   ·exact .inr (by rw [h];exact .head _)
  ·exact .inr (.tail _ h)
def Df(q:QS)(c:Ce)(t:Int):(eX q c t).1.room=q.room:=by
 unfold eX;split
 ·split<;>rfl
 ·split<;>rfl
def Dg(V:Ce->Int)(now:Int):∀(l:List Ce)(q:QS),(l.foldl (oG V now) q).room=q.room
 | [],q=>rfl
 |n::l,q=>(Dg V now l (oG V now q n)).trans (Df _ _ _)
def NqY(M:Sm):Prop:=M.q.room=4096/\∀x ∈ M.q.l,nS x.2
def ag5(b:Int):1<=min (max b 1) 64/\min (max b 1) 64<=64:=by omega
def pU:∀(l:List Go.jd.Cg)(M:Sm),(l.foldl bw M).aO=M.aO
 | [],M=>rfl
 |x::l,M=>(pU l (bw M x)).trans (by unfold bw;split<;>rfl)
def V9(O:Ce->Bool)(M:Sm)(c:Ce):(fU O M c).aO=M.aO:=by
 unfold fU;split
 ·rfl
 ·split
  ·exact pU [_] {M with dR:=M.dR++ [bz c]}
  ·exact pU _ M
def Iz(O:Ce->Bool):∀(l:List Ce)(M:Sm),(l.foldl (fU O) M).aO=M.aO
 | [],M=>rfl
 |x::l,M=>(Iz O l (fU O M x)).trans (V9 O M x)
end Go.Proofs.YtalpkjfpmdpbiaaGreatDoor
namespace Go.Proofs.YtalpkjfpmdpbiaaGreatDoor
open Go Go.Vc Go.RowKit Go.Proofs Go.dQ Go.bf Go.Code Go.ks Go.jd
set_option maxRecDepth 100000
def vA(l:List En):Prop:=∀e ∈ l,e.1 ∈ gl
def Pf{l:List En}(hn:je l)(hs:vA l){n:Ce}(hd:0<bO (ey l n)):nS n:=by
 by_cases hh:oH l (pos n)
 ·obtain ⟨e,he,hpe⟩:=hh;have hp:pos n ∈ gl:=hpe▸hs e he;have hv:=qu hn he hpe;have hy:kX n:=by
   by_cases h0:n.2.1<0
   ·rw [if_pos h0] at hv;rw [hv] at hd;exact absurd hd aE
   ·rw [if_neg h0] at hv;by_cases h32:n.2.1<32
    ·exact ⟨by omega,h32⟩
    ·have hk:pC e.1 n=false:=by
      cases hb:pC e.1 n with
      |false=>rfl
      |true=>exact absurd ((eN e.1 n).1 hb).1 (λq=>h32 q.2)
     unfold rG at hv;rw [hk,if_neg aE] at hv;rw [hv] at hd;exact absurd hd aE
  exact Tm hp hy
 ·rw [EV hh] at hd;exact absurd hd aE
def Ts{l:List En}(hn:je l)(hg:wg l)(hs:vA l)(c:Ce)(b:Int):vA (cj l c b).1:=by
 by_cases hk:oH l (pos c)/\kX c/\aY b=true
 ·obtain ⟨-,-,e3,-⟩:=Hj hn hg hk.1 hk.2.1 hk.2.2;intro e he;obtain ⟨e',he',hq⟩:=(e3 e.1).1 ⟨e,he,rfl⟩;exact hq▸hs e' he'
 ·rw [(Wg hk).1];exact hs
structure Lw(m:Nat)(M:Sm):Prop where
 iv:Iv m 0 M.T
 ok:qS M.T
 s:vA M.T.2
 q:NqY M
section
variable {M:Sm} {m:Nat} {O:Ce->Bool}
def Lw.edit(h:Lw m M)(c:Ce)(b:Int):Lw m (gm M c b):=by
 have hs:=Ts h.iv.XP h.ok.g h.s c b;have hiv:Iv m 0 (M.T.1,(cj M.T.2 c b).1):=ZS (D:=M.T.1) (l:=M.T.2) h.iv c b;refine ⟨hiv,DZ h.ok c b,hs,?_⟩;unfold NqY gm;simp only;by_cases e1:(cj M.T.2 c b).2=0
 ·rw [if_pos e1];refine ⟨(Dg _ _ _ _).trans h.q.1,λx hx=> ?_⟩;rcases Iy _ hx with q|q
  ·exact h.q.2 x q
  ·have hd:=(jH.1 q).2;exact Pf hiv.XP hs (by simpa using hd)
 ·rw [if_neg e1];exact h.q
def Lw.change(h:Lw m M)(x:Go.jd.Cg):Lw m (bw M x):=by
 unfold bw;split
 ·exact h
 ·exact h.edit _ _
def Lw.changes:∀(l:List Go.jd.Cg) {M:Sm},Lw m M->Lw m (l.foldl bw M)
 | [],_,h=>h
 |x::l,_,h=>Lw.changes l (h.change x)
def Lw.upd(h:Lw m M)(O:Ce->Bool){c:Ce}(hc:nS c):Lw m (fU O M c):=by
 unfold fU;split
 ·refine ⟨h.iv,h.ok,h.s,(Df _ _ _).trans h.q.1,λx hx=> ?_⟩;rcases Ix hx with q|q
  ·exact h.q.2 x q
  ·rw [q];exact hc
 ·split
  ·exact Lw.change (M:={M with dR:=M.dR++ [bz c]}) ⟨h.iv,h.ok,h.s,h.q⟩ _
  ·exact Lw.changes _ h
def Lw.Kj(O:Ce->Bool):∀(l:List Ce) {M:Sm},GU l->Lw m M->Lw m (l.foldl (fU O) M)
 | [],_,_,h=>h
 |x::l,_,hn,h=>Lw.Kj O l (λy hy=>hn y (.tail _ hy)) (h.upd O (hn x (.head _)))
def Lw.due(h:Lw m M):GU (k7 M)/\Lw m (iO M):=by refine ⟨λy hy=> ?_,h.iv,h.ok,h.s,h.q.1,λx hx=>h.q.2 x (ow hx)⟩;obtain ⟨x,hx,rfl⟩:=aR.1 hy;exact h.q.2 x (kh hx)
def Lw.tick(h:Lw m M)(O:Ce->Bool):Lw m (fo O M):=Lw.Kj O _ h.due.1 h.due.2
end
def runM(O:Ce->Bool):Nat->Sm->Sm × Nat
 |0,M=>(M,0)
 |k+1,M=>if 0<M.q.l.length then ((runM O k (fo O M)).1,(runM O k (fo O M)).2+1) else (M,0)
structure o5(bud:Int)(m:Nat)(M:Sm)(n:Nat):Prop where
 l:Lw m M
 k:m8 M n
 b:M.aO=bud
section
variable {bud:Int} {m n:Nat} {M:Sm}
def o5.mono{n':Nat}(h:o5 bud m M n)(hn:n<=n'):o5 bud m M n':=⟨h.l,h.k.mono hn,h.b⟩
def o5.tick(h:o5 bud m M n)(hb:1<=bud/\bud<=64)(O:Ce->Bool):o5 bud m (fo O M) (n+2560):=by have hd:(k7 M).length<=64:=D8 (by rw [h.b];exact hb);have hn:=h.k.now;have hs:m8 (iO M) n:=⟨h.k.l,h.k.c,by show 0<=gh M/\gh M<=_;unfold gh;omega,h.k.d⟩;exact ⟨h.l.tick O,(hs.Kj O (k7 M)).mono aa,(Iz O _ (iO M)).trans h.b⟩
def o5.edit(h:o5 bud m M n)(c:Ce)(b:Int):o5 bud m (gm M c b) (n+7):=⟨h.l.edit c b,h.k.edit c b,h.b⟩
def o5.run(hb:1<=bud/\bud<=64)(O:Ce->Bool):∀(k:Nat) {M:Sm} {n:Nat},o5 bud m M n->o5 bud m (runM O k M).1 (n+2560*k)
 |0,_,_,h=>h
 |k+1,M,n,h=>by
  unfold runM
  split
  ·exact (o5.run hb O k (h.tick hb O)).mono aa
  ·exact h.mono aa
end
def pV:∀(l:List Go.jd.Cg)(M:Sm),(l.foldl bw M).cap=M.cap
 | [],M=>rfl
 |x::l,M=>(pV l (bw M x)).trans (by unfold bw;split<;>rfl)
def Wh(O:Ce->Bool)(M:Sm)(c:Ce):(fU O M c).cap=M.cap:=by
 unfold fU;split
 ·rfl
 ·split
  ·exact pV [_] {M with dR:=M.dR++ [bz c]}
  ·exact pV _ M
def AG(O:Ce->Bool):∀(l:List Ce)(M:Sm),(l.foldl (fU O) M).cap=M.cap
 | [],M=>rfl
 |x::l,M=>(AG O l (fU O M x)).trans (Wh O M x)
def Ip(O:Ce->Bool):∀(k:Nat)(M:Sm),(runM O k M).1.cap=M.cap
 |0,M=>rfl
 |k+1,M=>by
  unfold runM
  split
  ·exact (Ip O k _).trans (AG O _ (iO M))
  ·rfl
def u6(O:Ce->Bool):∀(k:Nat)(M:Sm),(runM O k M).2=k->runM O (k+1) M=if 0<(runM O k M).1.q.l.length then (fo O (runM O k M).1,k+1) else ((runM O k M).1,k)
 |0,M,_=>rfl
 |k+1,M,h=>by
  have h1:runM O (k+1) M=if 0<M.q.l.length then ((runM O k (fo O M)).1,(runM O k (fo O M)).2+1) else (M,0):=rfl
  by_cases hp:0<M.q.l.length
  ·rw [if_pos hp] at h1
   have h2:(runM O k (fo O M)).2=k:=by rw [h1] at h;simpa using h
   have ih:=u6 O k (fo O M) h2;have h3:runM O (k+1+1) M=if 0<M.q.l.length then ((runM O (k+1) (fo O M)).1,(runM O (k+1) (fo O M)).2+1) else (M,0):=rfl;rw [if_pos hp] at h3;rw [h3,h1,ih];simp only;split<;>rfl
  ·rw [if_neg hp] at h1;rw [h1] at h
   cases h
end Go.Proofs.YtalpkjfpmdpbiaaGreatDoor
namespace Go.Proofs.YtalpkjfpmdpbiaaGreatDoor
open Go Go.Vc Go.RowKit Go.Proofs Go.dQ Go.bf Go.Code Go.ks Go.jd
set_option maxRecDepth 100000
def u7(O:Ce->Bool):∀(k d:Nat)(M:Sm),(runM O k M).2=k->¬0<(runM O k M).1.q.l.length->runM O (k+d) M=runM O k M
 |0,0,M,_,_=>rfl
 |0,d+1,M,_,h=>by
  rw [cO]
  show (if 0<M.q.l.length then _ else _)=_
  rw [if_neg (show ¬0<M.q.l.length from h)]
  rfl
 |k+1,d,M,h1,h2=>by
  have e1:runM O (k+1) M=if 0<M.q.l.length then ((runM O k (fo O M)).1,(runM O k (fo O M)).2+1) else (M,0):=rfl
  have e2:runM O (k+1+d) M=if 0<M.q.l.length then ((runM O (k+d) (fo O M)).1,(runM O (k+d) (fo O M)).2+1) else (M,0):=by rw [show k+1+d=k+d+1 by omega];rfl
  by_cases hp:0<M.q.l.length
  ·rw [if_pos hp] at e1 e2;rw [e1] at h1 h2;have h1:(runM O k (fo O M)).2=k:=by simpa using h1
   rw [e2,e1,u7 O k d (fo O M) h1 h2]
  ·rw [if_neg hp] at e1 e2;rw [e1,e2]
section
variable {F F':Nat->Prop} {w w':World} {s o t:Nat} {M M':Sm} {occ:Value} {O:Ce->Bool} {bud:Int} {m n0:Nat}
def o5.tj(h:o5 bud m M n0)(hn:n0<=600000)(hb:1<=bud/\bud<=64):GU (k7 M)/\m8 M 600000/\1<=M.aO/\M.aO<=64:=⟨h.l.due.1,h.k.mono hn,by rw [h.b];exact hb⟩
def O6(hb:1<=bud/\bud<=64)(N:Nat)(hN:N<=1000)(h:SF F w s o t M occ)(hO:Oc occ O F w)(hs:o5 bud m M n0)(hn0:n0+2560*N<=600000):
  Calls Tryz.prog 16 #[.pointer (some ⟨s,0,none⟩),.int .i64 N] w λe w'=>e=.returned (.int .i64 (runM O N M).2)/\kS F w s o t (runM O N M).1 occ w':=by
 apply Gr.vc;refine ⟨λn x wr=>∃(k:Nat)(F':Nat->Prop),x=k/\k+n=N/\(runM O k M).2=k/\SF F' wr s o t (runM O k M).1 occ/\aG F F' w wr,⟨N,0,F,rfl,by omega,rfl,h,aG.refl _ _⟩,?_⟩;rintro n us x wr ⟨k,F',rfl,Fq,Bk,hS,hT⟩;obtain ⟨g,m',qs,hq,qI,⟨sd,hr⟩,eG,-⟩:=hS.queue;refine ⟨_,hr.at 0 rfl,(Q.Sh hq).mono ?_⟩;rintro e w7 ⟨rfl,x7⟩;refine ⟨_,rfl,Br.mk (λhp=>Br.mk (λhm=> ?_) (λhm=> ?_)) (λhp=> ?_)⟩
 ·simp only [decide_eq_true_eq,gt_iff_lt] at hp hm;have hkN:k<N:=by split at hm<;>omega
  have hp':0<(runM O k M).1.q.l.length:=by omega
  have Qk:=(o5.run hb O k hs).tj (by omega) hb;have es:=u6 O k M Bk;rw [if_pos hp'] at es;refine (lu (hS.ext x7) ((hO.ib hT).ext x7) Qk.1 Qk.2.1 Qk.2.2).mono ?_;rintro e w9 ⟨rfl,F2,uw,qH⟩;have wk:IntKind.wrap .i64 ((k:Int)+1)=((k+1:Nat):Int):=by rw [wI];omega
  exact ⟨_,rfl,n-1,by omega,k+1,F2,wk,by omega,by rw [es],by rw [es];exact uw,(hT.trans (aG.aM x7)).trans qH⟩
 ·replace hm:=fh hm;have hk':k=N:=by
   by_cases hkN:k<N
   ·exact absurd (by split<;>omega) hm
   ·omega
  subst hk';exact ⟨by rw [Bk],F',hS.ext x7,hT.trans (aG.aM x7)⟩
 ·simp only [decide_eq_false_iff_not,gt_iff_lt] at hp;have hp':¬0<(runM O k M).1.q.l.length:=by omega
  have es:=u7 O k n M Bk hp';rw [Fq] at es;rw [es,Bk];exact ⟨rfl,F',hS.ext x7,hT.trans (aG.aM x7)⟩
end
end Go.Proofs.YtalpkjfpmdpbiaaGreatDoor
