import Derived.Test.YtjcnjlaelhdjeaaGreatDoorI
import Derived.Test.YtjcnjlaelhdjeaaGreatDoorD
import Derived.Test.YtjcnjlaelhdjeaaGreatDoorE
set_option linter.all false
namespace Go.Proofs.YtjcnjlaelhdjeaaGreatDoor
open Go Go.Vc Go.RowKit Go.Proofs Go.bW Go.aN Go.Code Go.dS Go.ej Go.fY
set_option maxRecDepth 100000
set_option maxHeartbeats 8000000
def am8(l:List En):Flt (jc l):=λx y y' z hy hy'=>by
 have e:pos (x,y,z)=pos (x,y',z):=rfl
 have h0:∀(p:Po)(C:List Int)(v:Int),32<=v->Z3 p C (x,v,z)=0:=λp C v hv=>by
  unfold Z3 Q8
  rw [decide_eq_false (show ¬((x,v,z):Ce).2.1<32 by simp only;omega)]
  simp
 have hn:∀v:Int,32<=v->¬((x,v,z):Ce).2.1<0:=λv hv=>by simp only;omega
 unfold jc
 rw [e,if_neg (hn y hy),if_neg (hn y' hy')]
 simp only [h0 _ _ _ hy,h0 _ _ _ hy']
def kj{b:eJ}:b.may=true ↔(2<=b.wd/\b.wd<=131072)/\(1<=b.ht/\b.ht<=262144)/\c8 b.aw 70368744177664/\c8 b.speed 262144:=by unfold eJ.may within c8;simp only [fF,cC];omega
def VT{b:eJ}(h:b.may=true):okB 70368744177664 b:=by obtain ⟨h1,h2,h3,h4⟩:=kj.1 h;unfold c8 at h4;exact ⟨h3,aa,aa,aa⟩
def arl{b:eJ}(h:b.may=true):b.box.1.2.1=b.aw.2.1/\b.box.1.2.1<b.box.2.2.1:=by obtain ⟨h1,h2,h3,h4⟩:=kj.1 h;unfold c8 at h3;have e1:b.box.1.2.1=nh b.aw.2.1 0:=rfl;have e2:b.box.2.2.1=dU b.aw.2.1 (max b.ht 0):=rfl;rw [e1,e2];unfold nh dU dD;omega
def aa1{V:Ce->Int}{b:eJ}(h:b.may=true)(d:Ce):(jj V b d).may=true:=by
 have hn:=(VT h).zG au;obtain ⟨h1,h2,h3,h4⟩:=kj.1 h;obtain ⟨y,x,z,-,-,-,e,hx,hy,hz⟩:=E2 (V:=V) (p:=aD) (d:=jA b.aw d) hn au;have ho:=F7 (V:=V) (p:=aD) (d:=jA b.aw d) hn au;rw [e] at ho;have ef:(jj V b d).aw=(b.aw.1+x,b.aw.2.1+y,b.aw.2.2+z):=by show iY b.aw (uJ (j4 V aD b.box (jA b.aw d)).1.1 b.box.1)=_;rw [e];exact KH h3 hn au (ho.up au)
 refine kj.2 ⟨h1,h2,?_,h4⟩;rw [ef];exact ⟨aeX h3 (r:=(x,y,z)) hx,N7 h3 (r:=(x,y,z)) hy,X5 h3 (r:=(x,y,z)) hz⟩
def aa2(h:Bool × Bool × Bool){v:Ce}(hv:c8 v 262144):c8 (uW h v) 262144:=by
 have c0:dD 0=0:=by decide
 have hw:∀{v:Ce} (ax:Int),c8 v 262144->c8 (fV v ax 0) 262144:=λ{v} ax hv=>by unfold c8 at hv;unfold fV Gl c8;rw [c0];simp only;refine ⟨?_,?_,?_⟩<;>split<;>omega
 unfold uW;simp only;have h1:c8 (if h.1=true then fV v 0 0 else v) 262144:=by
  split
  ·exact hw 0 hv
  ·exact hv
 generalize (if h.1=true then fV v 0 0 else v)=v1 at*;have h2:c8 (if h.2.1=true then fV v1 1 0 else v1) 262144:=by
  split
  ·exact hw 1 h1
  ·exact h1
 generalize (if h.2.1=true then fV v1 1 0 else v1)=v2 at*;split
 ·exact hw 2 h2
 ·exact h2
def afd{V:Ce->Int}{b:eJ}(hV:Flt V)(h:b.may=true):(GM V b).may=true:=by
 have hn:=(VT h).zG au;obtain ⟨h1,h2,h3,h4⟩:=kj.1 h;obtain ⟨x,y,z,e,hx,hy,hz⟩:=aiW (V:=V) (p:=aD) (d:=jA b.aw b.speed) (up:=32768) hn au au;have ho:=(PT (V:=V) (p:=aD) (d:=jA b.aw b.speed) (up:=32768) hn au).1;have ef:(GM V b).aw=(b.aw.1+x,b.aw.2.1+y,b.aw.2.2+z):=by show iY b.aw (uJ (jH V aD b.box (jA b.aw b.speed) 32768).1.1 b.box.1)=_;rw [e];rw [e] at ho;exact KH h3 hn au ho
 refine kj.2 ⟨h1,h2,?_,aa2 _ h4⟩;rw [ef];refine ⟨aeX h3 (r:=(x,y,z)) hx,?_,X5 h3 (r:=(x,y,z)) hz⟩;rcases hy with hy|hy
 ·exact N7 h3 (r:=(x,y,z)) hy
 by_cases q:b.aw.2.1<=70368744100000
 ·unfold c8 at h3;simp only;omega
 ·obtain ⟨b1,b2⟩:=arl h;have es:=aiX (V:=V) (p:=aD) (d:=jA b.aw b.speed) (up:=32768) hV hn au aa b2;obtain ⟨y',x',z',-,-,-,e',-,hy',-⟩:=E2 (V:=V) (p:=aD) (d:=jA b.aw b.speed) hn au;rw [es,e'] at e;have:y'=y:=by have e2:=congrArg (λq:Bx=>q.1.2.1) e;unfold iJ at e2;simp only at e2;omega
  rw [this] at hy';exact N7 h3 (r:=(x,y,z)) hy'
def vN{b:eJ}(h:b.may=true){v:Ce}(hv:c8 v 262144):({b with speed:=v}:eJ).may=true:=by obtain ⟨h1,h2,h3,-⟩:=kj.1 h;exact kj.2 ⟨h1,h2,h3,hv⟩
def afe{V:Ce->Int}{b:eJ}(hV:Flt V)(h:b.may=true)(i:QO):(zU V b i).may=true:=by
 refine afd hV ?_;have hw:(tq b i).may=true:=vN h (by
  have:=(kj.1 h).2.2.2;have h0:∀n,-262144<=Kc n/\Kc n<=262144:=λn=>by unfold Kc;omega
  unfold c8 at this ⊢;exact ⟨h0 _,this.2.1,h0 _⟩)
 generalize tq b i=c at*;have hs:=(kj.1 hw).2.2.2;unfold tp;have hf:∀(n jump less least:Int)(j:Bool),(-262144<=n/\n<=262144)->(0<=jump/\jump<=262144)->0<=less->(0<=least/\least<=262144)-> -262144<=wS n jump less least j/\wS n jump less least j<=262144:=λn jump less least j h1 h2 h3 h4=>by unfold wS;split<;>omega
 unfold c8 at hs;split
 ·exact vN hw ⟨hs.1,hf _ _ _ _ _ hs.2.1 au au au,hs.2.2⟩
 split
 ·exact vN hw ⟨hs.1,hf _ _ _ _ _ hs.2.1 au au au,hs.2.2⟩
 ·exact vN hw ⟨hs.1,hf _ _ _ _ _ hs.2.1 au au au,hs.2.2⟩
def kG(P:eJ->Prop)(L:lCs):Prop:=∀y,some y ∈ L->P y.1
section
variable {P:eJ->Prop} {V:Ce->Int} (hn:∀b d,P b->P (jj V b d))
include hn
def aff{i k:Nat}{l:List eJ}(h:∀b ∈ l,P b):∀b ∈ Km V i k l,P b:=by
 unfold Km;split
 ·rename_i a b ha hb;intro x hx;rcases pY hx with hx|rfl
  ·rcases pY hx with hx|rfl
   ·exact h x hx
   ·exact hn _ _ (h a (aQ ha))
  ·exact hn _ _ (h b (aQ hb))
 ·exact h
def Ye{i:Nat}:∀(n k:Nat) {l:List eJ},(∀b ∈ l,P b)->∀b ∈ U6 V i k n l,P b
 |0,_,_,h=>h
 |n+1,k,_,h=>Ye n (k+1) (aff hn h)
def afg:∀(n i:Nat) {l:List eJ},(∀b ∈ l,P b)->∀b ∈ crB V i n l,P b
 |0,_,_,h=>h
 |n+1,i,_,h=>afg n (i+1) (Ye hn _ _ h)
end
def ai6{P:eJ->Prop}{L:lCs}{i:Nat}{b:eJ}(h:kG P L)(hb:P b):kG P (D4 L i b):=by
 unfold D4
 cases hq:cE L i with
 |none=>exact h
 |some y=>
  intro z hz;rcases pY hz with hz|hz
  ·exact h z hz
  ·cases hz
   exact hb
def Sp{P:eJ->Prop}:∀(l:List (Nat × eJ)) {L:lCs},kG P L->(∀x ∈ l,P x.2)->kG P (Kf L l)
 | [],_,h,_=>h
 |x::l,_,h,hl=>Sp l (ai6 h (hl x bo)) λy hy=>hl y (by simp [hy])
def afh{P:eJ->Prop}{M:Sm}{L:lCs}(hs:∀b i,P b->P (zU (jc M.T.2) b i))(hn:∀b d,P b->P (jj (jc M.T.2) b d))(h:kG P L):kG P (sD M L):=by
 refine Sp _ h λx hx=>afg hn _ _ (λb hb=> ?_) x.2 (List.of_mem_zip hx).2
 obtain ⟨i,hi,rfl⟩:=bc.1 hb;obtain ⟨-,y,hy⟩:=zT hi;unfold uP;rw [hy];exact hs _ _ (h y (uQ hy))
abbrev kx(L:lCs):Prop:=kG (λb=>b.may=true) L
def kx.tick{M:Sm}{L:lCs}(h:kx L):kx (sD M L):=afh (λ_ i hb=>afe (am8 _) hb i) (λ_ d hb=>aa1 hb d) h
def kx.ok{L:lCs}(h:kx L):ES 70368744177664 L:=λy hy=>VT (h y hy)
def adn{P:eJ->Prop}{L:lCs}(h:kG P L)(i:Int):kG P (zB L i).2:=by
 unfold zB;split
 ·exact h
 ·intro y hy;rcases pY hy with hy|hy
  ·exact h y hy
  ·cases hy
def afi{P:eJ->Prop}{L:lCs}(h:kG P L)(i:Int)(inp:QO):kG P (A2 L i inp).2:=by
 unfold A2
 cases hq:cE L i with
 |none=>exact h
 |some y=>
  intro z hz;rcases pY hz with hz|hz
  ·exact h z hz
  ·cases hz
   unfold cE at hq;split at hq
   ·exact h y (aQ (J6.1 hq))
   ·cases hq
def Y5{M:Sm}{L:lCs}(h:kx L)(b:eJ):kx (iP M L b).2.2:=by
 unfold iP;split
 ·exact h
 rename_i hb;split
 ·exact h
 split
 ·exact h
 split
 ·exact h
 ·intro z hz;rcases pY hz with hz|hz
  ·exact h z hz
  ·cases hz
   show eJ.may {b with fG:=_}=true;have:b.may=true:=by simpa using hb
   rw [<-this];rfl
def okT(x:dS.It):Prop:=Cn x.2/\0<=x.1/\x.1<=2000000000000
structure Rok(M:Sm)(L:lCs):Prop where
 b:kx L
 q:∀x ∈ M.q.l,okT x
 n:0<=M.now/\M.now<=1099511627776
 o:yN M.q
def Blk(b:List Int):Prop:=∃(v:Int)(M:Sm)(L:lCs)(n:Nat),(1<=v/\v<=1073741824)/\Rok M L/\b=(gL (Go.bW.dy v (dy M L))).take n
def afc(M:Sm)(L:lCs):(dy M L).length<=50000:=by have h1:=rR L (bh L);have h2:=uy L;have h3:=Lz (M.q.l.take 2000);rw [cS] at h3;unfold dy fZ ij;rw [cj,cj,cj,cj,h3,uz];simp only [cL,mV];omega
def Blk.take{b:List Int}(h:Blk b)(m:Nat):Blk (b.take m):=by obtain ⟨v,M,L,n,hv,hr,rfl⟩:=h;exact ⟨v,M,L,min m n,hv,hr,by rw [List.take_take]⟩
def Blk.rd{b:List Int}(h:Blk b):(pT b).2.2≠0\/∃M L,Rok M L/\(pT b).2.1=dy M L:=by
 obtain ⟨v,M,L,n,hv,hr,rfl⟩:=h;have hl:=afc M L;by_cases c:n<(gL (Go.bW.dy v (dy M L))).length
 ·exact .inl (ai5 aa c)
 ·rw [dN aa,ad8 hv aa];exact .inr ⟨M,L,hr,rfl⟩
def KR(D:Dk):Prop:=∀x,x ∈ D.safe\/x ∈ D.l->x.1=0\/x.1=1->Blk x.2
def Oe{l:List ki}{w x:ki}(h:x ∈ lay l w):x=w\/x ∈ l:=by
 rcases cu.1 ((qN l w).mem_iff.1 h) with h|h
 ·exact .inl h
 ·exact .inr (jY.1 h).1
def Sj:∀(t:List ki) {s:List ki} {x:ki},x ∈ t.foldl lay s->x ∈ t\/x ∈ s
 | [],s,x,h=> .inr h
 |w::t,s,x,h=>by
  rcases Sj t h with h|h
  ·exact .inl (qQ _ h)
  ·rcases Oe h with h|h
   ·exact .inl (h▸List.mem_cons_self ..)
   ·exact .inr h
def KR.now{D:Dk}(h:KR D){x:ki}(hx:x ∈ tU D)(h0:x.1=0\/x.1=1):Blk x.2:=
 h x ((Sj _ hx).symm) h0
def KR.get{D:Dk}(h:KR D){k:Int}(hk:k=0\/k=1):(pT (getD D k)).2.2≠0\/∃M L,Rok M L/\(pT (getD D k)).2.1=dy M L:=by
 unfold getD pg
 cases hf:(tU D).find? λx=>x.1==k with
 |none=>exact .inl au
 |some x=>
  have h1:x.1=k:=by have:=List.find?_some hf;simpa using this
  exact (h.now (G6 hf) (h1▸hk)).rd
def KR.ld{D:Dk}(h:KR D):(Go.bW.pU D 0).2.2=false\/∃M L,Rok M L/\(Go.bW.pU D 0).1=dy M L/\(Go.bW.pU D 0).2.2=true:=by
 have step:∀(best:Rc)(s:Int)(r:Int × List Int × Int),(r.2.2≠0\/∃M L,Rok M L/\r.2.1=dy M L)->(best.2.1<=0\/∃M L,Rok M L/\best.2.2=dy M L)->((j2 best s r).2.1<=0\/∃M L,Rok M L/\(j2 best s r).2.2=dy M L):=by
  intro best s r hr hb;unfold j2;split
  ·rename_i c;exact hr.elim (λq=>absurd c.1 q) .inr
  ·exact hb
 have h2:(kL D 0).2.1<=0\/∃M L,Rok M L/\(kL D 0).2.2=dy M L:=by unfold kL;exact step _ _ _ (h.get (.inr rfl)) (step _ _ _ (h.get (.inl rfl)) (.inl (jI 0)))
 have e:Go.bW.pU D 0=((kL D 0).2.2,(kL D 0).2.1,decide ((kL D 0).2.1>0)):=rfl;rw [e];by_cases c:(kL D 0).2.1>0
 ·rcases h2 with h2|⟨M,L,hr,h2⟩
  ·omega
  ·exact .inr ⟨M,L,hr,h2,decide_eq_true c⟩
 ·exact .inl (decide_eq_false c)
def KR.of{D D':Dk}(h:KR D)(h1:D'.safe=D.safe)(h2:D'.l=D.l):KR D':=λx hx=>h x (by rw [h1,h2] at hx;exact hx)
def KR.ask{D:Dk}(h:KR D):KR (jN D).1:=h.of (jq D).1 (jq D).2.1
def KR.put{D:Dk}(h:KR D){k:Int}{b:List Int}(hb:k=0\/k=1->Blk b):KR (kV D k b).1:=by
 unfold kV;split
 ·exact h.ask
 split
 ·exact h.ask
 ·intro x hx h0;rcases hx with hx|hx
  ·have hx:x ∈(jN D).1.safe:=hx;exact h.ask x (.inl hx) h0
  ·rcases dp.1 hx with hx|hx
   ·exact h x (.inr hx) h0
   ·rw [ig.1 hx] at h0 ⊢;exact hb h0
def KR.sync{D:Dk}(h:KR D):KR (nX D).1:=by
 unfold nX;split
 ·exact h.ask
 ·intro x hx h0;rcases hx with hx|hx
  ·exact h.now hx h0
  ·cases hx
def KR.save{D:Dk}(h:KR D)(id:Int)(b:List Int)(hb:(4*id+1-(kL D id).1=0\/4*id+1-(kL D id).1=1)->(zf ((kL D id).2.1+1) b).2=0->Blk (zf ((kL D id).2.1+1) b).1):KR (tJ D id b).1:=by
 unfold tJ;split
 ·split
  ·exact h
  ·rename_i h0;have hp:KR (kV D (4*id+1-(kL D id).1) (zf ((kL D id).2.1+1) b).1).1:=h.put λq=>hb q (by simpa using h0)
   split
   ·exact hp
   ·exact hp.sync
 ·exact h
def KR.chunk{D:Dk}(h:KR D){id:Int}(hid:1<=id)(b:List Int):KR (tJ D id b).1:=
 h.save id b λq _=>by have:=Pm D id;omega
def KR.aV{D:Dk}(h:KR D){M:Sm}{L:lCs}(hr:Rok M L):KR (tJ D 0 (dy M L)).1:=
 h.save 0 _ λ_ h0=>by
  have hv:=akv D 0;unfold zf at h0 ⊢;split at h0
  ·simp at h0
  ·rename_i c;rw [if_neg c];exact ⟨_,M,L,_,aa,hr,(dN (ak _)).symm⟩
def KR.Dr{D:Dk}(h:KR D)(n:Int):KR (cw D n).1:=by
 have key:∀(t:List ki)(m:Int) {s:List ki},(∀x,x ∈ s->x.1=0\/x.1=1->Blk x.2)->(∀x,x ∈ t->x.1=0\/x.1=1->Blk x.2)->∀x,x ∈ mC m s t->x.1=0\/x.1=1->Blk x.2:=by
  intro t
  induction t with
  |nil=>intro m s hs _ x hx;exact hs x hx
  |cons w t ih=>
   intro m s hs ht x hx h0;unfold mC at hx;split at hx
   ·refine ih _ (λy hy hy0=> ?_) (λy hy=>ht y (qQ _ hy)) x hx h0;rcases Oe hy with rfl|hy
    ·exact ht _ (List.mem_cons_self ..) hy0
    ·exact hs y hy hy0
   ·rcases Oe hx with rfl|hx
    ·exact (ht w (List.mem_cons_self ..) h0).take _
    ·exact hs x hx h0
 intro x hx h0;rcases hx with hx|hx
 ·exact key D.l _ (λy hy=>h y (.inl hy)) (λy hy=>h y (.inr hy)) x hx h0
 ·cases hx
def KR.fail{D:Dk}(h:KR D)(n:Int):KR (om D n):=h.of (by unfold om;split<;>rfl) (by unfold om;split<;>rfl)
def Sk(k:Nat)(e:En):Prop:=EP e.1/\0<=e.2.2.2/\e.2.2.2<=k
structure nI(k n:Nat)(T:Tb):Prop where
 e:∀e ∈ T.2,Sk k e
 d:T.1.l.length<=n
 r:KR T.1
section
variable {k n:Nat} {D:Dk} {l:List En} {aj limit:Int} {T:Tb}
def Sk.mono{e:En}(h:Sk k e){m:Nat}(hm:k<=m):Sk m e:=⟨h.1,h.2.1,by have:=h.2.2;omega⟩
def nI.mono(h:nI k n T){k' n':Nat}(hk:k<=k')(hn:n<=n'):nI k' n' T:=⟨λe he=>(h.e e he).mono hk,cV h.d hn,h.r⟩
def Sk.save{e:En}(he:Sk k e)(D:Dk):Sk k (cD D e).2.1:=by
 unfold cD;split
 ·exact he
 ·exact he
def KR.cD{e:En}(h:KR D)(he:Sk k e):KR (cD D e).1:=by
 unfold Go.Proofs.YtjcnjlaelhdjeaaGreatDoor.cD;split
 ·exact h.chunk (ahW he.1).1 _
 ·exact h
def nI.go(h:nI k n (D,l))(i:Nat):nI k (n+1) (goE D l i).1:=by
 unfold goE;split
 ·exact h.mono (ak _) (lN _)
 ·rename_i e he;have h1:=h.e e (aQ he);have h2:=h.r.cD h1;have h3:=Am D e;have h4:D.l.length<=n:=h.d;split
  ·exact ⟨λx hx=>h.e x ((GA ..).subset hx),by simp only;omega,h2⟩
  ·refine ⟨λx hx=> ?_,by simp only;omega,h2⟩;rcases pY hx with hx|rfl
   ·exact h.e x hx
   ·exact h1.save D
def nI.room(h:nI k n (D,l)):nI k (n+1) (fU limit D l).1:=by
 unfold fU;split
 ·exact h.mono (ak _) (lN _)
 split
 ·exact h.mono (ak _) (lN _)
 ·exact h.go _
def nI.load(h:nI k n (D,l))(p:Po):nI k (n+1) (yO aj limit D l p).1:=by
 unfold yO;split
 ·exact h.mono (ak _) (lN _)
 rename_i hp;split
 ·refine ⟨λe he=> ?_,Nat.le_succ_of_le h.d,h.r⟩;rcases dp.1 he with he|he
  ·exact h.e e ((GA ..).subset he)
  ·exact h.e e (aQ (Option.mem_toList.1 he))
 have hr:=h.room (limit:=limit);split
 ·exact hr
 ·refine ⟨λe he=> ?_,hr.d,hr.r⟩;rcases dp.1 he with he|he
  ·exact hr.e e he
  ·rw [ig.1 he];exact ⟨by simpa using hp,by simp only;omega,by simp only;omega⟩
def nI.ame(h:nI k n (D,l))(p:Po):nI k (n+1) (oa D l p).1:=by
 unfold oa;split
 ·split
  ·exact h.mono (ak _) (lN _)
  ·exact h.go _
 ·exact h.mono (ak _) (lN _)
def nI.flush(h:nI k n (D,l))(p:Po):nI k (n+1) (TK D l p).1:=by
 unfold TK;split
 ·split
  ·rename_i e he;have h1:=h.e e (aQ he);have h3:=Am D e;have h4:D.l.length<=n:=h.d;refine ⟨λx hx=> ?_,by simp only;omega,h.r.cD h1⟩;rcases pY hx with hx|rfl
   ·exact h.e x hx
   ·exact h1.save D
  ·exact h.mono (ak _) (lN _)
 ·exact h.mono (ak _) (lN _)
def nI.U9:∀(l:List En) {n:Nat} {D:Dk} {pre:List En} {m:Int},nI k n (D,pre++l)->nI k (n+l.length) (U9 D pre l m).1
 | [],n,D,pre,m,h=>by rw [oV] at h;exact h
 |e::l,n,D,pre,m,h=>by
  have h1:=h.e e (Dc _ (.head _))
  have h2:=h.r.cD h1
  have h3:=Am D e
  have h4:D.l.length<=n:=h.d
  have h5:nI k (n+1) ((cD D e).1,pre++(cD D e).2.1::l):=by
   refine ⟨λx hx=> ?_,by simp only;omega,h2⟩;rcases dp.1 hx with hx|hx
   ·exact h.e x (Ha _ hx)
   ·rcases cu.1 hx with rfl|hx
    ·exact h1.save D
    ·exact h.e x (Dc _ (.tail _ hx))
  unfold Go.Proofs.YtjcnjlaelhdjeaaGreatDoor.U9;rw [cL];split
  ·have h6:nI k (n+1) ((cD D e).1,(pre++ [(cD D e).2.1])++l):=by rw [fT];exact h5
   exact (nI.U9 l h6).mono (ak _) aa
  ·exact h5.mono (ak _) aa
def nI.ark(h:nI k n (D,l)):nI k (n+l.length) (gT D l).1:=nI.U9 (pre:=[]) l h
def Yb{l:List En}{i:Nat}{f:En->En}{x:En}(h:x ∈ l.modify i f):x ∈ l\/∃y,l[i]? =some y/\x=f y:=by
 obtain ⟨j,hj⟩:=JT.1 h;rw [CR] at hj
 cases hy:l[j]? with
 |none=>rw [hy] at hj;cases hj
 |some y=>
  rw [hy] at hj;have e:x=if i=j then f y else y:=(Option.some.inj hj).symm;by_cases c:i=j
  ·rw [if_pos c] at e;subst c;exact .inr ⟨y,hy,e⟩
  ·rw [if_neg c] at e;exact .inl (e▸aQ hy)
def nI.pin(h:nI k n (D,l))(p:Po):nI (k+1) n (D,(zq l p).1):=by
 unfold zq;split
 ·refine ⟨λe he=> ?_,h.d,h.r⟩;rcases Yb he with he|⟨y,hy,rfl⟩
  ·exact (h.e e he).mono (lN _)
  ·obtain ⟨q1,q2,q3⟩:=h.e y (aQ hy);exact ⟨q1,by simp only;omega,by simp only;omega⟩
 ·exact h.mono (lN _) (ak _)
def nI.aqM(h:nI k n (D,l))(p:Po):nI k n (D,(kY l p).1):=by
 unfold kY;split
 ·split
  ·exact h
  ·rename_i h0;refine ⟨λe he=> ?_,h.d,h.r⟩;rcases Yb he with he|⟨y,hy,rfl⟩
   ·exact h.e e he
   ·obtain ⟨q1,q2,q3⟩:=h.e y (aQ hy);rw [hy] at h0;simp only [mT,Option.some.injEq] at h0;exact ⟨q1,by simp only;omega,by simp only;omega⟩
 ·exact h
def nI.set(h:nI k n (D,l))(c:Ce)(b:Int):nI k n (D,(jo l c b).1):=by
 unfold jo;split
 ·exact h
 split
 ·exact h
 split
 ·exact h
 ·refine ⟨λe he=> ?_,h.d,h.r⟩;rcases dp.1 he with he|he
  ·exact h.e e ((GA ..).subset he)
  ·obtain ⟨x,hx,rfl⟩:=wM.1 (Option.mem_toList.1 he);exact h.e x (aQ hx)
def am7(D:Dk)(m:Int):(om D m).l=D.l:=by unfold om;split<;>rfl
def nI.fail(h:nI k n (D,l))(m:Int):nI k n (om D m,l):=⟨h.e,by rw [am7];exact h.d,h.r.fail m⟩
def nI.Dr(h:nI k n (D,l))(m:Int):nI k n ((cw D m).1,[]):=⟨λ_ he=>(by cases he),eG _,h.r.Dr m⟩
def nI.aV(h:nI k n (D,l)){M:Sm}{L:lCs}(hr:Rok M L):nI k (n+1) ((tJ D 0 (dy M L)).1,l):=⟨h.e,cV (acX D 0 _) (Nat.succ_le_succ h.d),h.r.aV hr⟩
end
def KM{l:List En}{c:Ce}{b:Int}(h:(jo l c b).2=0):PL c/\∃e ∈ l,e.1=pos c:=by
 unfold jo at h;split at h
 ·simp only at h;omega
 rename_i h1;split at h
 ·simp only at h;omega
 rename_i h2;refine ⟨by simpa using h2,?_⟩;rcases dm (λe:En=>e.1==pos c) l with ⟨e,-⟩|⟨k,x,hx,hq,-,-⟩
 ·rw [e] at h1;omega
 ·exact ⟨x,aQ hx,by simpa using hq⟩
def Sn{c:Ce}(h:EP (pos c))(hy:PL c):(-9000000<=c.1/\c.1<=9000000)/\(0<=c.2.1/\c.2.1<32)/\-9000000<=c.2.2/\c.2.2<=9000000:=by unfold EP pos at h;unfold PL at hy;simp only at h;omega
def Yc{q:QS}{c:Ce}{t:Int}{x:dS.It}(h:x ∈(lD q c t).1.l):x ∈ q.l\/x=(t,c):=by
 unfold lD at h;split at h
 ·split at h
  ·exact .inl h
  ·rcases (G8 _ _ _).1 h with h|h
   ·exact .inr h
   ·exact .inl ((B9 q.l c).subset h)
 ·split at h
  ·exact .inl h
  ·rcases (G8 _ _ _).1 h with h|h
   ·exact .inr h
   ·exact .inl h
def Yd{V:Ce->Int}{now:Int}{c:Ce}:∀(l:List Ce) {q:QS} {x:dS.It},x ∈(l.foldl (λq n=>(lD q n (now+jS (V n))).1) q).l->x ∈ q.l\/(x.2 ∈ l/\now<=x.1/\x.1<=now+5)
 | [],q,x,h=> .inl h
 |n::l,q,x,h=>by
  rcases Yd (c:=c) l h with h|h
  ·rcases Yc h with h|h
   ·exact .inl h
   ·have:=QR (V n)
    exact .inr (by rw [h];exact ⟨bo,by simp only;omega,by simp only;omega⟩)
  ·exact .inr ⟨qQ _ h.1,h.2⟩
def aa0{V:Ce->Int}{c:Ce}(h:(-9000000<=c.1/\c.1<=9000000)/\(0<=c.2.1/\c.2.1<32)/\-9000000<=c.2.2/\c.2.2<=9000000):∀n ∈ sG V c,Cn n:=by intro n hn;have hn:=(jY.1 hn).1;obtain ⟨x,y,z⟩:=c;simp only at h;unfold Cn;simp only [rZ,cu,iT,or_false] at hn;rcases hn with rfl|rfl|rfl|rfl|rfl|rfl|rfl<;>(try simp only [fy,Ds])<;>omega
def Nr(k n:Nat)(M:Sm):Prop:=nI k n M.T/\(∀x ∈ M.q.l,okT x)/\0<=M.now/\M.now<=1099511627776
section
variable {k n:Nat}
def Nr.edit{M:Sm}(h:Nr k n M)(c:Ce)(b:Int):Nr k n (Ay M c b):=by
 refine ⟨nI.set (D:=M.T.1) (l:=M.T.2) h.1 c b,λx hx=> ?_,h.2.2⟩;have hx:x ∈(if (jo M.T.2 c b).2=0 then GR (jc (jo M.T.2 c b).1) M.now M.q c else M.q).l:=hx;split at hx
 ·rename_i h0;obtain ⟨hy,e,he,hp⟩:=KM h0;have hc:=Sn (by rw [<-hp];exact (h.1.e e he).1) hy;rcases Yd (c:=c) _ hx with hx|⟨hx,h1,h2⟩
  ·exact h.2.1 x hx
  ·have:=h.2.2;exact ⟨aa0 hc _ hx,aa,aa⟩
 ·exact h.2.1 x hx
def Nr.change{M:Sm}(h:Nr k n M)(x:Go.ej.Cg):Nr k n (eY M x):=by
 unfold eY;split
 ·exact h
 ·exact h.edit _ _
def Nr.changes:∀(l:List Go.ej.Cg) {M:Sm},Nr k n M->Nr k n (l.foldl eY M)
 | [],M,h=>h
 |x::l,M,h=>Nr.changes l (h.change x)
def Nr.upd{M:Sm}(h:Nr k n M)(O:Ce->Bool){c:Ce}(hc:Cn c):Nr k n (wi O M c):=by
 unfold wi;split
 ·refine ⟨h.1,λx hx=> ?_,h.2.2⟩;rcases Yc hx with hx|hx
  ·exact h.2.1 x hx
  ·have:=h.2.2;rw [hx];exact ⟨hc,by simp only;omega,by simp only;omega⟩
 split
 ·exact Nr.change (M:={M with nk:=M.nk++ [fy c]}) h (c,0)
 ·exact Nr.changes _ h
def Nr.aao(O:Ce->Bool):∀(l:List Ce) {M:Sm},Xq l->Nr k n M->Nr k n (l.foldl (wi O) M)
 | [],M,_,h=>h
 |c::l,M,hl,h=>Nr.aao O l (λy hy=>hl y (by simp [hy])) (h.upd O (hl c bo))
def Nr.due{M:Sm}(h:Nr k n M):Xq (uO M):=λy hy=>by
 have hy:y ∈(M.q.l.take (iQ M.q.l (qC M) M.dz)).map (·.2):=hy
 obtain ⟨x,hx,rfl⟩:=bc.1 hy
 exact (h.2.1 x (nZ hx)).1
def Nr.tick{M:Sm}(h:Nr k n M)(O:Ce->Bool):Nr k n (QT O M):=Nr.aao O _ h.due ⟨h.1,λx hx=>h.2.1 x (zo (show x ∈ M.q.l.drop _ from hx)),by have:=h.2.2;show 0<=qC M/\qC M<=_;unfold qC;omega⟩
end
def vo:∀(l:List Go.ej.Cg)(M:Sm),(l.foldl eY M).dz=M.dz
 | [],M=>rfl
 |x::l,M=>(vo l (eY M x)).trans (by unfold eY;split<;>rfl)
def VS(O:Ce->Bool)(M:Sm)(c:Ce):(wi O M c).dz=M.dz:=by
 unfold wi;split
 ·rfl
 split
 ·unfold eY;split<;>rfl
 ·exact vo _ _
def Dt(O:Ce->Bool):∀(l:List Ce)(M:Sm),(l.foldl (wi O) M).dz=M.dz
 | [],M=>rfl
 |c::l,M=>(Dt O l (wi O M c)).trans (VS O M c)
def Of(O:Ce->Bool)(M:Sm):(QT O M).dz=M.dz:=Dt O _ _
structure Inv(k:Nat)(M:Sm)(L:lCs):Prop where
 b:kx L
 s:qB M (300000*k)
 n:Nr k (20*k) M
 u:1<=M.dz/\M.dz<=64
section
variable {k:Nat} {M M':Sm} {L L':lCs}
def Nr.mono{k n k' n':Nat}(h:Nr k n M)(hk:k<=k')(hn:n<=n'):Nr k' n' M:=⟨h.1.mono hk hn,h.2⟩
def Inv.mono(h:Inv k M L){k':Nat}(hk:k<=k'):Inv k' M L:=⟨h.b,h.s.mono aa,h.n.mono hk aa,h.u⟩
def Inv.tab(h:Inv k M L){T':Tb}(ht:nI (k+1) (20*(k+1)) T'):Inv (k+1) {M with T:=T'} L:=
 ⟨h.b,⟨h.s.mono aa|>.l,(h.s.mono aa:qB M (300000*(k+1))).c,h.s.now,(h.s.mono aa:qB M (300000*(k+1))).d⟩,⟨ht,h.n.2⟩,h.u⟩
def Inv.lv(h:Inv k M L)(hb:kx L'):Inv (k+1) M L':=⟨hb,h.s.mono aa,h.n.mono aa aa,h.u⟩
def Inv.edit(h:Inv k M L)(c:Ce)(b:Int):Inv (k+1) (Ay M c b) L:=⟨h.b,(h.s.edit c b).mono aa,(h.n.edit c b).mono aa aa,h.u⟩
def Inv.up(h:Inv k M L):Inv (k+1) M L:=h.mono (lN _)
def Inv.afF(h:Inv k M L)(L':lCs)(c:Ce)(b:Int):Inv (k+1) (iA M L' c b).2 L:=by
 unfold iA;split
 ·exact h.up
 ·exact h.edit c b
def Inv.place(h:Inv k M L)(n:Int)(gE:Ce)(b:Int):Inv (k+1) (sW M L n gE b).2 L:=by
 unfold sW
 repeat' split
 all_goals first|exact h.up|exact h.afF _ _ _
def Inv.brk(h:Inv k M L)(n:Int)(gE:Ce):Inv (k+1) (mE M L n gE).2 L:=by
 unfold mE
 repeat' split
 all_goals first|exact h.up|exact h.afF _ _ _
def Inv.rok(h:Inv k M L)(hq:yN M.q):Rok M L:=⟨h.b,h.n.2.1,h.s.now,hq⟩
def fJ:Nat->Sm->lCs->Int × Sm × lCs
 |0,M,L=>(0,M,L)
 |n+1,M,L=>((fJ n M L).1+((uO (fJ n M L).2.1).length:Int),(zS (fJ n M L).2.1 (fJ n M L).2.2).1,(zS (fJ n M L).2.1 (fJ n M L).2.2).2)
structure Jnv(k j:Nat)(M:Sm)(L:lCs):Prop where
 b:kx L
 s:qB M (300000*k+2560*j)
 n:Nr k (20*k) M
 u:1<=M.dz/\M.dz<=64
def Inv.j(h:Inv k M L):Jnv k 0 M L:=⟨h.b,h.s.mono aa,h.n,h.u⟩
def Jnv.inv{j:Nat}(h:Jnv k j M L)(hj:j<=100):Inv (k+1) M L:=⟨h.b,h.s.mono aa,h.n.mono aa aa,h.u⟩
def Jnv.tick{j:Nat}(h:Jnv k j M L):Jnv k (j+1) (zS M L).1 (zS M L).2:=by have hl:=EZ (q:=M.q) (now:=qC M) h.u;have gm:qB (GY M) (300000*k+2560*j):=⟨h.s.l,h.s.c,by have:=h.s.now;show 0<=qC M/\qC M<=_;unfold qC;omega,h.s.d⟩;have hS:qB (zS M L).1 (300000*k+2560*j+40*(uO M).length):=qB.aao _ (uO M) gm;have TE:(uO M).length<=64:=hl;refine ⟨h.b.tick,hS.mono aa,h.n.tick _,?_⟩;have:(zS M L).1.dz=M.dz:=Of _ _;rw [this];exact h.u
def Inv.ak6(h:Inv k M L):∀n:Nat,Jnv k n (fJ n M L).2.1 (fJ n M L).2.2/\0<=(fJ n M L).1/\(fJ n M L).1<=64*n
 |0=>⟨h.j,jI _,jI _⟩
 |n+1=>by
  obtain ⟨h1,h2,h3⟩:=Inv.ak6 h n
  have hl:=EZ (q:=(fJ n M L).2.1.q) (now:=qC (fJ n M L).2.1) h1.u
  have TE:(uO (fJ n M L).2.1).length<=64:=hl
  refine ⟨h1.tick,?_,?_⟩<;>(show _<=_)<;>unfold fJ<;>omega
end
abbrev er(x:Int):Prop:=0<=x/\x<14
def ank(D:Dk)(k:Int)(b:List Int):er (kV D k b).2:=by
 unfold kV er
 repeat' split
 all_goals (simp only;omega)
def ajl(D:Dk):er (nX D).2:=by unfold nX er;split<;>(simp only;omega)
def ak3(D:Dk)(id:Int)(b:List Int):er (tJ D id b).2:=by
 unfold tJ;split
 ·split
  ·unfold zf er;split<;>(simp only;omega)
  ·split
   ·exact ank ..
   ·exact ajl _
 ·unfold er;simp only;omega
def Oo(D:Dk)(e:En):er (cD D e).2.2:=by
 unfold cD;split
 ·exact ak3 ..
 ·unfold er;simp only;omega
def ak7(D:Dk)(l:List En)(i:Nat):er (goE D l i).2:=by
 unfold goE;split
 ·unfold er;simp only;omega
 ·split
  ·unfold er;simp only;omega
  ·exact Oo ..
def ajm(limit:Int)(D:Dk)(l:List En):er (fU limit D l).2:=by
 unfold fU;split
 ·unfold er;simp only;omega
 split
 ·unfold er;simp only;omega
 ·exact ak7 ..
def ahS(aj limit:Int)(D:Dk)(l:List En)(p:Po):er (yO aj limit D l p).2:=by
 unfold yO;split
 ·unfold er;simp only;omega
 split
 ·unfold er;simp only;omega
 split
 ·exact ajm ..
 ·unfold er;simp only;omega
def YU(D:Dk)(l:List En)(p:Po):er (oa D l p).2:=by
 unfold oa;split
 ·split
  ·unfold er;simp only;omega
  ·exact ak7 ..
 ·unfold er;simp only;omega
def ac8(D:Dk)(l:List En)(p:Po):er (TK D l p).2:=by
 unfold TK;split
 ·split
  ·exact Oo ..
  ·unfold er;simp only;omega
 ·unfold er;simp only;omega
def afm:∀(l:List En)(D:Dk)(pre:List En)(n:Int),0<=n->er (U9 D pre l n).2.2/\0<=(U9 D pre l n).2.1/\(U9 D pre l n).2.1<=n+l.length
 | [],D,pre,n,h=>by unfold U9 er;simp only [mV];omega
 |e::l,D,pre,n,h=>by
  unfold U9
  rw [cL]
  split
  ·have:=afm l (cD D e).1 (pre++ [(cD D e).2.1]) (if e.2.2.1=true then n+1 else n) (by split<;>omega)
   refine ⟨this.1,this.2.1,?_⟩
   have h2:=this.2.2
   have:(if e.2.2.1=true then n+1 else n)<=n+1:=by split<;>omega
   omega
  ·exact ⟨Oo ..,by simp only;omega,by simp only;omega⟩
def ac9(l:List En)(p:Po):er (zq l p).2/\er (kY l p).2:=by
 unfold zq kY er;refine ⟨by split<;>(simp only;omega),?_⟩
 repeat' split
 all_goals (simp only;omega)
def anl(l:List En)(c:Ce)(b:Int):er (jo l c b).2:=by
 unfold jo er
 repeat' split
 all_goals (simp only;omega)
def Oq(M:Sm)(L:lCs)(c:Ce)(b:Int):er (iA M L c b).1:=by
 unfold iA;split
 ·unfold er;simp only;omega
 ·exact anl ..
def Nh(M:Sm)(L:lCs)(n:Int)(gE:Ce):er (cM M L n gE).2:=by
 unfold cM er
 repeat' split
 all_goals (simp only;omega)
def afG(M:Sm)(L:lCs)(n:Int)(gE:Ce)(b:Int):er (sW M L n gE b).1:=by
 unfold sW
 repeat' split
 all_goals first|exact Oq .. |exact Nh .. |(unfold er;simp only;omega)
def anm(M:Sm)(L:lCs)(n:Int)(gE:Ce):er (mE M L n gE).1.2:=by
 unfold mE
 repeat' split
 all_goals first|exact Oq .. |exact Nh .. |(unfold er;simp only;omega)
def ahZ(L:lCs)(n:Int):er (zB L n).1:=by unfold zB er;split<;>(simp only;omega)
def ajn(L:lCs)(n:Int)(i:QO):er (A2 L n i).1:=by unfold A2 er;split<;>(simp only;omega)
def ado(M:Sm)(L:lCs)(b:eJ):er (iP M L b).2.1:=by
 unfold iP er
 repeat' split
 all_goals (simp only;omega)
open Go.iG
abbrev sv(t:ByteArray):LV:=[.string t]
def amg(t:ByteArray):One (sv t):=by intro v hv;simp [sv] at hv;subst hv;rfl
def Lr{x y:ByteArray}(h:bl x=bl y):x=y:=by obtain ⟨⟨x⟩⟩:=x;obtain ⟨⟨y⟩⟩:=y;have h:x=y:=h;rw [h]
def ae8(s:ByteArray)(i j:Nat):bl (s.extract i j)=((bl s).drop i).take (j-i):=by simp [bl,ByteArray.data_extract,List.extract_eq_take_drop]
def ai2{n:Int}(h: -2147483648<=n/\n<=2147483647):IntKind.wrap .i32 n=n:=by unfold IntKind.wrap;simp only [IntKind.bits,IntKind.signed];simp only [oU];split<;>simp_all<;>omega
def Sh(s:ByteArray)(m:Nat):ByteArray:=if m<s.size then s.extract 0 m else s
def ae9(s:ByteArray)(m:Nat):(Sh s m).size<=m:=by
 unfold Sh;split
 ·simp;omega
 ·omega
def afa(s:ByteArray)(m:Nat)(w:World):kh 20 #[.string s,vI (m:Nat)] w (Value.string (Sh s m)):=by
 apply aah.vc;apply Br.mk<;>intro h<;>simp at h
 ·refine ⟨aa,aa,?_,rfl⟩;unfold Sh;rw [if_pos (by omega)];simp
 ·refine ⟨?_,rfl⟩;unfold Sh;rw [if_neg (by omega)]
def Jk(s:ByteArray)(w:World):kh 181 #[.string s,.string (ByteArray.mk #[45])] w (Value.bool (decide ((bl s).head? =some 45))):=by
 apply mA.vc;have hl:=jQ s;apply Br.mk<;>intro h
 ·have h:1<=s.size:=by have:=of_decide_eq_true h;have e:(ByteArray.mk #[45]).size=1:=rfl;omega
  refine ⟨au,by show ((1:Nat):Int)<=_;omega,?_,rfl⟩;congr 2;rw [Bool.eq_iff_iff,kD,decide_eq_true_iff]
  cases hb:bl s with
  |nil=>rw [hb] at hl;simp at hl;omega
  |cons b l=>
   have e1:bl (s.extract 0 1)=[b]:=by rw [ae8,hb];rfl
   constructor
   ·intro he;have he:s.extract 0 1=ByteArray.mk #[45]:=he;rw [he] at e1;have e1:[(45:UInt8)]=[b]:=e1;simp at e1;simp [<-e1]
   ·intro he;simp at he;apply Lr;show bl (s.extract 0 1)=[45];rw [e1,he]
 ·have h:s.size=0:=by have:=of_decide_eq_false h;have e:(ByteArray.mk #[45]).size=1:=rfl;omega
  refine ⟨?_,rfl⟩;have:bl s=[]:=by apply ur.1;omega
  rw [this];rfl
def Jl(s:ByteArray)(w:World):ab 66 #[.string s,.string (ByteArray.mk #[45])] w λe w'=>∃d,e=Value.tuple #[.string d,.bool (decide ((bl s).head? =some 45))]/\bl d=OU (bl s)/\w'=w:=by
 have hl:=jQ s;apply AL.vc;have key:ab 118 #[.string s,.string (ByteArray.mk #[45])] w λe w'=>∃d,e=Value.tuple #[.string d,.bool (decide ((bl s).head? =some 45))]/\bl d=OU (bl s)/\w'=w:=by
  apply mz.vc;refine (Jk s w).eL ?_;refine ⟨_,rfl,Br.mk (λh=> ?_) (λh=> ?_)⟩
  ·simp only [Bool.not_eq_true',fg] at h;refine ⟨s,?_,?_,rfl⟩
   ·rw [decide_eq_false h]
   ·unfold OU;rw [if_neg h]
  ·simp only [Bool.not_eq_false',cC] at h;have h1:1<=s.size:=by
    cases hb:bl s with
    |nil=>rw [hb] at h;cases h
    |cons b l=>rw [hb] at hl;simp at hl;omega
   refine ⟨au,by show ((1:Nat):Int)<=_;omega,s.extract 1 s.size,?_,?_,rfl⟩
   ·rw [decide_eq_true h];rfl
   ·rw [ae8];unfold OU;rw [if_pos h];apply dN;simp [hl]
 refine key.mono ?_;rintro _ _ ⟨d,rfl,hd,rfl⟩;exact ⟨_,_,rfl,d,rfl,hd,rfl⟩
def Si{l:List UInt8}{p:Nat}(hp:p<l.length):l.take (p+1)=l.take p++ [l.getD p 0]:=by rw [dq,dG,cK hp];rfl
def ai3{l:List UInt8}{p:Nat}(hp:p<l.length)(h:¬(48<=(l.getD p 0).toNat/\(l.getD p 0).toNat<=57)):uR l=none:=by
 have h1:uR (l.take (p+1))=none:=by
  rw [Si hp,CB];unfold KL
  cases uR (l.take p) with
  |none=>rfl
  |some n=>rw [Option.bind_some,if_neg h]
 have:=Jm h1 (l.drop (p+1));rwa [td] at this
def Xt{s:ByteArray}(h:uR (OU (bl s))=none):zX s=(0,false):=by
 unfold zX ai4;split
 ·rfl
 ·rw [h]
def zY{s:ByteArray}(h:(OU (bl s)).length<1\/15<(OU (bl s)).length):zX s=(0,false):=by unfold zX ai4;rw [if_pos h]
def adW{s:ByteArray}{n:Int}(h:¬((OU (bl s)).length<1\/15<(OU (bl s)).length))(hn:uR (OU (bl s))=some n):zX s=(if (bl s).head? =some 45 then -n else n,true):=by unfold zX ai4;rw [if_neg h,hn]
def R5(s:ByteArray)(w:World):ed 32 #[.string s] w (Value.tuple #[.int .i64 (zX s).1,.bool (zX s).2]):=by
 apply Ng.vc;refine (Jl s w).mono ?_;rintro _ w0 ⟨d,rfl,hd,rfl⟩;refine ⟨d,_,rfl,?_⟩;intro w3 e3;have nR:=jQ d;refine ⟨λn x v=>∃p:Nat,p+n=d.size/\v.heap[w0.heap.size]? =some (.stringIter d p)/\uR ((bl d).take p)=some x/\x<1000000000000000/\Ext w0 v,⟨d.size,0,by omega,by rw [e3];show (w0.heap.push _)[w0.heap.size]? =_;simp,rfl,by decide,by rw [e3];exact Ext.al _ _⟩,?_⟩;rintro n5 us6 x7 w8 ⟨p,hp,hit,hx,hxl,x8⟩;have hx0:=(EU _ rfl hx).1;refine ⟨w0.heap.size,d,p,rfl,hit,Br.mk (λh=> ?_) (λh=> ?_)⟩
 ·have h:=of_decide_eq_true h;obtain ⟨-,-,⟨d3,d4⟩,-⟩:=am6 d p h;have hb:=arj d p;intro bw fL apH;have cJ:Ext w0 bw:=Below.trans x8 (fL.below (ak _));have bad:¬(48<=((bl d).getD p 0).toNat/\((bl d).getD p 0).toNat<=57)->(Ending.returned (.tuple #[ai,false])=Value.tuple #[.int .i64 (zX s).1,.bool (zX s).2]/\Ext w0 bw):=by intro hc;rw [Xt (by rw [<-hd];exact ai3 aa hc)];exact ⟨rfl,cJ⟩
  refine Br.mk (λh1=> ?_) (λh1=>Br.mk (λh2=> ?_) (λh2=> ?_))
  ·have h1:=of_decide_eq_true h1;apply bad;by_cases c:VQ d p<128
   ·rw [d3 c] at h1;simp only at h1;omega
   ·have:=d4 aa;omega
  ·have h2:=of_decide_eq_true h2;apply bad;by_cases c:VQ d p<128
   ·rw [d3 c] at h2;simp only at h2;omega
   ·omega
  ·have h1:=of_decide_eq_false h1;have h2:=of_decide_eq_false h2;have c:VQ d p<128:=by
    by_cases c:VQ d p<128
    ·exact c
    ·have:=d4 aa;omega
   rw [d3 c] at h1 h2 apH ⊢;simp only at h1 h2 apH ⊢;have e1:uR ((bl d).take (p+1))=some (x7*10+((VQ d p:Nat):Int)-48):=by rw [Si aa,CB,hx];unfold KL;rw [Option.bind_some,if_pos aa,<-hb]
   have e2:aC ((aC (x7*10))+(aC (IntKind.wrap .i32 (((VQ d p:Nat):Int)-48))))=x7*10+((VQ d p:Nat):Int)-48:=by rw [ai2 aa,aL (n:=x7*10) (by unfold cH;omega),aL (n:=((VQ d p:Nat):Int)-48) (by unfold cH;omega),wI];omega
   rw [e2];apply Br.mk<;>intro h3
   ·have h3:=of_decide_eq_true h3;have cX:((bl d).take (p+1)).length=p+1:=by rw [cS];omega
    have yQ:=(EU _ cX e1).2;have:15<p+1:=by
     apply C6;intro hle;have:(10:Int) ^(p+1)<=10 ^ 15:=by have:=Nat.pow_le_pow_right (n:=10) au hle;exact_mod_cast this
     omega
    rw [zY (by rw [<-hd];right;omega)];exact ⟨rfl,cJ⟩
   ·have h3:=of_decide_eq_false h3;exact ⟨n5-1,by omega,p+1,by omega,apH,e1,by omega,cJ⟩
 ·have h:=of_decide_eq_false h;have hpe:p=d.size:=by omega
  rw [hpe,dN aa] at hx;refine Br.mk (λh1=> ?_) (λh1=>Br.mk (λh2=> ?_) (λh2=> ?_))
  ·rw [kD] at h1;rw [zY (by rw [<-hd,h1];left;decide)];exact ⟨rfl,x8⟩
  ·have h2:=of_decide_eq_true h2;rw [zY (by rw [<-hd];right;omega)];exact ⟨rfl,x8⟩
  ·have h2:=of_decide_eq_false h2;have gl:d≠ByteArray.mk #[]:=λh=>by rw [(kD _ _).2 h] at h1;cases h1
   have hd1:1<=d.size:=by apply C6;intro h0;apply gl;apply Lr;show bl d=[];apply ur.1;omega
   rw [adW (n:=x7) (by rw [<-hd];omega) (by rw [<-hd];exact hx)];apply Br.mk<;>intro h3
   ·have h3:=of_decide_eq_true h3;rw [if_pos h3,wI];exact ⟨by rw [Int.zero_sub],x8⟩
   ·have h3:=of_decide_eq_false h3;rw [if_neg h3];exact ⟨rfl,x8⟩
def av6(n v:Int)(hv:v=48+((n.tmod 10).natAbs:Int)):strOfNums [v]=⟨#[iG.nG n]⟩:=by subst hv;unfold strOfNums iG.nG;simp only [eH,List.map_nil];congr 3
def acY(l:List UInt8)(b:UInt8):(⟨l.toArray⟩:ByteArray)++⟨#[b]⟩=⟨(l++ [b]).toArray⟩:=by apply Lr;rw [acZ]
def Pn{f:Nat}{n:Int}(h:n.natAbs<10 ^ f):(vX f n).length<=f+1:=by rw [ac0 f n h,cj];have:=Pp f n.natAbs;split<;>simp<;>omega
def WW(f:Nat)(n:Int)(w:World)(hi:cH n)(cX:(vX f (n.tdiv 10)).length<=20)
  (rec:¬(-10<n/\n<10)->∀w0,Ext w w0->ed 13 #[(n.tdiv 10)] w0 (Value.string ⟨(vX f (n.tdiv 10)).toArray⟩)):
  ed 13 #[n] w (Value.string ⟨(vX (f+1) n).toArray⟩):=by
 apply IF.vc;have hm1:n.tmod 10<10:=Int.tmod_lt_of_pos n au;have yA: -10<n.tmod 10:=Int.lt_tmod_of_pos n au;have hq:cH (n.tdiv 10):=by have:=Ls n;unfold cH at*;omega
 have ho:∀t:List UInt8,t.length<=20->((((⟨t.toArray⟩:ByteArray).size+(⟨#[iG.nG n]⟩:ByteArray).size:Nat):Nat):Int)<=IntKind.i64.max:=by
  intro t ht;have e1:(⟨t.toArray⟩:ByteArray).size=t.length:=rfl;have e2:(⟨#[iG.nG n]⟩:ByteArray).size=1:=rfl;have e3:IntKind.i64.max=9223372036854775807:=by decide
  rw [e1,e2,e3];omega
 have leaf:∀w0,Ext w w0->w.heap.size<w0->(¬(-10<n/\n<10))->ab 13 #[(aC (n.tdiv 10))] w0 (λe w2=>∃(t3:ByteArray),e=Value.string t3/\w2.heap[w.heap.size]? =w0.heap[w.heap.size]?/\
   (((t3).size+((⟨#[iG.nG n]⟩:ByteArray)).size:Nat):Int)<=IntKind.i64.max/\(Ending.returned (.string (t3++⟨#[iG.nG n]⟩))=Value.string ⟨(vX (f+1) n).toArray⟩/\Ext w w2)):=by
  intro w0 x0 hs hn;rw [aL hq];refine (rec hn w0 x0).bf λw2 x2=> ?_
  refine ⟨_,rfl,x2.heap hs,ho _ cX,?_,x0.tr x2⟩;rw [acY];conv=>rhs;unfold vX
  rw [if_neg hn]
 have main:∀(v:Int),v=48+((n.tmod 10).natAbs:Int)->∀w0:World,w0=w.alloc (.cells #[.int .u8 v] 5)->
   ∃l1:List Int,l1.length=1/\ah w0 (aB w.heap.size) 0 (l1.map (Value.int .u8))/\strOfNums l1=⟨#[iG.nG n]⟩/\Ext w w0/\w.heap.size<w0:=by
  intro v hv w0 e0;have hr:Row w0 w [.int .u8 v] 5:=by rw [e0];exact Row.new _ _ _
  exact ⟨[v],rfl,hr.bH (o:=0) (λj _=>by rw [eF];rfl),av6 n v hv,by rw [e0];exact Ext.al _ _,hr.lt⟩
 have n2: -10<n->n<10->n<0->(⟨#[45]⟩:ByteArray)++⟨#[iG.nG n]⟩=⟨(vX (f+1) n).toArray⟩:=by intro a b c;unfold vX;rw [if_pos ⟨a,b⟩,if_pos c];exact acY [45] _
 have n1: -10<n->n<10->¬n<0->(⟨#[iG.nG n]⟩:ByteArray)=⟨(vX (f+1) n).toArray⟩:=by intro a b c;unfold vX;rw [if_pos ⟨a,b⟩,if_neg c]
 apply Br.mk<;>intro c
 ·have c:=of_decide_eq_true c;have ev:qH (aC (48+(aC (0-(Int.tmod n 10)))))=48+((n.tmod 10).natAbs:Int):=by rw [aL (n:=0-n.tmod 10) inO,wI,wrap_u8];omega
  intro w0 e0;obtain ⟨l1,g1,g2,g3,x0,hs⟩:=main _ ev w0 e0;refine ⟨l1,g1,g2,?_⟩;rw [g3];refine Br.mk (λa=>Br.mk (λb=>Br.mk (λd=> ?_) (λd=> ?_)) (λb=> ?_)) (λa=> ?_)
  ·exact ⟨ho [45] au,by rw [n2 (of_decide_eq_true a) (of_decide_eq_true b) (of_decide_eq_true d)],x0⟩
  ·exact ⟨by rw [<-n1 (of_decide_eq_true a) (of_decide_eq_true b) (of_decide_eq_false d)],x0⟩
  ·exact leaf w0 x0 hs (by have:=of_decide_eq_false b;omega)
  ·exact leaf w0 x0 hs (by have:=of_decide_eq_false a;omega)
 ·have c:=of_decide_eq_false c;have ev:qH (aC (48+(Int.tmod n 10)))=48+((n.tmod 10).natAbs:Int):=by rw [wI,wrap_u8];omega
  intro w0 e0;obtain ⟨l1,g1,g2,g3,x0,hs⟩:=main _ ev w0 e0;refine ⟨l1,g1,g2,?_⟩;rw [g3];refine Br.mk (λa=>Br.mk (λb=>Br.mk (λd=> ?_) (λd=> ?_)) (λb=> ?_)) (λa=> ?_)
  ·exact ⟨ho [45] au,by rw [n2 (of_decide_eq_true a) (of_decide_eq_true b) (of_decide_eq_true d)],x0⟩
  ·exact ⟨by rw [<-n1 (of_decide_eq_true a) (of_decide_eq_true b) (of_decide_eq_false d)],x0⟩
  ·exact leaf w0 x0 hs (by have:=of_decide_eq_false b;omega)
  ·exact leaf w0 x0 hs (by have:=of_decide_eq_false a;omega)
def Lt:∀(f:Nat)(n:Int)(w:World),f<=18->n.natAbs<10 ^(f+1)->cH n->ed 13 #[n] w (Value.string ⟨(vX (f+1) n).toArray⟩):=by
 intro f
 induction f with
 |zero=>
  intro n w hf h hi;exact WW 0 n w hi (by show 0<=20;omega) (λhn=>absurd ⟨aa,aa⟩ hn)
 |succ f ih=>
  intro n w hf h hi;have h1:=Ls n;have h2:(n.tdiv 10).natAbs<10 ^(f+1):=by rw [h1];rw [Nat.pow_succ] at h;omega
  exact WW (f+1) n w hi (cV (Pn h2) aa) (λ_ w0 _=>ih _ w0 aa h2 (by unfold cH at*;omega))
end Go.Proofs.YtjcnjlaelhdjeaaGreatDoor
