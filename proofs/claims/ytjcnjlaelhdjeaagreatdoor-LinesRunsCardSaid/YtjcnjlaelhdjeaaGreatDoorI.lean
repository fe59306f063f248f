import Derived.Test.YtjcnjlaelhdjeaaGreatDoorH
import Derived.Test.YtjcnjlaelhdjeaaGreatDoorD
set_option linter.all false
namespace Go.Proofs.YtjcnjlaelhdjeaaGreatDoor
open Go Go.Vc Go.RowKit Go.Proofs Go.cC Go.aO Go.Code Go.fi Go.fL Go.iZ
set_option maxRecDepth 100000
set_option maxHeartbeats 8000000
def iD(s:S3):Nat->Sd
 |0=>s.1
 |1=>s.2.1
 |_=>s.2.2
def Kw(s:S3)(i:Nat)(x:Sd):S3:=
 match i with
 |0=>(x,s.2.1,s.2.2)
 |1=>(s.1,x,s.2.2)
 |_=>(s.1,s.2.1,x)
def eO(s:S3):Nat->Nat
 |0=>0
 |k+1=>if RT (iD s k) (iD s (eO s k))=true then k else eO s k
def No(s:S3):∀k:Nat,eO s k<k\/eO s k=0
 |0=> .inr rfl
 |k+1=>by
  unfold eO
  have:=No s k
  split<;>omega
def at3(s:S3):eO s 3=0\/eO s 3=1\/eO s 3=2:=by have:=No s 3;omega
abbrev Hi:=Ce × Int × Int
def nbN(c:Ce):Nat->Ce
 |0=>(c.1-1,c.2.1,c.2.2)
 |1=>(c.1+1,c.2.1,c.2.2)
 |2=>(c.1,c.2.1-1,c.2.2)
 |3=>(c.1,c.2.1+1,c.2.2)
 |4=>(c.1,c.2.1,c.2.2-1)
 |_=>(c.1,c.2.1,c.2.2+1)
def ja(d:Ce)(s:S3)(h:Hi):Option (S3 × Hi):=
 if (iD s (eO s 3)).2=0 then none
 else some (Kw s (eO s 3) ((iD s (eO s 3)).1+65536,(iD s (eO s 3)).2),(nbN h.1 (if dK d (eO s 3)>0 then 2*eO s 3+1 else 2*eO s 3),(if dK d (eO s 3)>0 then 2*(eO s 3:Int) else 2*(eO s 3:Int)+1),(iD s (eO s 3)).1*65536 /(iD s (eO s 3)).2))
def goK(d c0:Ce)(r:Int):Nat->S3->Hi->List Hi
 |0,_,_=> []
 |n+1,s,h=>if mL c0 h.1 r=true then h::(match ja d s h with|none=> []|some q=>goK d c0 r n q.1 q.2) else []
def ya(x:Int):Int:=max x (-x)
def Np(k:Nat)(x:Sd)(d o:Int):Prop:=x.2=ya d/\(0<=x.1/\x.1<=65536*(k+1))/\(0<d->0<=o)/\(d<=0->o<=0)
def wS(d c0:Ce)(k:Nat)(s:S3)(c:Ce):Prop:=
 (Np k s.1 d.1 (c.1-c0.1)/\Np k s.2.1 d.2.1 (c.2.1-c0.2.1)/\Np k s.2.2 d.2.2 (c.2.2-c0.2.2))/\ya (c.1-c0.1)+ya (c.2.1-c0.2.1)+ya (c.2.2-c0.2.2)=k
def Rj{d c0:Ce}{k:Nat}{s:S3}{h:Hi}(hr:wS d c0 k s h.1){q:S3 × Hi}(hq:ja d s h=some q):wS d c0 (k+1) q.1 q.2.1:=by
 obtain ⟨⟨⟨h1,h2,h3,h4⟩,⟨g1,g2,g3,g4⟩,⟨f1,f2,f3,f4⟩⟩,hs⟩:=hr;obtain ⟨⟨s1,s2⟩,⟨t1,t2⟩,⟨u1,u2⟩⟩:=s;obtain ⟨⟨cx,cy,cz⟩,face,time⟩:=h;unfold ja at hq;split at hq
 ·cases hq
 rename_i fA;injection hq with hq;subst hq;rcases at3 ((s1,s2),(t1,t2),(u1,u2)) with e|e|e
 ·rw [e] at fA ⊢;have a0:dK d ((0:Nat):Int)=d.1:=rfl;rw [a0];simp only [iD,Kw] at fA h1 h2 h3 h4 g1 g2 g3 g4 f1 f2 f3 f4 hs ⊢;unfold wS Np ya;unfold ya at h1 g1 f1 hs;split
  ·show (_/\_)/\_;simp only [nbN];omega
  ·show (_/\_)/\_;simp only [nbN];omega
 ·rw [e] at fA ⊢;have a0:dK d ((1:Nat):Int)=d.2.1:=rfl;rw [a0];simp only [iD,Kw] at fA h1 h2 h3 h4 g1 g2 g3 g4 f1 f2 f3 f4 hs ⊢;unfold wS Np ya;unfold ya at h1 g1 f1 hs;split
  ·simp only [nbN];omega
  ·simp only [nbN];omega
 ·rw [e] at fA ⊢;have a0:dK d ((2:Nat):Int)=d.2.2:=rfl;rw [a0];simp only [iD,Kw] at fA h1 h2 h3 h4 g1 g2 g3 g4 f1 f2 f3 f4 hs ⊢;unfold wS Np ya;unfold ya at h1 g1 f1 hs;split
  ·simp only [nbN];omega
  ·simp only [nbN];omega
def aat{d c0 c:Ce}{k:Nat}{s:S3}{r:Int}(hr:wS d c0 k s c)(h0:(-2000000000<=c0.1/\c0.1<=2000000000)/\(-2000000000<=c0.2.1/\c0.2.1<=2000000000)/\-2000000000<=c0.2.2/\c0.2.2<=2000000000)(hk:k<=1000)(hw:mL c0 c r=true):(k:Int)<=3*r:=by obtain ⟨-,hs⟩:=hr;unfold ya at hs;unfold mL sZ at hw;simp only [gP,cL] at hw;rw [wI,wI,wI,wI,wI,wI] at hw;omega
abbrev hiV(h:Hi):Value:=.agg #[h.1.1,h.1.2.1,h.1.2.2,ai,h.2.1,h.2.2]
def lC(f d:Ce)(r:Int):List Hi:=goK d (bh f) r (3*r.toNat+2) (sd3 f d 3) (bh f,-1,0)
abbrev trX(f d:Ce)(r:Int):List (LV):=(lC f d r).map λh=> [hiV h]
abbrev aqQ(g:Nat):Value:=.func (.func 312) #[] #[g,.pointer (some ⟨g+1,0,none⟩),.pointer (some ⟨g+2,0,none⟩)]
def qd{w:World}{g:Nat}{s:S3}{E:TypeId}(hr:Row w g (Eh s) E){a:Nat}(ha:a=0\/a=1\/a=2):ah w (ab (aB g) ((a:Int).toNat*2)) 0 [.int .i64 (iD s a).1,.int .i64 (iD s a).2]:=by
 rw [aF,eK];rcases ha with rfl|rfl|rfl
 all_goals
  refine hr.bK λj hj=> ?_
  match j,hj with
  |0,_=>rfl
  |1,_=>rfl
def ldA{w:World}{g:Nat}{s:S3}{E:TypeId}(hr:Row w g (Eh s) E){a:Nat}(ha:a=0\/a=1\/a=2):Vc.ld w (ab (ab (aB g) ((a:Int).toNat*2)) 0)=some (.int .i64 (iD s a).1):=by rw [aF,aF,hr.ld];rcases ha with rfl|rfl|rfl<;>rfl
def ldB{w:World}{g:Nat}{s:S3}{E:TypeId}(hr:Row w g (Eh s) E){a:Nat}(ha:a=0\/a=1\/a=2):Vc.ld w (ab (ab (aB g) ((a:Int).toNat*2)) 1)=some (.int .i64 (iD s a).2):=by rw [aF,aF,hr.ld];rcases ha with rfl|rfl|rfl<;>rfl
def amb{w:World}{g:Nat}{s:S3}{E:TypeId}(hr:Row w g (Eh s) E){a:Nat}(ha:a=0\/a=1\/a=2)(x:Int):
  Wr w (ab (ab (aB g) ((a:Int).toNat*2)) 0) 1/\∀w',w'=Vc.bC w (ab (ab (aB g) ((a:Int).toNat*2)) 0) [x]->Row w' g (Eh (Kw s a (x,(iD s a).2))) E/\Mod (λi=>i=g) w w':=by
 have e:ab (ab (aB g) ((a:Int).toNat*2)) 0=ab (aB g) ((a:Int).toNat*2):=by rw [aF,aF];rfl
 rw [e];obtain ⟨p1,p2⟩:=hr.fF (j:=(a:Int).toNat*2) (v:=.int .i64 x) (by show _<6;omega) rfl;refine ⟨p1,λw' e'=> ?_⟩;obtain ⟨q1,q2⟩:=p2 w' e';refine ⟨?_,q2⟩;rcases ha with rfl|rfl|rfl<;>exact q1
def ta{w w':World}{g:Nat}{c:Array Value}(e:w'=w.setRow g c):Mod (λi=>i=g) w w':=by subst e;exact ⟨rfl,rfl,rfl,by rw [setRow_size];exact ak _,λi _ hn=>setRow_other _ _ _ _ hn⟩
def XN(c:Ce){j:Nat}(hj:j<6):((TJ c).drop ((j:Int).toNat*3)).take 3=eZ (nbN c j):=by
 have:j=0\/j=1\/j=2\/j=3\/j=4\/j=5:=by omega
 rcases this with rfl|rfl|rfl|rfl|rfl|rfl<;>rfl
def axd(d:Ce):dK d ((0:Nat):Int)=d.1/\dK d ((1:Nat):Int)=d.2.1/\dK d ((2:Nat):Int)=d.2.2:=⟨rfl,rfl,rfl⟩
def Rk{d c0 c:Ce}{k a:Nat}{s:S3}(hr:wS d c0 k s c)(ha:a=0\/a=1\/a=2):Np k (iD s a) (dK d a) (dK c a-dK c0 a):=by
 obtain ⟨⟨h1,h2,h3⟩,-⟩:=hr;rcases ha with rfl|rfl|rfl
 ·exact h1
 ·exact h2
 ·exact h3
def Kn(f d:Ce)(hd:∀i:Nat,i<3-> -1048576<=dK d i/\dK d i<=1048576):wS d (bh f) 0 (sd3 f d 3) (bh f):=by
 have h0:=hd 0 aw;have h1:=hd 1 aw;have h2:=hd 2 aw;obtain ⟨a0,a1,a2⟩:=axd d;rw [a0] at h0;rw [a1] at h1;rw [a2] at h2;have key:∀(i:Int)(q:Int),dK d i=q-> -1048576<=q/\q<=1048576->Np 0 (yH f d i) q 0:=λi q hq hb=>by
  have hf:0<=uR (dK f i)/\uR (dK f i)<65536:=by unfold uR;omega
  unfold yH Np ya;rw [hq];split
  ·rw [wI];simp only;omega
  ·rw [wI];simp only;omega
 refine ⟨⟨?_,?_,?_⟩,?_⟩
 ·rw [Int.sub_self];exact key 0 d.1 a0 h0
 ·rw [Int.sub_self];exact key 1 d.2.1 a1 h1
 ·rw [Int.sub_self];exact key 2 d.2.2 a2 h2
 ·rw [Int.sub_self,Int.sub_self,Int.sub_self];rfl
def VE(f d:Ce)(r:Int)(hf:(-1900000000<=(bh f).1/\(bh f).1<=1900000000)/\(-1900000000<=(bh f).2.1/\(bh f).2.1<=1900000000)/\-1900000000<=(bh f).2.2/\(bh f).2.2<=1900000000)(hd:∀i:Nat,i<3-> -1048576<=dK d i/\dK d i<=1048576)(hr:0<=r/\r<=64)
  (g:Nat)(W0:World)(h0:Row W0 g (eZ f) iz)(h1:Row W0 (g+1) (eZ d) iz)(h2:Row W0 (g+2) [r] 3):
  Iter Tryz.prog (aqQ g) W0 (λi=>i=g\/i=g+1\/i=g+2) (trX f d r):=by
 refine ⟨⟨_,_,_,rfl,by kernel_rfl⟩,?_⟩;intro y B J Jx F0 W hB hsJ hsX yJ hRd hround hJ0;refine bV (by kernel_rfl) (by rfl) ?_;apply QF.vc;have q0:=h0.same (hRd g (.inl rfl)).2.2;have q1:=h1.same (hRd (g+1) (.inr (.inl rfl))).2.2;have q2:=h2.same (hRd (g+2) (.inr (.inr rfl))).2.2;refine ⟨_,_,_,Lo.wv q0,_,_,_,Lo.wv q1,(VF f d W).bj λw6 x6=> ?_⟩;have z6:=x6.size;refine ⟨_,_,_,_,_,_,rfl,λbw Dv=> ?_⟩;have z13:=zA Dv;have r13:Row bw w6 (Eh ((0,0),(0,0),(0,0))) TK:=Row.nw Dv;refine ⟨⟨rfl,r13.wr bo⟩,λcu yw=> ?_⟩;rw [r13.bC (vs:=Eh (sd3 f d 3)) bo (aeC (sd3 f d 3)),dE bo] at yw;have r14:Row cu w6 (Eh (sd3 f d 3)) TK:=r13.st yw;have z14:=zR yw;have cY:Ext w6 cu:=(aV Dv).af yw (ak _);refine ⟨_,_,_,Lo.wv (q0.ext (x6.tr cY)),(zG f cu).bj λdN de=> ?_⟩;have z18:=de.size;refine ⟨_,_,_,rfl,λdt Du je e23 iH Jf dL OM=> ?_⟩;have z22:=zA Du;have z23:=zR e23;have z24:=zA Jf;have z25:=zR OM;have gM:Ext dN dL:=(((aV Du).af e23 (ak _)).ba Jf).af OM aa;have xW:=x6.tr (cY.tr (de.tr gM));obtain ⟨K,hK⟩:∃K:Nat->Prop,K=λi=>i=g\/i=g+1\/i=g+2\/i=w6.heap.size\/i=dN.heap.size\/i=je.heap.size:=⟨_,rfl⟩
 obtain ⟨P,hP⟩:∃P:Nat->S3->wPp,P=λk s wr=>(∃F,J k F wr/\∀i,K i->¬F i/\i<wr.heap.size)/\(Row wr g (eZ f) iz/\Row wr (g+1) (eZ d) iz/\Row wr (g+2) [r] 3)/\Row wr w6 (Eh s) TK/\dL.heap.size<=wr:=⟨_,rfl⟩
 have ext:∀{k:Nat} {s:S3} {wr wr':World},P k s wr->Ext wr wr'->P k s wr':=λ{k s wr wr'} h x=>by rw [hP] at h ⊢;obtain ⟨⟨F,hJ,hk⟩,⟨a0,a1,a2⟩,a3,a4⟩:=h;exact ⟨⟨F,hsJ _ _ _ _ hJ (Below.mono x aa) λi hi=>x.heap (yJ _ _ _ hJ i hi),λi hi=>⟨(hk i hi).1,gA (hk i hi).2 x.size⟩⟩,⟨a0.ext x,a1.ext x,a2.ext x⟩,a3.ext x,c8 a4 x.size⟩
 have glt:g+2<W.heap.size:=q2.lt;have uj:∀{k:Nat} {s s':S3} {wr wr':World} {b:Nat},P k s wr->Mod (λi=>i=b) wr wr'->(b=w6.heap.size\/b=dN.heap.size)->Row wr' w6 (Eh s') TK->P k s' wr':=λ{k s s' wr wr' b} h hm hb dh=>by rw [hP] at h ⊢;obtain ⟨⟨F,hJ,hk⟩,⟨a0,a1,a2⟩,a3,a4⟩:=h;have KN:¬F b:=(hk b (by rw [hK];rcases hb with rfl|rfl<;>simp)).1;refine ⟨⟨F,hsJ _ _ _ _ hJ (hm.below aa λi hi=>by rcases hb with rfl|rfl<;>omega) λi hi=>hm.same i (yJ _ _ _ hJ i hi) λq=>KN (by rw [<-q];exact hi),λi hi=>⟨(hk i hi).1,gA (hk i hi).2 hm.size⟩⟩,⟨a0.same (hm.same _ a0.lt aa),a1.same (hm.same _ a1.lt aa),a2.same (hm.same _ a2.lt aa)⟩,dh,c8 a4 hm.size⟩
 have init:P 0 (sd3 f d 3) dL:=by
  rw [hP];refine ⟨⟨F0,hsJ _ _ _ _ hJ0 (Below.mono xW aa) λi hi=>xW.heap (yJ _ _ _ hJ0 i hi),λi hi=> ?_⟩,⟨q0.ext xW,q1.ext xW,q2.ext xW⟩,r14.ext (de.tr gM),ak _⟩;rw [hK] at hi;have hF:∀i,F0 i->i<W.heap.size:=λi hi=>yJ _ _ _ hJ0 i hi
  rcases hi with hi|hi|hi|hi|hi|hi
  ·exact ⟨(hRd i (.inl hi)).1,aa⟩
  ·exact ⟨(hRd i (.inr (.inl hi))).1,aa⟩
  ·exact ⟨(hRd i (.inr (.inr hi))).1,aa⟩
  ·exact ⟨λq=>by have:=hF i q;omega,aa⟩
  ·exact ⟨λq=>by have:=hF i q;omega,aa⟩
  ·exact ⟨λq=>by have:=hF i q;omega,aa⟩
 have round:∀{k:Nat} {s:S3} {wr:World} {x:LV},(trX f d r)[k]? =some x->P k s wr->bu Tryz.prog y x wr λe w'=>((e=true/\P (k+1) s w')\/(e=false/\∃F',Jx () F' w'))/\w'.heap[dN.heap.size]? =wr.heap[dN.heap.size]?/\w'.heap[je.heap.size]? =wr.heap[je.heap.size]? :=λ{k s wr x} hx h=>by
  rw [hP] at h ⊢;obtain ⟨⟨F,hJ,hk⟩,⟨a0,a1,a2⟩,a3,a4⟩:=h;have kk:∀i,(i=g\/i=g+1\/i=g+2\/i=w6.heap.size\/i=dN.heap.size\/i=je.heap.size)->K i:=λi hi=>by rw [hK];exact hi
  refine bJ (hround _ _ _ _ hx hJ) ?_;rintro e w' (⟨rfl,F2,Wx,gy⟩|⟨rfl,F2,Wx,gy⟩)
  ·have same:∀i,K i->w'.heap[i]? =wr.heap[i]? :=λi hi=>gy.same i (hk i hi).2 (hk i hi).1
   refine ⟨.inl ⟨rfl,⟨F2,Wx,λi hi=>⟨λhf=> ?_,gA (hk i hi).2 gy.size⟩⟩,⟨a0.same (same _ (kk _ bo)),a1.same (same _ (kk _ bo)),a2.same (same _ (kk _ bo))⟩,a3.same (same _ (kk _ bo)),c8 a4 gy.size⟩,same _ (kk _ bo),same _ (kk _ bo)⟩;rcases gy.sub i hf with hf|hf
   ·exact (hk i hi).1 hf
   ·have:=(hk i hi).2;omega
  ·have same:∀i,K i->w'.heap[i]? =wr.heap[i]? :=λi hi=>gy.same i (hk i hi).2 (hk i hi).1
   exact ⟨.inr ⟨rfl,F2,Wx⟩,same _ (kk _ bo),same _ (kk _ bo)⟩
 have fin:∀{s:S3} {wr:World},P (trX f d r).length s wr->∃F',J (trX f d r).length F' wr:=λh=>by rw [hP] at h;obtain ⟨⟨F,hJ,-⟩,-⟩:=h;exact ⟨F,hJ⟩
 have rowL:∀{k:Nat} {s:S3} {wr:World},P k s wr->Row wr w6 (Eh s) TK:=λh=>by rw [hP] at h;exact h.2.2.1
 have rowD:∀{k:Nat} {s:S3} {wr:World},P k s wr->Row wr (g+1) (eZ d) iz:=λh=>by rw [hP] at h;exact h.2.1.2.1
 have rowR:∀{k:Nat} {s:S3} {wr:World},P k s wr->Row wr (g+2) [r] 3:=λh=>by rw [hP] at h;exact h.2.1.2.2
 have hz:∀{k:Nat} {s:S3} {wr:World},P k s wr->dL.heap.size<=wr:=λh=>by rw [hP] at h;exact h.2.2.2
 have hxs:trX f d r=(goK d (bh f) r (3*r.toNat+2) (sd3 f d 3) (bh f,-1,0)).map λh=> [hiV h]:=rfl
 generalize trX f d r=xs at*;have hbegin:=Kn f d hd;generalize Eo:bh f=c0 at*;refine ⟨λn a b c z fc tm wr=>∃(k:Nat)(s:S3),P k s wr/\k+n=3*r.toNat+2/\wS d c0 k s (a,b,c)/\z=0/\∃pre:List (LV),pre.length=k/\xs=pre++(goK d c0 r n s ((a,b,c),fc,tm)).map λh=> [hiV h],⟨3*r.toNat+2,rfl,0,sd3 f d 3,init,aa,hbegin,rfl,[],rfl,hxs⟩,?_⟩;rintro n us a b c z fc tm wr ⟨k,s,hp,X2,hro,rfl,pre,Ob,hx⟩;have zr:=hz hp;refine ⟨_,(rowR hp).at 0 rfl,(Ns c0 (a,b,c) r wr).bj λtN nI=> ?_⟩;have S9:=ext hp nI;refine ⟨_,rfl,nI.heap aa,nI.heap aa,Br.mk (λhw=> ?_) (λhw=> ?_)⟩
 ·have HV:=aat hro aa aa hw;obtain ⟨n,rfl⟩:∃n',n=n'+1:=⟨n-1,aa⟩;have hgo:goK d c0 r (n+1) s ((a,b,c),fc,tm)=((a,b,c),fc,tm)::(match ja d s ((a,b,c),fc,tm) with|none=> []|some q=>goK d c0 r n q.1 q.2):=by
   show (if mL c0 (a,b,c) r=true then _ else _)=_;rw [if_pos hw]
   all_goals (cases ja d s ((a,b,c),fc,tm)<;>rfl)
  rw [hgo] at hx;have hxk:xs[k]? =some [hiV ((a,b,c),fc,tm)]:=by rw [hx,pY aa,Ob,Nat.sub_self];rfl
  refine bJ (round hxk S9) ?_;rintro e nV ⟨hcase,k1,k2⟩;rcases hcase with ⟨rfl,atu⟩|⟨rfl,hJx⟩
  ·refine ⟨true,rfl,k1,k2,Br.mk (λq=>by cases q) (λ_=> ?_)⟩;have z40:=hz atu;refine ⟨λm i at_ wr=>∃j:Nat,i=j/\j+m=3/\at_=eO s j/\P (k+1) s wr,⟨3,rfl,rfl,0,rfl,rfl,rfl,atu⟩,?_⟩;rintro m us i at_ X3 ⟨j,rfl,hjm,rfl,Ww⟩;have z2:=hz Ww;have haj:eO s j<j\/eO s j=0:=No s j;apply Br.mk<;>intro hc
   ·have hc:=fC hc;have hj3:j=0\/j=1\/j=2:=by omega
    have Oe:eO s j=0\/eO s j=1\/eO s j=2:=by omega
    have hpd:=ext Ww (Ext.dr X3);have zd:=oa X3;refine ⟨aa,aa,_,_,qd (rowL hpd) hj3,aa,aa,_,_,qd (rowL hpd) Oe,(RU (iD s j) (iD s (eO s j)) X3.drew).bj λw53 nZ=> ?_⟩;have atv:=ext hpd nZ;have wk:=nJ (j:=j);refine ⟨_,rfl,nZ.heap aa,nZ.heap aa,Br.mk (λq=>⟨m-1,aa,rfl,rfl,j+1,wk,aa,?_,atv⟩) (λq=>⟨m-1,aa,rfl,rfl,j+1,wk,aa,?_,atv⟩)⟩
    ·show ((j:Nat):Int)=((if RT (iD s j) (iD s (eO s j))=true then j else eO s j:Nat):Int);rw [if_pos q]
    ·show ((eO s j:Nat):Int)=((if RT (iD s j) (iD s (eO s j))=true then j else eO s j:Nat):Int);rw [if_neg (by rw [q];decide)]
   ·have hc:=fC hc;have:j=3:=by omega
    subst this;have Oe:=at3 s;have hside:=Rk hro Oe;have hnx:ja d s ((a,b,c),fc,tm)=if (iD s (eO s 3)).2=0 then none else some (Kw s (eO s 3) ((iD s (eO s 3)).1+65536,(iD s (eO s 3)).2),(nbN (a,b,c) (if dK d (eO s 3)>0 then 2*eO s 3+1 else 2*eO s 3),(if dK d (eO s 3)>0 then 2*(eO s 3:Int) else 2*(eO s 3:Int)+1),(iD s (eO s 3)).1*65536 /(iD s (eO s 3)).2)):=rfl;have abH:=λq (h:ja d s ((a,b,c),fc,tm)=some q)=>Rj hro h
    have hdd:=hd (eO s 3) aa;generalize eO s 3=A at*;refine ⟨aa,aa,_,ldB (rowL Ww) Oe,Br.mk (λq=> ?_) (λq=> ?_)⟩
    ·have q:=fC q;rw [hnx,if_pos q] at hx;have:xs.length=k+1:=by rw [hx];simp [Ob]
     rw [<-this] at Ww;exact ⟨⟨_,rfl⟩,.inl (fin Ww)⟩
    ·have q:=fC q;rw [if_neg q] at hnx;rw [hnx] at hx;have abH:=abH _ hnx;obtain ⟨s1,s2,s3,s4⟩:=hside;have s2':0<=(iD s A).1/\(iD s A).1<=20000000:=by omega
     have hsp:0<(iD s A).2/\(iD s A).2<=1048576:=by unfold ya at s1;omega
     have hpd:=ext Ww (Ext.dr X3);have zd:=oa X3;refine ⟨aa,aa,_,ldA (rowL hpd) Oe,aa,aa,_,ldB (rowL hpd) Oe,(aeD _ _ aa hsp X3.drew).bj λCD KP=> ?_⟩;have aj2:=ext hpd KP;have z58:=hz aj2;obtain ⟨p1,p2⟩:=amb (rowL aj2) Oe (aC ((iD s A).1+65536));refine ⟨_,_,rfl,KP.heap aa,KP.heap aa,aa,aa,_,ldA (rowL aj2) Oe,aa,aa,⟨rfl,p1⟩,?_,?_,λkz e62=> ?_⟩
     ·rw [cB];exact qE aa
     ·rw [cB];exact qE aa
     obtain ⟨q1,q2⟩:=p2 kz e62;rw [aK (n:=(iD s A).1+65536) inO] at q1;have ao5:=uj aj2 q2 (.inl rfl) q1;have z62:=hz ao5;refine ⟨_,_,_,Lo.wv (rowD ao5),(c9 d A kz).bj λyy rO=> ?_⟩;have ao6:=ext ao5 rO;have z66:=hz ao6;have hwide:fo (a,b,c):=by unfold mL sZ at hw;obtain ⟨-,H6⟩:=hro;unfold ya at H6;unfold fo;simp only at H6 ⊢;omega
     have w1:aC (2*(A:Int))=2*(A:Int):=wI;have w2:aC (2*(A:Int)+1)=((2*A+1:Nat):Int):=by rw [wI];omega
     have w3:aC (2*(A:Int)+0)=((2*A:Nat):Int):=by rw [wI];omega
     have w4:aC (((2*A+1:Nat):Int)-1)=2*(A:Int):=by rw [wI];omega
     have w5:aC (((2*A+1:Nat):Int)-0)=2*(A:Int)+1:=by rw [wI];omega
     rw [w1,w2,w3,w4,w5];have hxx:∀y:List Hi,xs=pre++(((a,b,c),fc,tm)::y).map (λh=> [hiV h])->xs=(pre++ [[hiV ((a,b,c),fc,tm)]])++y.map λh=> [hiV h]:=λy h=>by rw [h];simp
     refine ⟨_,rfl,rO.heap aa,rO.heap aa,Br.mk (λhq=>(jA (a,b,c) hwide yy).mono ?_) (λhq=>(jA (a,b,c) hwide yy).mono ?_)⟩
     ·have hq:=fC hq;rw [if_pos hq,if_pos hq] at hx abH;rintro e OO ⟨rfl,yz⟩;have Ou:=ext ao6 yz;have z68:=hz Ou;refine ⟨_,_,_,_,_,_,_,_,_,_,_,_,_,_,_,_,_,_,rfl,yz.heap aa,yz.heap aa,⟨aa,aa⟩,_,_,_,XN (a,b,c) (j:=2*A+1) aa,λrL e90=> ?_⟩;have hm:=ta e90;refine ⟨n,aa,rfl,k+1,_,uj Ou hm (.inr rfl) ((rowL Ou).same (hm.same _ (rowL Ou).lt aa)),aa,abH,rfl,pre++ [[hiV ((a,b,c),fc,tm)]],by simp [Ob],hxx _ hx⟩
     ·have hq:=fC hq;rw [if_neg hq,if_neg hq] at hx abH;rintro e OO ⟨rfl,yz⟩;have Ou:=ext ao6 yz;have z68:=hz Ou;refine ⟨_,_,_,_,_,_,_,_,_,_,_,_,_,_,_,_,_,_,rfl,yz.heap aa,yz.heap aa,⟨aa,aa⟩,_,_,_,XN (a,b,c) (j:=2*A) aa,λrL e90=> ?_⟩;have hm:=ta e90;refine ⟨n,aa,rfl,k+1,_,uj Ou hm (.inr rfl) ((rowL Ou).same (hm.same _ (rowL Ou).lt aa)),aa,abH,rfl,pre++ [[hiV ((a,b,c),fc,tm)]],by simp [Ob],hxx _ hx⟩
  ·exact ⟨false,rfl,k1,k2,Br.mk (λ_=>⟨⟨_,rfl⟩,.inr hJx⟩) (λq=>by cases q)⟩
 ·have hgo:goK d c0 r n s ((a,b,c),fc,tm)=[]:=by
   cases n with
   |zero=>rfl
   |succ n=>
    show (if mL c0 (a,b,c) r=true then _ else _)=_;rw [if_neg (by rw [hw];decide)]
  rw [hgo] at hx;have:xs.length=k:=by rw [hx];simp [Ob]
  rw [<-this] at S9;exact ⟨⟨_,rfl⟩,.inl (fin S9)⟩
def XS{α:Type}(p:α->Bool):∀(l:List α)(n:Nat)(x:α),l[n]? =some x->(∀y ∈ l.take n,p y=false)->p x=true->l.find? p=some x
 | [],n,x,h,_,_=>by simp at h
 |a::l,0,x,h,_,hp=>by
  have h:a=x:=by simpa using h
  subst h;rw [List.find?_cons_of_pos hp]
 |a::l,n+1,x,h,hn,hp=>by have ha:p a=false:=hn a bo;rw [List.find?_cons_of_neg (by rw [ha];decide)];exact XS p l n x (by simpa using h) (λy hy=>hn y (by simp [hy])) hp
def nA(r:Int):Int:=min (max r 0) 64
def VL(f d:Ce)(r:Int)(w:World):ae 252 #[gg f,gg d,r] w λe w'=>e=(aqQ w)/\Row w' w (eZ (eP f)) iz/\Row w' (w.heap.size+1) (eZ (kf d)) iz/\Row w' (w.heap.size+2) [(nA r)] 3/\Ext w w':=by
 apply Zx.vc;intro w0 e0 w1 e1 w2 e2;have x0:=aV e0;have z0:=zA e0;have r0:Row w0 w (eZ f) iz:=Row.nw e0;have x1:=aV e1;have z1:=zA e1;have r1:Row w1 w0 (eZ d) iz:=Row.nw e1;have x2:=aV e2;have z2:=zA e2;have r2:Row w2 w1 [r] 3:=Row.nw e2;have xd:=Ext.dr w2;have zd:=oa w2;refine (aaC f w2.drew).bj λw3 x3=> ?_
 have z3:=x3.size;refine ⟨_,_,_,rfl,x3.heap aa,x3.heap aa,x3.heap aa,Lo.wv (r2.ext (xd.tr x3)),Lo.wv (r1.ext (x2.tr (xd.tr x3))),(aaD d w3).bj λw7 x7=> ?_⟩;have z7:=x7.size;have y7:=xd.tr (x3.tr x7);have r27:=r2.ext y7;refine ⟨_,_,_,rfl,x7.heap aa,x7.heap aa,x7.heap aa,Lo.wv r27,λbB yr=> ?_⟩;have r0':Row bB w (eZ (eP f)) iz:=by rw [yr];exact Row.set (r0.ext (x1.tr (x2.tr y7))) [_,_,_]
 have r1':Row bB w0 (eZ d) iz:=(r1.ext (x2.tr y7)).same (by rw [yr];exact setRow_other _ _ _ _ aa);have r2':Row bB w1 [r] 3:=r27.same (by rw [yr];exact setRow_other _ _ _ _ aa);have bR:Ext w bB:=(x0.tr (x1.tr (x2.tr y7))).af yr (ak _);refine ⟨Lo.wv r2',λbO uv=> ?_⟩;have s1:Row bO w0 (eZ (kf d)) iz:=by rw [uv];exact Row.set r1' [_,_,_]
 have s0:=r0'.so uv;have s2:=r2'.so uv;have cw:Ext w bO:=bR.af uv aa;refine ⟨Lo.wv s2,λbw Dv=> ?_⟩;have er:(if 64<(if 0>r then 0 else r) then 64 else (if 0>r then 0 else r))=nA r:=by
  unfold nA
  repeat' split
  all_goals omega
 rw [er] at Dv;have t2:Row bw w1 [(nA r)] 3:=s2.st Dv;have t0:=s0.so Dv;have t1:=s1.so Dv;rw [z0] at t1;rw [z1,z0] at t2;exact ⟨by rw [z1,z0],t0,t1,t2,cw.af Dv aa⟩
abbrev Rp:=Ce × Int × Int × Int
abbrev htV(h:Rp):Value:=.agg #[h.1.1,h.1.2.1,h.1.2.2,h.2.1,h.2.2.1,h.2.2.2]
def lA(V:Ce->Int)(f d:Ce)(r:Int):Rp × Bool:=
 match (lC (eP f) (kf d) (nA r)).find? (λh=> !mO (V h.1)) with
 |some h=>((h.1,V h.1,h.2.1,h.2.2),true)
 |none=>(((0,0,0),0,0,0),false)
def aa1{v:Value}{V:Ce->Int}{w:World}(hV:Tl v V w)(hv:kr v=[])(f d:Ce)(r:Int)(hf:(-1900000000<=(bh (eP f)).1/\(bh (eP f)).1<=1900000000)/\(-1900000000<=(bh (eP f)).2.1/\(bh (eP f)).2.1<=1900000000)/\-1900000000<=(bh (eP f)).2.2/\(bh (eP f)).2.2<=1900000000)
  (hok:∀h ∈ lC (eP f) (kf d) (nA r),qT h.1):
  eU 191 #[v,gg f,gg d,r] w (Value.tuple #[htV (lA V f d r).1,.bool (lA V f d r).2]):=by
 apply adE.vc;rw [hv,uw];intro w0 e0 w1 e1 w2 e2 w3 e3 w4 e4;have x0:=aV e0;have z0:=zA e0;have x1:=aV e1;have z1:=zA e1;have x2:=aV e2;have z2:=zA e2;have x3:=aV e3;have z3:=zA e3;have x4:=aV e4;have z4:=zA e4;have E9:=x0.tr (x1.tr (x2.tr (x3.tr x4)));refine (VL f d r w4).mono ?_;rintro e w5 ⟨rfl,t0,t1,t2,x5⟩;have z5:=x5.size;have l5:=t2.lt;have Yd:=E9.tr x5;have hdd:∀i:Nat,i<3-> -1048576<=dK (kf d) i/\dK (kf d) i<=1048576:=λi hi=>by
  have hc:∀n,-1048576<=wT n/\wT n<=1048576:=λn=>by unfold wT;omega
  have:i=0\/i=1\/i=2:=by omega
  rcases this with rfl|rfl|rfl<;>exact hc _
 have hrr:0<=nA r/\nA r<=64:=by unfold nA;omega
 have hcast:lA V f d r=match (lC (eP f) (kf d) (nA r)).find? (λh=> !mO (V h.1)) with
  |some h=>((h.1,V h.1,h.2.1,h.2.2),true)
  |none=>(((0,0,0),0,0,0),false):=rfl
 have last:∀{w6 w7:World},Mod (λi=>i=w2.heap.size\/i=w3.heap.size\/w5.heap.size<=i) w5 w6->Rec w5 w6 w7->Ext w w7:=λhm hr=>by
  have hx:=hm.ext Yd λi hi=>by have:=Yd.size;omega
  exact (Mod.pd hr).ext hx λi hi=>by have:=Yd.size;omega
 refine ⟨_,rfl,x5.heap aa,x5.heap aa,x5.heap aa,x5.heap aa,x5.heap aa,trX (eP f) (kf d) (nA r),λi=>i=w4.heap.size\/i=w4.heap.size+1\/i=w4.heap.size+2,λ_=>False,
  λn F a b c q s t bb w'=>(∀i,¬F i)/\(∀h ∈(lC (eP f) (kf d) (nA r)).take n,(!mO (V h.1))=false)/\Mod (λi=>w5.heap.size<=i) w5 w',
  λo F a b c q s t bb w'=>(∀i,¬F i)/\lA V f d r=(((a,b,c),q,s,t),bb)/\Mod (λi=>i=w2.heap.size\/i=w3.heap.size\/w5.heap.size<=i) w5 w',?_,?_,?_,λn F a b c q s t bb w' h i hi=>(h.1 i hi).elim,λo F a b c q s t bb w' h i hi=>(h.1 i hi).elim,λi hi=> ?_,λyI vw=> ?_,?_,?_,?_⟩
 ·intro x hx;obtain ⟨c,-,rfl⟩:=bf.1 hx;exact ⟨_,_,_,_,_,_,rfl⟩
 ·rintro n F a b c q s t bb cX dt ⟨h1,h2,h3⟩ kE -;exact ⟨h1,h2,h3.tr ⟨kE.os,kE.tape,kE.output,kE.size,λi hi hn=>kE.block i (C2 hn)⟩ λi hi=> .inl hi⟩
 ·rintro o F a b c q s t bb cX dt ⟨h1,h2,h3⟩ kE -;exact ⟨h1,h2,h3.tr ⟨kE.os,kE.tape,kE.output,kE.size,λi hi hn=>kE.block i (C2 hn)⟩ λi hi=> .inl (.inr (.inr hi))⟩
 ·exact ⟨aa,id,aa,aa,aa,aa,aa,trivial⟩
 ·exact ⟨VE _ _ _ hf hdd hrr _ yI (t0.same (vw.ext.block _ aa)) (t1.same (vw.ext.block _ aa)) (t2.same (vw.ext.block _ aa)),rfl,rfl,rfl,λi h=>h,λc hc=>by simp at hc,Mod.aq vw.ext⟩
 ·rintro n F us a0 b0 c0 q0 s0 t0' bb a b c q s t Bk hx hI CD e58 pR TU;have Ie:Ext Bk pR:=(aV e58).af TU (ak _);have z59:pR.heap.size=Bk.heap.size+1:=by rw [zR TU,zA e58]
  have z56:=hI.2.2.size;refine ⟨Ie,λpI fQ agh=> ?_⟩;obtain ⟨hF,lD,hM⟩:=agh;have zr:=fQ.size;obtain ⟨h,hh,hval⟩:∃h:Hi,(lC (eP f) (kf d) (nA r))[n]? =some h/\(a,b,c)=h.1/\q=0/\s=h.2.1/\t=h.2.2:=by
   rw [aZ] at hx
   cases hg:(lC (eP f) (kf d) (nA r))[n]? with
   |none=>rw [hg] at hx;cases hx
   |some h=>
    rw [hg] at hx;simp at hx;obtain ⟨g1,g2,g3,g4,g5,g6⟩:=hx;exact ⟨h,rfl,by rw [<-g1,<-g2,<-g3],g4.symm,g5.symm,g6.symm⟩
  obtain ⟨hc,rfl,rfl,rfl⟩:=hval;have pV:=aQ hh;have aA5:qT (a,b,c):=by rw [hc];exact hok h pV
  have z57:=hM.size;have ht:(lC (eP f) (kf d) (nA r)).take (n+1)=(lC (eP f) (kf d) (nA r)).take n++ [h]:=by rw [dq,hh];rfl
  obtain ⟨D,hD1,hD2⟩:=hV;refine bJ (hD2 pI (λi hi=> ?_) (a,b,c) aA5) ?_
  ·have:=hD1 i hi;have:=Yd.size;exact (hM.same i aa aa).trans (Yd.heap aa)
  rintro e nX ⟨rfl,rM⟩;have z60:=rM.size;refine ⟨_,rfl,rM.heap aa,rM.heap aa,rM.heap aa,rM.heap aa,rM.heap aa,rM.heap aa,(Dp (V (a,b,c)) nX).bj λkz aA6=> ?_⟩;subst aA6;have Tq:=hM.trans (Mod.aq rM);refine ⟨_,rfl,rfl,rfl,rfl,rfl,rfl,rfl,Br.mk (λhq=>λJs e64 OU e65 yy e66=> ?_) (λhq=> ?_)⟩
  ·have hq':(!mO (V h.1))=true:=by rw [<-hc];exact hq
   have hfd:=XS (λh:Hi=> !mO (V h.1)) _ n h hh lD hq';have hcast:lA V f d r=((h.1,V h.1,h.2.1,h.2.2),true):=by rw [hcast,hfd]
   have m1:=ta e64;have m2:=ta e65;have m3:=ta e66;have s1:=m1.size;have s2:=m2.size;have m:Mod (λi=>i=w2.heap.size\/i=w3.heap.size\/i=Bk.heap.size) kz yy:=((m1.mono λi _ h=> .inr (.inr h)).trans (m2.mono λi _ h=> .inl h)).trans (m3.mono λi _ h=> .inr (.inl h));refine ⟨rfl,λ_=>False,⟨rfl,rfl,rfl,λi h=>h,by rw [hcast,hc],(Tq.mono λi _ h=> .inr (.inr h)).trans (m.mono λi _ h=> ?_)⟩,?_⟩
   ·rcases h with h|h|h
    ·exact .inl h
    ·exact .inr (.inl h)
    ·exact .inr (.inr aa)
   ·have hm:=(Mod.aq (F:=λi=>i=w2.heap.size\/i=w3.heap.size\/i=Bk.heap.size) rM).trans m;refine ⟨λi hi=> ?_,hm.size,λi hi hn=>hm.same i hi λq=>hn ?_⟩
    ·rcases hi with h|h
     ·exact h.elim
     ·exact .inl (.inl (.inr h))
    ·rcases q with rfl|rfl|rfl
     ·exact .inl (.inr bo)
     ·exact .inl (.inr bo)
     ·exact .inr (ak _)
  ·have hq':(!mO (V h.1))=false:=by rw [<-hc];exact hq
   refine ⟨λ_=>False,⟨rfl,rfl,rfl,λi h=>h,λx hx=> ?_,Tq⟩,Step.late ⟨λi hi=> ?_,rM.size,λi hi _=>rM.block i hi⟩⟩
   ·rw [ht,dp] at hx;rcases hx with hx|hx
    ·exact lD x hx
    ·rw [gU.1 hx];exact hq'
   ·rcases hi with h|h
    ·exact h.elim
    ·exact .inl (.inr h)
 ·rintro F us a b c q s t bb Ic ⟨hF,lD,hM⟩ hD tg ajY Jj atX;have z99:=hM.size;rw [show (trX (eP f) (kf d) (nA r)).length=(lC (eP f) (kf d) (nA r)).length from aJ ..,kA] at lD;have hfd:(lC (eP f) (kf d) (nA r)).find? (λh=> !mO (V h.1))=none:=Qz.2 λx hx=>by rw [lD x hx];decide
  have hcast:lA V f d r=(((0,0,0),0,0,0),false):=by rw [hcast,hfd]
  have m1:=ta ajY;have m2:=ta atX;have s1:=m1.size;have m:=(hM.mono (F':=λi=>i=w2.heap.size\/i=w3.heap.size\/w5.heap.size<=i) λi _ h=> .inr (.inr h)).trans ((m1.mono λi _ h=> .inl h).trans (m2.mono λi _ h=> .inr (.inl h)));refine ⟨?_,λaoP fQ=> ?_⟩
  ·rw [<-hD,atX,setRow_other _ _ _ _ aa,ajY,setRow_other _ _ _ _ aa]
  ·rw [hcast];exact ⟨rfl,last m fQ⟩
 ·rintro F us a b c q s t bb Bc ⟨hF,hcv,hM⟩ hD;refine ⟨hD,λWp fQ=> ?_⟩;rw [hcv];exact ⟨rfl,last hM fQ⟩
abbrev uE:TypeId:=64
abbrev kc:TypeId:=103
abbrev cS:=eJ ×(Int × Int × Bool)
abbrev lCs:=List (Option cS)
abbrev Gb(x:cS):LV:=[.int .i64 x.1.au.1,.int .i64 x.1.au.2.1,.int .i64 x.1.au.2.2,.int .i64 x.1.speed.1,.int .i64 x.1.speed.2.1,.int .i64 x.1.speed.2.2,.int .i64 x.1.wd,.int .i64 x.1.ht,.bool x.1.fM,.int .i64 x.2.1,.int .i64 x.2.2.1,.bool x.2.2.2]
abbrev pA(a:Option Nat):Value:=.pointer (a.map λb=>⟨b,0,none⟩)
structure EL(w:World)(av:List (Option Nat))(L:lCs):Prop where
 n:av.length=16
 m:L.length=16
 s:∀(i a:Nat),av[i]? =some (some a)->∃x,L[i]? =some (some x)/\Row w a (Gb x) kc
 z:∀i:Nat,av[i]? =some none->L[i]? =some none
 d:∀(i j a:Nat),av[i]? =some (some a)->av[j]? =some (some a)->i=j
def EF(F:Nat->Prop)(w:World)(g s o t:Nat)(M:Sm)(occ:Value)(L:lCs):Prop:=
 ∃(Fs:Nat->Prop)(av:List (Option Nat)),Row w g (.pointer (aB s)::av.map pA) uE/\SF Fs w s o t M occ/\EL w av L/\F=λi=>i=g\/Fs i\/some i ∈ av
abbrev dQ(F:Nat->Prop)(w:World)(g s o t:Nat)(M:Sm)(occ:Value)(L:lCs)(w':World):Prop:=∃F',EF F' w' g s o t M occ L/\aI F F' w w'
def kM:(O5 uE/\uE≠Bq/\uE≠mW/\uE≠IJ/\uE≠Q.nR/\uE≠Q.cl/\uE≠si)/\(O5 kc/\kc≠Bq/\kc≠mW/\kc≠IJ/\kc≠Q.nR/\kc≠Q.cl/\kc≠si)/\uE≠kc:=by decide
def qI{av:List (Option Nat)}{a:Nat}(h:some a ∈ av):∃i:Nat,av[i]? =some (some a):=JM.1 h
section
variable {F F':Nat->Prop} {w w':World} {g s o t:Nat} {M M':Sm} {occ:Value} {L:lCs}
def EL.same{av:List (Option Nat)}(h:EL w av L)(hk:∀a,some a ∈ av->w'.heap[a]? =w.heap[a]?):EL w' av L:=
 ⟨h.n,h.m,λi a hi=>by obtain ⟨x,h1,h2⟩:=h.s i a hi;exact ⟨x,h1,h2.same (hk a (aQ hi))⟩,h.z,h.d⟩
def EL.lt{av:List (Option Nat)}(h:EL w av L){a:Nat}(ha:some a ∈ av):a<w:=by obtain ⟨i,hi⟩:=qI ha;obtain ⟨x,-,h2⟩:=h.s i a hi;exact h2.lt
def EF.lt(h:EF F w g s o t M occ L){i:Nat}(hi:F i):i<w:=by
 obtain ⟨Fs,av,h1,h2,h3,rfl⟩:=h;rcases hi with rfl|hi|hi
 ·exact h1.lt
 ·exact h2.lt hi
 ·exact h3.lt hi
def EF.same(h:EF F w g s o t M occ L)(hk:∀i,F i->w'.heap[i]? =w.heap[i]?):EF F w' g s o t M occ L:=by obtain ⟨Fs,av,h1,h2,h3,rfl⟩:=h;exact ⟨Fs,av,h1.same (hk _ (.inl rfl)),h2.same λi hi=>hk i (.inr (.inl hi)),h3.same λa ha=>hk a (.inr (.inr ha)),rfl⟩
def EF.ext(h:EF F w g s o t M occ L)(x:Ext w w'):EF F w' g s o t M occ L:=h.same λ_ hi=>x.heap (h.lt hi)
def EF.Is(h:EF F w g s o t M occ L):∃Fs,SF Fs w s o t M occ/\Vc.ld w (ab (aB g) 0)=some (.pointer (aB s))/\(∀i,Fs i->F i)/\∀{w':World} {M':Sm} {occ':Value},nm Fs w s o t M' occ' w'->dQ F w g s o t M' occ' L w':=by
 obtain ⟨Fs,av,h1,h2,h3,rfl⟩:=h;refine ⟨Fs,h2,h1.at 0 rfl,λi hi=> .inr (.inl hi),?_⟩;rintro w' M' occ' ⟨F',h',ht⟩;have ng:¬Fs g:=h2.qi h1 kM.1.1 kM.1.2.1 kM.1.2.2.1 kM.1.2.2.2.1 kM.1.2.2.2.2.1 kM.1.2.2.2.2.2.1 kM.1.2.2.2.2.2.2;have na:∀a,some a ∈ av->¬Fs a:=λa ha=>by obtain ⟨i,hi⟩:=qI ha;obtain ⟨x,-,hr⟩:=h3.s i a hi;exact h2.qi hr kM.2.1.1 kM.2.1.2.1 kM.2.1.2.2.1 kM.2.1.2.2.2.1 kM.2.1.2.2.2.2.1 kM.2.1.2.2.2.2.2.1 kM.2.1.2.2.2.2.2.2
 refine ⟨_,⟨F',av,ht.mod.row h1 ng,h',h3.same λa ha=>ht.mod.same a (h3.lt ha) (na a ha),rfl⟩,ht.mod.mono λi _ hi=> .inr (.inl hi),λi hi=> ?_⟩;rcases hi with hi|hi|hi
 ·exact .inl (.inl hi)
 ·exact (ht.sub i hi).imp (λq=> .inr (.inl q)) id
 ·exact .inl (.inr (.inr hi))
def EF.row(h:EF F w g s o t M occ L):∃av,Row w g (.pointer (aB s)::av.map pA) uE/\EL w av L/\F g/\(∀a,some a ∈ av->F a)/\∀{w':World} {av':List (Option Nat)} {L':lCs},Mod (λi=>i=g\/some i ∈ av) w w'->Row w' g (.pointer (aB s)::av'.map pA) uE->EL w' av' L'->(∀a,some a ∈ av'->some a ∈ av\/w.heap.size<=a)->dQ F w g s o t M occ L' w':=by
 obtain ⟨Fs,av,h1,h2,h3,rfl⟩:=h;refine ⟨av,h1,h3,.inl rfl,λa ha=> .inr (.inr ha),?_⟩;intro w' av' L' hm hr he dP;have ng:¬Fs g:=h2.qi h1 kM.1.1 kM.1.2.1 kM.1.2.2.1 kM.1.2.2.2.1 kM.1.2.2.2.2.1 kM.1.2.2.2.2.2.1 kM.1.2.2.2.2.2.2;have na:∀a,some a ∈ av->¬Fs a:=λa ha=>by obtain ⟨i,hi⟩:=qI ha;obtain ⟨x,-,hr⟩:=h3.s i a hi;exact h2.qi hr kM.2.1.1 kM.2.1.2.1 kM.2.1.2.2.1 kM.2.1.2.2.2.1 kM.2.1.2.2.2.2.1 kM.2.1.2.2.2.2.2.1 kM.2.1.2.2.2.2.2.2
 refine ⟨_,⟨Fs,av',hr,h2.same λi hi=>hm.same i (h2.lt hi) λq=> ?_,he,rfl⟩,hm.mono λi _ hi=>hi.elim .inl λq=> .inr (.inr q),λi hi=> ?_⟩
 ·rcases q with rfl|q
  ·exact ng hi
  ·exact na i q hi
 ·rcases hi with hi|hi|hi
  ·exact .inl (.inl hi)
  ·exact .inl (.inr (.inl hi))
  ·exact (dP i hi).imp (λq=> .inr (.inr q)) id
def EF.tl(h:EF F w g s o t M occ L):Tl (.func (.func 113) #[t] #[]) (jm M.T.2) w:=by obtain ⟨Fs,h1,-,-⟩:=h.Is;exact h1.tl
def mi(h:EF F w g s o t M occ L):kT 81 #[g] w (Value.func (.func 113) #[t] #[]):=by obtain ⟨Fs,h1,h2,-,-⟩:=h.Is;obtain ⟨Fw,hW,-,-⟩:=h1.world;apply xJ.vc;refine ⟨_,h2,(eN h1).gK ?_⟩;refine ⟨_,rfl,(o5 hW).gK ?_⟩;exact ⟨_,rfl,rfl,rfl⟩
def Qn(v:Ce):qT (bh v)/\Yq (pos (bh v)):=by have h:=vH v;unfold qT cT Yq Go.cC.pos;simp only;omega
abbrev BR(M:Sm)(b:eJ):Bool:=FA M.T.2 (bh b.au)
def C3(h:EF F w g s o t M occ L)(b:eJ):eU 79 #[g,IB b] w (Value.bool (BR M b)):=by
 apply vW.vc;intro w0 e0;have x0:Ext w w0.drew:=(aV e0).drew;have z0:w0.drew.heap.size=w.heap.size+1:=by show w0.heap.size=_;rw [e0];simp
 have r0:Row w0.drew w (pk b) DM:=by rw [e0];exact (Row.new w [_,_,_,_,_,_,_,_,_] _).ext (Ext.dr _)
 obtain ⟨Fs,h1,h2,-,-⟩:=(h.ext x0).Is;refine ⟨_,h2,(eN h1).bj λw2 hw=> ?_⟩;subst hw;refine ⟨_,rfl,rfl,ua r0 rfl rfl rfl,(zG b.au w0.drew).bj λw4 x4=> ?_⟩;obtain ⟨Fw,hW,-,-⟩:=(h1.ext x4).world;refine ⟨_,_,_,rfl,x4.heap aa,(CM hW (bh b.au) (Qn _).1 (Qn _).2).bj λw8 x8=> ?_⟩;have z4:=x4.size;exact ⟨_,rfl,x8.heap aa,rfl,x0.tr (x4.tr x8)⟩
end
def within(v:Ce)(m:Int):Bool:=decide (-m<=min (min v.1 v.2.1) v.2.2) && decide (max (max v.1 v.2.1) v.2.2<=m)
def eJ.may(b:eJ):Bool:=decide (2<=b.wd) &&(decide (b.wd<=131072) &&(decide (1<=b.ht) &&(decide (b.ht<=262144) &&(within b.au 70368744177664 && within b.speed 262144))))
def C4(v:Ce)(m:Int)(hm:0<=m/\m<=140737488355328)(w:World):eU 77 #[gg v,m] w (Value.bool (within v m)):=by
 apply Qo.vc;intro w0 e0;have x0:=aV e0;have e1:(if v.2.2<(if v.2.1<v.1 then v.2.1 else v.1) then v.2.2 else (if v.2.1<v.1 then v.2.1 else v.1))=min (min v.1 v.2.1) v.2.2:=by
  repeat' split
  all_goals omega
 have e2:(if v.2.2>(if v.2.1>v.1 then v.2.1 else v.1) then v.2.2 else (if v.2.1>v.1 then v.2.1 else v.1))=max (max v.1 v.2.1) v.2.2:=by
  repeat' split
  all_goals omega
 have e3:aC (0-m)= -m:=by rw [wI];omega
 rw [e1,e2,e3];unfold within;apply Br.mk<;>intro h
 ·have h:=fC h;exact ⟨by rw [decide_eq_true h,oZ],x0⟩
 ·have h:=fC h;exact ⟨by rw [decide_eq_false h,C5],x0⟩
def Qq(b:eJ)(w:World):eU 48 #[IB b] w (Value.bool b.may):=by
 apply adu.vc;intro w0 e0;have x0:=aV e0;have z0:=fE e0;unfold eJ.may;refine Br.mk (λh1=>Br.mk (λh2=>Br.mk (λh3=>Br.mk (λh4=>(C4 b.au _ aw w0).mono ?_) (λh4=> ?_)) (λh3=> ?_)) (λh2=> ?_)) (λh1=> ?_)
 ·rintro e w1 ⟨rfl,x1⟩;have z1:=x1.size;have h1:=fC h1;have h2:=fC h2;have h3:=fC h3;have h4:=fC h4;rw [decide_eq_true h1,decide_eq_true h2,decide_eq_true h3,decide_eq_true h4];refine ⟨_,rfl,x1.heap aa,Br.mk (λh5=>(C4 b.speed _ aw w1).mono ?_) (λh5=>⟨by rw [h5];rfl,x0.tr x1⟩)⟩;rintro e w3 ⟨rfl,x3⟩;exact ⟨_,rfl,x3.heap aa,by rw [h5];rfl,x0.tr (x1.tr x3)⟩
 ·have h4:=fC h4;exact ⟨by rw [decide_eq_false h4];simp,x0⟩
 ·have h3:=fC h3;exact ⟨by rw [decide_eq_false h3];simp,x0⟩
 ·have h2:=fC h2;exact ⟨by rw [decide_eq_false h2];simp,x0⟩
 ·have h1:=fC h1;exact ⟨by rw [decide_eq_false h1];simp,x0⟩
def Mm{w:World}{g:Nat}{p:Value}{av:List (Option Nat)}{τ:TypeId}(hr:Row w g (p::av.map pA) τ){k:Nat}{a:Option Nat}(ha:av[k]? =some a):Vc.ld w (ab (ab (aB g) 1) (((k:Nat):Int).toNat*1))=some (pA a):=by rw [gx,gZ,zm];refine hr.at (1+k) ?_;rw [yT,J6,aZ,ha];rfl
def xm{w:World}{g:Nat}{p:Value}{av:List (Option Nat)}{τ:TypeId}(hr:Row w g (p::av.map pA) τ)(hn:av.length=16):
  kT 193 #[.slice (aE (ab (some ⟨g,0,none⟩) 1) 0 16 1) (16-0) (16-0),pno] w (Value.int .i64 (bL (λa:Option Nat=>a.isNone) av)):=by
 apply (As.vc (a0:=⟨aE (ab (some ⟨g,0,none⟩) 1) 0 16 1,16-0,16-0⟩));rw [dw];refine ⟨λn x wr=>∃k:Nat,x=k/\k+n=16/\wr=w/\∀j,j<k->∀y,av[j]? =some y->y.isNone=false,⟨16,0,rfl,rfl,rfl,λj hj=>by omega⟩,?_⟩;rintro n us x wr ⟨k,rfl,hk,rfl,lD⟩;apply Br.mk<;>intro hb
 ·have hb:(k:Int)<((16-0:Nat):Int):=by simpa using hb
  obtain ⟨a,ha⟩:=bZ (l:=av) (i:=k) aa;refine ⟨⟨rfl,aa,hb⟩,_,Mm hr ha,?_⟩
  cases a with
  |none=>exact ⟨congrArg (λn=>Ending.returned (.int .i64 n)) (vC ha rfl lD).symm,rfl⟩
  |some b=>
   refine bT.2 ⟨λp hp=>by rw [List.mem_singleton.1 hp],?_⟩;have wk:=nJ (j:=k);refine BK rfl ⟨n-1,aa,k+1,wk,aa,rfl,λj hj y hy=> ?_⟩;by_cases q:j<k
   ·exact lD j q y hy
   ·rw [show j=k from by omega,ha] at hy;rw [<-Option.some.inj hy];rfl
 ·have hb:¬(k:Int)<((16-0:Nat):Int):=by simpa using hb
  refine ⟨congrArg (λn=>Ending.returned (.int .i64 n)) (mZ λy hy=> ?_).symm,rfl⟩;obtain ⟨j,hj⟩:=List.mem_iff_getElem?.1 hy;have:=(cP.1 hj).1;exact lD j aa y hj
abbrev tu(L:lCs):Int:=bL (λx:Option cS=>x.isNone) L
section
variable {F F':Nat->Prop} {w w':World} {g s o t:Nat} {M M':Sm} {occ:Value} {L:lCs}
def EL.Au{av:List (Option Nat)}(h:EL w av L)(i:Nat):(av[i]? =some none ↔ L[i]? =some none):=by
 refine ⟨h.z i,λhl=> ?_⟩;have hi:i<16:=by rw [<-h.m];exact (cP.1 hl).1
 obtain ⟨a,ha⟩:=bZ (l:=av) (i:=i) (by rw [h.n];exact hi)
 cases a with
 |none=>exact ha
 |some a=>
  obtain ⟨x,hx,-⟩:=h.s i a ha;rw [hx] at hl
  cases hl
def EL.free{av:List (Option Nat)}(h:EL w av L):bL (λa:Option Nat=>a.isNone) av=tu L:=by
 rcases di (λa:Option Nat=>a.isNone) av with ⟨e,lD⟩|⟨k,x,hx,hq,e,fD⟩
 ·rw [e];refine (mZ λy hy=> ?_).symm;obtain ⟨i,hi⟩:=JM.1 hy
  cases y with
  |some y=>rfl
  |none=>
   have:=lD none (aQ ((h.Au i).2 hi))
   cases this
 ·rw [e]
  cases x with
  |some x=>cases hq
  |none=>
   refine (vC ((h.Au k).1 hx) rfl λj hj y hy=> ?_).symm
   cases y with
   |some y=>rfl
   |none=>exact absurd (fD j hj none ((h.Au j).2 hy)) bo
def iU(M:Sm)(L:lCs)(b:eJ):Int × Int × lCs:=
 if b.may=false then (-1,1,L) else if tu L<0 then (-1,8,L) else if BR M b=false then (-1,11,L) else if kd (jm M.T.2) b.box aD=true then (-1,12,L)
 else (tu L,0,L.set (tu L).toNat (some ({b with fM:=kd (jm M.T.2) (nQ b.box) aD},(0,0,false))))
abbrev nO(au:Ce)(wd ht:Int):eJ:=⟨au,(0,0,0),wd,ht,false⟩
def EF.res(h:EF F w g s o t M occ L)(x:Ext w w'):dQ F w g s o t M occ L w':=⟨F,h.ext x,aI.aq x⟩
def Ut(h:EF F w g s o t M occ L)(au:Ce)(wd ht:Int)(hw:cT wd):ae 132 #[.pointer (some ⟨g,0,none⟩),gg au,wd,ht] w λe w'=>
  e=Value.tuple #[.int .i64 (iU M L (nO au wd ht)).1,.int .i64 (iU M L (nO au wd ht)).2.1]/\dQ F w g s o t M occ (iU M L (nO au wd ht)).2.2 w':=by
 apply we.vc;intro w0 e0 w1 e1 w2 e2;have x0:=aV e0;have z0:=fE e0;have x2:Ext w0 w2:=(aV e1).af e2 (ak _);have z2:=xh e1 e2;have r2:Row w2 w0 (pk (nO au wd ht)) DM:=by rw [e2];exact Row.set (by rw [e1];exact Row.new w0 [_,_,_,_,_,_,_,_,_] _) _
 have yq:=x0.tr x2;obtain ⟨av,dh,ju,-⟩:=(h.ext yq).row;refine (xm dh ju.n).bj λw3 H2=> ?_
 subst H2;rw [ju.free];refine ⟨_,rfl,rfl,rfl,(Qq (nO au wd ht) w3).bj λw5 x5=> ?_⟩;have z5:=x5.size;refine ⟨_,rfl,x5.k,x5.k,Br.mk (λq=> ?_) (λq=>Br.mk (λq2=> ?_) (λq2=>(C3 (h.ext (yq.tr x5)) (nO au wd ht)).mono ?_))⟩
 ·have q:(nO au wd ht).may=false:=by simpa using q
  unfold iU;rw [if_pos q];exact ⟨rfl,h.res (yq.tr x5)⟩
 ·have q:¬(nO au wd ht).may=false:=by simpa using q
  have q2:tu L<0:=by simpa using q2
  unfold iU;rw [if_neg q,if_pos q2];exact ⟨rfl,h.res (yq.tr x5)⟩
 have q:¬(nO au wd ht).may=false:=by simpa using q
 have q2:¬tu L<0:=by simpa using q2
 unfold iU;rw [if_neg q,if_neg q2];rintro e w7 ⟨rfl,x7⟩;have z7:=x7.size;have zd7:=oa w7;have x07:=yq.tr (x5.tr x7);refine ⟨_,rfl,x7.k,x7.k,Br.mk (λq3=> ?_) (λq3=>(mi (h.ext (x07.drew))).mono ?_)⟩
 ·have q3:BR M (nO au wd ht)=false:=by simpa using q3
  rw [if_pos q3];exact ⟨rfl,h.res x07⟩
 have q3:¬BR M (nO au wd ht)=false:=by simpa using q3
 rw [if_neg q3];rintro e w9 ⟨rfl,hw9⟩;subst hw9;have r9:=r2.ext ((x5.tr x7).drew);have h9:=h.ext x07.drew;refine ⟨_,rfl,rfl,rfl,Lo.wv r9,(kB (nO au wd ht) hw w7.drew).bj λbB bR=> ?_⟩;have z11:=bR.size;refine ⟨_,_,_,_,_,_,rfl,bR.k,bR.k,(sK (h9.ext bR).tl rfl (nO au wd ht).box).bj λdN de=> ?_⟩;have z18:=de.size;have Wq:=x07.drew.tr (bR.tr de);refine ⟨_,rfl,de.k,de.k,Br.mk (λq4=> ?_) (λq4=>(mi (h.ext Wq.drew)).mono ?_)⟩
 ·rw [if_pos q4];exact ⟨rfl,h.res Wq⟩
 rw [if_neg (by rw [q4];decide)];rintro e fw ⟨rfl,ay5⟩;subst ay5;have r20:=r9.ext ((bR.tr de).drew);have h20:=h.ext Wq.drew;have aGf:=oa dN;refine ⟨_,rfl,rfl,rfl,Lo.wv r20,(kB (nO au wd ht) hw dN.drew).bj λdt gI=> ?_⟩;have z22:=gI.size;refine ⟨_,_,_,_,_,_,rfl,gI.k,gI.k,(qo (h20.ext gI).tl rfl (nO au wd ht).box).bj λgz kK=> ?_⟩;have z29:=kK.size;have asW:=Wq.drew.tr (gI.tr kK);refine ⟨_,rfl,kK.k,kK.k,λik e31 uu e32=> ?_⟩;generalize gy:kd (jm M.T.2) (nQ (nO au wd ht).box) aD=st at*;have oU:Ext w ik.drew:=(asW.af e31 (by omega)).drew;have z31:ik.drew.heap.size=gz.heap.size:=by show ik.heap.size=_;rw [e31,setRow_size]
 have mR:Ext w uu:=oU.ba e32;have z32:uu.heap.size=gz.heap.size+1:=by rw [e32];simp [z31]
 have r32:Row uu ik.drew.heap.size (Gb ({nO au wd ht with fM:=st},(0,0,false))) kc:=Row.nw e32;obtain ⟨av,hrow0,hel0,hFg,hFa,bq⟩:=h.row;have dh:=hrow0.ext mR;have ju:=hel0.same (w':=uu) λa ha=>mR.heap (hel0.lt ha)
 have hgl:=h.lt hFg;have K0:=ju.free;obtain ⟨k,hk,hkL,hka⟩:∃k:Nat,tu L=k/\L[k]? =some none/\av[k]? =some none:=by
  rcases di (λx:Option cS=>x.isNone) L with ⟨e,-⟩|⟨k,x,hx,hq,e,-⟩
  ·exact absurd (show tu L= -1 from e) (by omega)
  ·cases x with
   |some x=>cases hq
   |none=>exact ⟨k,e,hx,(ju.Au k).2 hx⟩
 have EE:k<16:=by rw [<-ju.m];exact (cP.1 hkL).1
 rw [hk];have hpb:bN (ab (ab (some ⟨g,0,none⟩) 1) (((k:Nat):Int).toNat*1))=some g:=by rw [cB,cB];rfl
 obtain ⟨p1,p2⟩:=dh.fF (j:=1+k) (v:=.pointer (some ⟨ik.drew.heap.size,0,none⟩)) (by simp [ju.n];omega) rfl;have Of:ab (ab (some ⟨g,0,none⟩) 1) (((k:Nat):Int).toNat*1)=ab (some ⟨g,0,none⟩) (1+k):=by rw [gx,gZ,Nat.mul_one]
 have hgn:g<w:=hgl;rw [hpb];refine ⟨aa,aa,⟨rfl,by rw [Of];exact p1⟩,λq=>by have:=Option.some.inj q;omega,λq=>by have:=Option.some.inj q;omega,λq=>by have:=Option.some.inj q;omega,λjZ e33=>⟨rfl,?_⟩⟩;rw [Of] at e33;obtain ⟨q1,q2⟩:=p2 jZ e33;have q1:Row jZ g (.pointer (some ⟨s,0,none⟩)::(av.set k (some ik.drew.heap.size)).map pA) uE:=by
  have e:putCells (Value.pointer (some ⟨s,0,none⟩)::av.map pA) (1+k) [.pointer (some ⟨ik.drew.heap.size,0,none⟩)]=.pointer (some ⟨s,0,none⟩)::(av.set k (some ik.drew.heap.size)).map pA:=by show (Value.pointer (some ⟨s,0,none⟩)::av.map pA).set (1+k) _=_;rw [Nat.add_comm,List.set_cons_succ,List.map_set];rfl
  rw [<-e];exact q1
 have halt:∀a,some a ∈ av->a<w.heap.size:=λa ha=>h.lt (hFa a ha)
 have fA:∀a,some a ∈ av->a≠g:=λa ha q=>by subst q;obtain ⟨i,hi⟩:=qI ha;obtain ⟨x,-,hr⟩:=ju.s i a hi;exact dh.ne hr kM.2.2 rfl
 have oJ:∀(i a:Nat),(av.set k (some ik.drew.heap.size))[i]? =some (some a)->(i=k/\a=ik.drew.heap.size)\/(i≠k/\av[i]? =some (some a)):=λi a hi=>by
  by_cases q:i=k
  ·subst q;rw [uH (by rw [ju.n];exact EE)] at hi;exact .inl ⟨rfl,(Option.some.inj (Option.some.inj hi)).symm⟩
  ·rw [List.getElem?_set_ne (Ne.symm q)] at hi;exact .inr ⟨q,hi⟩
 have hE:EL jZ (av.set k (some ik.drew.heap.size)) (L.set k (some ({nO au wd ht with fM:=st},(0,0,false)))):=by
  refine ⟨by rw [lU];exact ju.n,by rw [lU];exact ju.m,λi a hi=> ?_,λi hi=> ?_,λi j a hi hj=> ?_⟩
  ·rcases oJ i a hi with ⟨rfl,rfl⟩|⟨q,hi'⟩
   ·refine ⟨_,uH (by rw [ju.m];exact EE),r32.same (q2.same _ (by omega) (by omega))⟩
   ·obtain ⟨x,hx,hr⟩:=ju.s i a hi';exact ⟨x,by rw [List.getElem?_set_ne (Ne.symm q)];exact hx,hr.same (q2.same _ hr.lt (fA a (aQ hi')))⟩
  ·by_cases q:i=k
   ·subst q;rw [uH (by rw [ju.n];exact EE)] at hi
    cases hi
   ·rw [List.getElem?_set_ne (Ne.symm q)] at hi ⊢;exact ju.z i hi
  ·rcases oJ i a hi with ⟨rfl,rfl⟩|⟨q,hi'⟩
   ·rcases oJ j _ hj with ⟨rfl,-⟩|⟨q',hj'⟩
    ·rfl
    ·have:=halt _ (aQ hj');omega
   ·rcases oJ j a hj with ⟨rfl,rfl⟩|⟨q',hj'⟩
    ·have:=halt _ (aQ hi');omega
    ·exact ju.d i j a hi' hj'
 exact bq ((Mod.aq mR).trans (q2.mono λi _ hi=> .inl hi)) q1 hE λa ha=>by
  obtain ⟨i,hi⟩:=qI ha;rcases oJ i a hi with ⟨-,rfl⟩|⟨-,hi'⟩
  ·have:=asW.size;exact .inr (by omega)
  ·exact .inl (aQ hi')
end
section
variable {F F':Nat->Prop} {w w':World} {g s o t:Nat} {M M':Sm} {occ:Value} {L:lCs}
def E2{p:Value}{av:List (Option Nat)}{τ:TypeId}(hr:Row w g (p::av.map pA) τ)(hn:av.length=16)(n:Int):
  ae 76 #[g,n] w λe w'=>∃a:Option Nat,e=(pA a)/\w'=w/\((∃k:Nat,n=k/\k<16/\av[k]? =some a)\/¬(0<=n/\n<16)/\a=none):=by
 apply Cn.vc;refine Br.mk (λh=>⟨none,rfl,rfl,.inr ⟨?_,rfl⟩⟩) (λh=>Br.mk (λh2=>⟨none,rfl,rfl,.inr ⟨?_,rfl⟩⟩) (λh2=> ?_))
 ·have h:=fC h;omega
 ·have h2:=fC h2;omega
 ·have h:=fC h;have h2:=fC h2;obtain ⟨k,rfl⟩:∃k:Nat,n=k:=⟨n.toNat,aa⟩;obtain ⟨a,ha⟩:=bZ (l:=av) (i:=k) aa;exact ⟨aa,aa,_,Mm hr ha,a,rfl,rfl,.inl ⟨k,rfl,aa,ha⟩⟩
def cG(L:lCs)(n:Int):Option cS:=if 0<=n then (L[n.toNat]?).join else none
def zy(L:lCs)(n:Int):Int × lCs:=if (cG L n).isNone then (6,L) else (0,L.set n.toNat none)
def EL.aqJ{av:List (Option Nat)}(h:EL w av L){k:Nat}{a:Option Nat}(ha:av[k]? =some a):(cG L k).isNone=a.isNone:=by
 unfold cG;rw [if_pos aa,gZ]
 cases a with
 |none=>rw [h.z k ha];rfl
 |some a=>
  obtain ⟨x,hx,-⟩:=h.s k a ha;rw [hx];rfl
def vL(hL:L.length=16){n:Int}(h:¬(0<=n/\n<16)):cG L n=none:=by
 unfold cG;split
 ·rw [j4 aa];rfl
 ·rfl
def Yz(h:EF F w g s o t M occ L)(n:Int):ae 124 #[g,n] w λe w'=>e=Value.int .i64 (zy L n).1/\dQ F w g s o t M occ (zy L n).2 w':=by
 obtain ⟨av,dh,ju,hFg,hFa,bq⟩:=h.row;apply xY.vc;refine (E2 dh ju.n n).mono ?_;rintro e w0 ⟨a,rfl,rfl,hc⟩;refine ⟨_,rfl,?_⟩;unfold zy;rcases hc with ⟨k,rfl,hk,ha⟩|⟨wA,rfl⟩
 ·rw [ju.aqJ ha]
  cases a with
  |none=>exact yes rfl ⟨rfl,h.res (Ext.bU _)⟩
  |some a=>
   refine BK rfl ?_;have Of:ab (ab (aB g) 1) (((k:Nat):Int).toNat*1)=ab (aB g) (1+k):=by rw [gx,gZ,zm]
   obtain ⟨p1,p2⟩:=dh.fF (j:=1+k) (v:=.pointer none) (by simp [ju.n];omega) rfl;refine ⟨aa,aa,⟨rfl,by rw [Of];exact p1⟩,λw2 e2=>⟨rfl,?_⟩⟩;rw [Of] at e2;obtain ⟨q1,q2⟩:=p2 w2 e2;have q1:Row w2 g (.pointer (aB s)::(av.set k none).map pA) uE:=by
    have e:putCells (Value.pointer (aB s)::av.map pA) (1+k) [pno]=.pointer (aB s)::(av.set k none).map pA:=by show (Value.pointer (aB s)::av.map pA).set (1+k) _=_;rw [yT,akC,pW];rfl
    rw [<-e];exact q1
   have fA:∀a,some a ∈ av->a≠g:=λa ha q=>by subst q;obtain ⟨i,hi⟩:=qI ha;obtain ⟨x,-,hr⟩:=ju.s i a hi;exact dh.ne hr kM.2.2 rfl
   have oJ:∀(i a:Nat),(av.set k none)[i]? =some (some a)->i≠k/\av[i]? =some (some a):=λi a hi=>by
    by_cases q:i=k
    ·subst q;rw [uH (by rw [ju.n];exact hk)] at hi
     cases hi
    ·rw [GJ (Ne.symm q)] at hi;exact ⟨q,hi⟩
   show dQ F w0 g s o t M occ (L.set ((k:Nat):Int).toNat none) w2;refine bq (q2.mono λi _ hi=> .inl hi) q1 ⟨by rw [lU];exact ju.n,by rw [lU];exact ju.m,λi a hi=> ?_,λi hi=> ?_,λi j a hi hj=> ?_⟩ λa ha=> ?_
   ·obtain ⟨q,hi'⟩:=oJ i a hi;obtain ⟨x,hx,hr⟩:=ju.s i a hi';exact ⟨x,by rw [gZ,GJ (Ne.symm q)];exact hx,hr.same (q2.same _ hr.lt (fA a (aQ hi')))⟩
   ·rw [gZ];by_cases q:i=k
    ·subst q;exact uH (by rw [ju.m];exact hk)
    ·rw [GJ (Ne.symm q)] at hi ⊢;exact ju.z i hi
   ·exact ju.d i j a (oJ i a hi).2 (oJ j a hj).2
   ·obtain ⟨i,hi⟩:=qI ha;exact .inl (aQ (oJ i a hi).2)
 ·rw [vL ju.m wA];exact yes rfl ⟨rfl,h.res (Ext.bU _)⟩
def br(L:lCs):List Int:=((List.range 16).filter λi=>(cG L (i:Nat)).isSome).map λi:Nat=>(i:Int)
def Mt{α:Type}{l:List α}(h:l.length=16):∃a b c d e f g h i j k m n o p q,l=[a,b,c,d,e,f,g,h,i,j,k,m,n,o,p,q]:=by
 match l,h with
 | [a,b,c,d,e,f,g,h,i,j,k,m,n,o,p,q],_=>exact ⟨a,b,c,d,e,f,g,h,i,j,k,m,n,o,p,q,rfl⟩
def Km(h:EF F w g s o t M occ L):ae 41 #[g] w λe w'=>∃sl:Sl,e=Value.slice sl.a sl.n sl.c/\ar w 3 1 w' sl ((br L).map λi=> [.int .i64 i])/\Ext w w':=by
 obtain ⟨av,dh,ju,-⟩:=h.row;apply xZ.vc;have pO:ah w (ab (aB g) 1) 0 (av.map pA):=by rw [aF];exact dh.bK λj hj=>by rw [show 0+1+j=j+1 from by omega,J6]
 have gm:∀k:Nat,k<16->∃a:Option Nat,(av.map pA)[((k:Nat):Int).toNat*1]? =some (pA a)/\(cG L k).isNone=a.isNone:=λk hk=>by obtain ⟨a,ha⟩:=bZ (l:=av) (i:=k) (by rw [ju.n];exact hk);exact ⟨a,by rw [gZ,zm,aZ,ha];rfl,ju.aqJ ha⟩
 obtain ⟨b0,b1,b2,b3,b4,b5,b6,b7,b8,b9,b10,b11,b12,KO,V5,X5,rfl⟩:=Mt ju.n;refine ⟨_,_,_,_,_,_,_,_,_,_,_,_,_,_,_,_,pO,λn x sl wr=>∃k:Nat,x=k/\k+n=16/\ar w 3 1 wr sl ((((List.range k).filter λi=>(cG L (i:Nat)).isSome).map λi:Nat=>(i:Int)).map λi=> [.int .i64 i])/\Ext w wr,⟨16,0,rfl,rfl,ar.nil,Ext.bU _⟩,?_⟩;rintro n us x sl wr ⟨k,rfl,hk,ho,xr⟩;have zr:=xr.size;apply Br.mk<;>intro hb
 ·replace hb:=lT hb;obtain ⟨a,ha,hl⟩:=gm k aa;have wk:=nJ (j:=k);have db:sl.n<=16:=by have h1:=(ho.rd (show 0<1 by decide)).n;have h2:=zw (λi=>(cG L (i:Nat)).isSome) (List.range k);rw [aJ,aJ] at h1;rw [Gs] at h2;omega
  refine ⟨⟨aa,aa⟩,_,ha,Br.mk (λhq=>λiH Jf=> ?_) (λhq=> ?_)⟩
  ·subst Jf;have hsome:(cG L (k:Nat)).isSome=true:=by
    cases a with
    |none=>exact absurd hq bo
    |some a=>
     cases hL:cG L k with
     |none=>rw [hL] at hl;cases hl
     |some y=>rfl
   obtain ⟨S9,hres8⟩:=ho.kU (bytes:=8) (news:=[.int .i64 (k:Int)]) (.cells #[.int .i64 (k:Int)] 3) aa rfl (wB _ _) aa aa;refine ⟨S9,λs25 lQ azO=> ?_⟩;obtain ⟨f8,KT,hn8,x8,hk8,-⟩:=hres8 s25 lQ azO;refine ⟨f8,n-1,aa,k+1,wk,aa,?_,(Below.trans xr x8:Below w w lQ)⟩;rw [Qt,wC,bS,bS,WW (by simpa using hsome)];exact KT
  ·have hnone:(cG L (k:Nat)).isSome=false:=by
    cases a with
    |some a=>exact absurd hq bo
    |none=>
     cases hL:cG L k with
     |none=>rfl
     |some y=>rw [hL] at hl;cases hl
   refine ⟨n-1,aa,k+1,wk,aa,?_,xr⟩;rw [Qt,wC,bS,bS,WX (by rw [hnone];decide)];simpa using ho
 ·replace hb:=l6 hb;have EE:k=16:=by omega
  subst EE;exact ⟨sl,rfl,ho,xr⟩
end
abbrev yG(aj cap room bud:Int):Sm:=⟨aj,min (max cap 1) 16,(T6 room,[]),[],⟨4096,0,[]⟩,min (max bud 1) 64,0,[]⟩
abbrev xt:lCs:=List.replicate 16 none
def J2(aj cap room bud:Int)(w:World):ae 60 #[.agg #[aj,cap,room,bud]] w λe w'=>
  ∃(g s o t:Nat)(F:Nat->Prop),e=Value.pointer (aB g)/\EF F w' g s o t (yG aj cap room bud) (.func (.func 175) #[] #[]) xt/\Ext w w'/\∀i,F i->w.heap.size<=i:=by
 apply Vq.vc;intro w0 e0;have x0:Ext w w0.drew:=(aV e0).drew;have z0:w0.drew.heap.size=w.heap.size+1:=by show w0.heap.size=_;rw [e0];simp
 have r0:∃τ,Row w0.drew w [aj,cap,room,bud] τ:=⟨_,by rw [e0];exact (Row.new w [_,_,_,_] _).ext (Ext.dr _)⟩;obtain ⟨τ,r0⟩:=r0;refine (Yn aj cap room w0.drew).mono ?_;rintro e w1 ⟨o,t,Fw,rfl,hW,x1,fW⟩;have z1:=x1.size;refine ⟨_,rfl,x1.heap aa,xB (r0.ext x1) rfl,(QP hW bud).mono ?_⟩;rintro e w3 ⟨s,F,rfl,hS,x3,fS⟩;have z3:=x3.size;refine ⟨_,rfl,x3.heap aa,λw5 e5=> ?_⟩;have x5:=aV e5;have r5:Row w5 w3 (.pointer (aB s)::(List.replicate 16 none).map pA) uE:=Row.nw e5;have lD:∀(i a:Nat),(List.replicate 16 (none:Option Nat))[i]? =some (some a)->False:=λi a hi=>by
  have:=List.eq_of_mem_replicate (aQ hi)
  cases this
 have ju:EL w5 (List.replicate 16 none) xt:=⟨rfl,rfl,λi a hi=>(lD i a hi).elim,λi hi=>List.getElem?_replicate_of_lt (by
  have abA:=(cP.1 hi).1;rw [Hf] at abA;exact abA),λi j a hi=>(lD i a hi).elim⟩
 refine ⟨w3.heap.size,s,o,t,_,rfl,⟨F,_,r5,hS.ext x5,ju,rfl⟩,x0.tr (x1.tr (x3.tr x5)),λi hi=> ?_⟩;rcases hi with rfl|hi|hi
 ·omega
 ·rcases fS i hi with q|q
  ·have:=fW i q;omega
  ·omega
 ·cases List.eq_of_mem_replicate hi
open Tryz
variable {R:eWp} {w:World} {a0 a1:Int}
def Vi.vc{a0:Sl}{a1:Sl}(h:
 po (λI0 n1=>I0 n1 (0) a0 w) λI0 n1 wZ x3 s4 w5=>
 Br (decide (x3<((a1.n:Nat):Int)))
 (gJ a1.a x3 a1.n/\jV w5 (ab a1.a ((x3:Int).toNat*1)) λx7=>
 po (λI8 n9=>I8 n9 (5) s4 w5) λI8 n9 agf bR nC bw=>(λAa=>
 Br (bR>=0)
 (aN (ngC (aC (8*bR))) (Aw bw #[.int .u8 Aa] 5 λdj=>
 aY 1 1 dj nC 1 [.int .u8 Aa]/\∀(s16:Sl)(cM:World),aT 5 1 dj nC 1 [.int .u8 Aa] s16 cM->Kp bw dj cM/\
 ∃n14,n14<n9/\I8 n14 ((aC (bR-1))) s16 cM))
 (∃n6,n6<n1/\I0 n6 ((aC (x3+1))) nC bw)) (tO ((x7:Int).fdiv (2 ^(min ((aC (8*bR)):Int).toNat 64)))))
 (R s4 w5)):ae 59 #[a0,a1] w R:=
 cq ⟨[(5,⟨[(7,.int .i64),(0,.slice)],[],[]⟩),(2,⟨[(10,.int .i64),(0,.slice)],[],[]⟩)],[],[]⟩ func59 h
def vr.vc{a0:Addr}(h:(λA B=>
 ae 41 #[a0] w (rZ λs1 w0=>(λAa Ab=>fu w0 B λp2=>
 ae 45 #[p2] w0 (gk λx4 w3=>Aw w3 #[x4] 3 λw5=>
 ae 59 #[.slice none 0 0,.slice (aB w3) 1 1] w5 (rZ λs7 w6=>Aw w6 #[.int .u8 (tO Ab)] 5 λw8=>
 aY 1 1 w8 s7 1 Aa/\∀(s9:Sl)(bc:World),aT 5 1 w8 s7 1 Aa s9 bc->Kp w6 w8 bc/\
 po (λI11 n12=>aP Aa/\I11 n12 (0) s9 bc) λI11 n12 aIr cY oI cp=>
 Br (decide (cY<Ab))
 (gJ s1.a cY s1.n/\jV cp (ab s1.a ((cY:Int).toNat*1)) λde=>(λAc Ad=>
 (0:Int)<=de/\de<((16:Nat):Int)/\fu cp (ab (ab (some a0) 1) ((de:Int).toNat*1)) λp19=>(λAe Af=>
 ∃J20:Sl->wPp,
 (aN Af (aN Af (aN (eI Ae) (aN (eI (ab Ae 0)) (jV cp.drew (ab (ab Ae 0) 0) λfj=>
 aN Af (aN Af (aN (eI Ae) (aN (eI (ab Ae 0)) (jV cp.drew (ab (ab Ae 0) 1) λgI=>
 aN Af (aN Af (aN (eI Ae) (aN (eI (ab Ae 0)) (jV cp.drew (ab (ab Ae 0) 2) λim=>
 aN Af (aN Af (aN (eI Ae) (aN (eI (ab Ae 3)) (jV cp.drew (ab (ab Ae 3) 0) λjR=>
 aN Af (aN Af (aN (eI Ae) (aN (eI (ab Ae 3)) (jV cp.drew (ab (ab Ae 3) 1) λgM=>
 aN Af (aN Af (aN (eI Ae) (aN (eI (ab Ae 3)) (jV cp.drew (ab (ab Ae 3) 2) λnY=>
 aN Af (aN Af (aN (eI Ae) (jV cp.drew (ab Ae 6) λjH=>
 aN Af (aN Af (aN (eI Ae) (jV cp.drew (ab Ae 7) λrI=>(λAg=>
 (Aw cp.drew Ad 5 λgz=>
 (aY 1 1 gz oI 1 Ac/\∀(ED:Sl)(ik:World),aT 5 1 gz oI 1 Ac ED ik->Kp w6 gz ik/\oC cp gz ik/\
 ah ik (ab Ae 7) 0 [rI]/\ah ik (ab Ae 6) 0 [jH]/\ah ik (ab (ab Ae 3) 2) 0 [nY]/\ah ik (ab (ab Ae 3) 1) 0 [gM]/\ah ik (ab (ab Ae 3) 0) 0 [jR]/\ah ik (ab (ab Ae 0) 2) 0 [im]/\ah ik (ab (ab Ae 0) 1) 0 [gI]/\ah ik (ab (ab Ae 0) 0) 0 [fj]/\Aw ik Ag 3 λuu=>
 ae 59 #[ED,.slice (aB ik) 8 8] uu (Rs λs34 jZ=>Kp w6 uu jZ/\oC cp uu jZ/\
 aP Aa/\J20 s34 jZ))/\(Aw gz Ag 3 λiI=>
 aY 1 1 iI oI 1 Ac/\∀(s36:Sl)(jJ:World),aT 5 1 iI oI 1 Ac s36 jJ->Kp w6 iI jJ/\oC cp iI jJ/\Kp gz iI jJ/\
 ae 59 #[s36,.slice (aB gz) 8 8] jJ (Rs λs39 tN=>Kp w6 jJ tN/\oC cp jJ tN/\
 aP Aa/\J20 s39 tN)))/\(Aw cp.drew Ag 3 λnV=>
 Aw nV Ad 5 λkN=>
 aY 1 1 kN oI 1 Ac/\∀(s42:Sl)(iS:World),aT 5 1 kN oI 1 Ac s42 iS->Kp w6 kN iS/\oC cp kN iS/\Kp nV kN iS/\
 ae 59 #[s42,.slice (aB cp.drew.heap.size) 8 8] iS (Rs λs45 kh=>K2 w6 nV iS kh (
 aP Aa/\J20 s45 kh)))) #[fj,gI,im,jR,gM,nY,jH,rI])))))))))))))))))))))))))))))))/\
 ∀atG:Nat->Value,∀(Tp:Sl)(lP:World),J20 Tp lP->
 aN Af (aN Af (aN (eI Ae) (Mi lP (ab Ae 8) λb49=>
 Br b49
 (Aw lP #[.int .u8 1] 5 λyL=>
 aY 1 1 yL Tp 1 [.int .u8 1]/\∀(s51:Sl)(X7:World),aT 5 1 yL Tp 1 [.int .u8 1] s51 X7->K2 w6 lP yL X7 (
 ∃n17,n17<n12/\aP Aa/\I11 n17 ((aC (cY+1))) s51 X7))
 (Aw lP #[.int .u8 0] 5 λw53=>
 aY 1 1 w53 Tp 1 [.int .u8 0]/\∀(V6:Sl)(yN:World),aT 5 1 w53 Tp 1 [.int .u8 0] V6 yN->K2 w6 lP w53 yN (
 ∃n17,n17<n12/\aP Aa/\I11 n17 ((aC (cY+1))) V6 yN)))))) (ab p19 0) (eI p19)) [.int .u8 (tO de)] #[.int .u8 (tO de)])
 (fu cp B λp56=>
 ae 46 #[p56] cp (Rs λOw pI=>(λAh Ai Aj=>Kp w6 cp pI/\
 (0:Int)<=Ai/\Ai<=((Ow.c:Nat):Int)/\Aw pI #[.int .u8 (tO ((Ah:Int).fdiv A)),.int .u8 (tO Ah)] 5 λpR=>
 aY 1 1 pR oI 2 [.int .u8 (tO ((Ah:Int).fdiv A)),.int .u8 (tO Ah)]/\∀(s60:Sl)(vv:World),aT 5 1 pR oI 2 [.int .u8 (tO ((Ah:Int).fdiv A)),.int .u8 (tO Ah)] s60 vv->K2 w6 pI pR vv (
 po (λI62 n63=>aP Aa/\aP [.int .u8 (tO ((Ah:Int).fdiv A)),.int .u8 (tO Ah)]/\I62 n63 (0) s60 vv) λI62 n63 awU A8 s66 pS=>
 Br (decide (A8<Ah))
 (gJ Aj A8 ((Ai:Int).toNat-0)/\tz pS (ab Aj ((A8:Int).toNat*4)) λA9 Es Ba Dw=>
 Aw pS #[ai,ai,ai,ai] 106 λJl=>
 Sw Jl pS #[A9,Es,Ba,Dw] λEx=>
 Aw Ex #[A9,Es,Ba,Dw] 3 λur=>
 ae 59 #[s66,.slice (aB Ex) 4 4] ur (Rs λs77 qM=>K3 w6 pI pS ur qM (
 ∃n68,n68<n63/\aP Aa/\aP [.int .u8 (tO ((Ah:Int).fdiv A)),.int .u8 (tO Ah)]/\I62 n68 ((aC (A8+1))) s77 qM)))
 (R s66 pS))) (((((if 2000<((Ow.n:Nat):Int) then 2000 else ((Ow.n:Nat):Int)):Int).toNat-0):Nat):Int) (if 2000<((Ow.n:Nat):Int) then 2000 else ((Ow.n:Nat):Int)) (aE Ow.a (0) (Ow.c) 4)))))) [.int .u8 (tO ((s1.n:Nat):Int))] ((s1.n:Nat):Int))) (2 ^(min (8:Int).toNat 64)) (ab (some a0) 0)):ae 25 #[a0] w R:=
 cq ⟨[(16,⟨[(124,.int .i64),(4,.slice)],[],[]⟩),(4,⟨[(27,.int .i64),(4,.slice)],[],[]⟩)],[(8,⟨[(4,.slice)],[],[]⟩)],[]⟩ func25 h
def xl.vc{a0:Addr}(h:
 fu w (ab (some a0) 0) λp0=>
 ae 39 #[p0] w (tR λp2 w1=>ae 40 #[p2] w1 (tR λp4 w3=>ae 25 #[a0] w3 (rZ λs6 w5=>ae 182 #[p4,s6] w5 (gk λx8 w7=>R x8 w7))))):ae 121 #[a0] w R:=
 cq bD func121 h
def ui.vc{c0:Addr}(h:(λA=>
 Br (!(A).isNone)
 (aN (eI A) (aN (eI A) (jW w.drew (ab A 0) λx0 x1 x2 x3 x4 x5 x6 x7 b8=>
 CZ w.drew (some c0) λx9 bM bR cw cN cY=>
 ae 149 #[.agg #[x0,x1,x2,x3,x4,x5,x6,x7,b8]] w.drew (ame λdz dS de dR fk fj dj=>ah dj (some c0) 0 [x9,bM,bR,cw,cN,cY]/\ae 148 #[.agg #[dz,dS,de,dR,fk,fj],.agg #[x9,bM,bR,cw,cN,cY]] dj (CP λb23 dt=>R b23 dt)))))
 (R false w.drew)) (none:Option Addr)):ae 147 #[.pointer (none:Option Addr),c0] w R:=
 cq bD func147 h
def Su(h:Rp):Ce × Bool:=if 0<=h.2.2.1/\h.2.2.1<6 then ((sk h.1).getD h.2.2.1.toNat (0,0,0),true) else ((0,0,0),false)
def Sv(h:Rp)(hc:fo h.1)(w:World):eU 190 #[htV h] w (Value.tuple #[gg (Su h).1,.bool (Su h).2]):=by
 obtain ⟨c,b,f,t⟩:=h;apply U3.vc;intro w0 e0 w1 e1;have x0:=aV e0;have z0:=zA e0;have r0:∃τ,Row w0 w [c.1,c.2.1,c.2.2,b,f,t] τ:=⟨_,by rw [e0];exact Row.new w [_,_,_,_,_,_] _⟩;have x1:=aV e1;have z1:=zA e1;have lE:=x0.tr x1;have hd:=oa w1;obtain ⟨τ,r0⟩:=r0;unfold Su;simp only;refine Br.mk (λh=>λw2 e2=> ?_) (λh=>Br.mk (λh2=>λw3 e3=> ?_) (λh2=>(jA c hc w1.drew).mono ?_))
 ·have h:=fC h;rw [if_neg aa];exact ⟨rfl,lE.af e2 aa⟩
 ·have h2:=fC h2;rw [if_neg aa];exact ⟨rfl,lE.af e3 aa⟩
 ·have h:=fC h;have h2:=fC h2;obtain ⟨k,rfl⟩:∃k:Nat,f=k:=⟨f.toNat,aa⟩;rw [if_pos aa,gZ];rintro e w4 ⟨rfl,x4⟩;have z4:=x4.size;refine ⟨_,_,_,_,_,_,_,_,_,_,_,_,_,_,_,_,_,_,rfl,x4.heap aa,x4.heap aa,xB (r0.ext (x1.tr ((Ext.dr w1).tr x4))) rfl,⟨aa,aa⟩,((sk c).getD k (0,0,0)).1,((sk c).getD k (0,0,0)).2.1,((sk c).getD k (0,0,0)).2.2,?_,λlQ Tx=>⟨rfl,(lE.tr ((Ext.dr w1).tr x4)).af Tx aa⟩⟩;have:k=0\/k=1\/k=2\/k=3\/k=4\/k=5:=by omega
  rcases this with rfl|rfl|rfl|rfl|rfl|rfl<;>rfl
def py(b:eJ):Ce:=jf b.au (0,Int.tdiv (b.ht*4) 5,0)
def HN(b:eJ)(hh: -1000000000<=b.ht/\b.ht<=1000000000)(w:World):eU 192 #[IB b] w ((gg (py b))):=by
 apply IP.vc;intro w0 e0 w1 e1;have x0:=aV e0;have z0:=zA e0;have x1:=aV e1;have z1:=zA e1;have e4:aC (Int.tdiv (aC (b.ht*4)) 5)=Int.tdiv (b.ht*4) 5:=by
  have h5: -4000000000<=Int.tdiv (b.ht*4) 5/\Int.tdiv (b.ht*4) 5<=4000000000:=by
   rcases Int.le_total 0 (b.ht*4) with h|h
   ·rw [uO h];omega
   ·have e:b.ht*4= -(-(b.ht*4)):=by omega
    rw [e,Int.neg_tdiv,uO aa];omega
  rw [aK (n:=b.ht*4) inO,wI]
 rw [e4];refine (jD b.au (0,Int.tdiv (b.ht*4) 5,0) w1).bj λw2 x2=> ?_
 have z2:=x2.size;exact ⟨_,_,_,rfl,x2.heap aa,x2.heap aa,λw6 e6=>⟨rfl,(x0.tr (x1.tr x2)).af e6 aa⟩⟩
def Gc(c:Ce):Bx:=((uS c.1,uS c.2.1,uS c.2.2),jf (uS c.1,uS c.2.1,uS c.2.2) (65536,65536,65536))
def YX(c:Ce)(w:World):eU 145 #[gg c] w ((xq (Gc c))):=by
 apply adF.vc;intro w0 e0 w1 e1;have x0:=aV e0;have z0:=zA e0;have r0:∃τ,Row w0 w [c.1,c.2.1,c.2.2] τ:=⟨_,by rw [e0];exact Row.new w [_,_,_] _⟩;have x1:=aV e1;have z1:=zA e1;have hd:=oa w1;obtain ⟨τ,r0⟩:=r0;have r1:=r0.ext (x1.tr (Ext.dr w1));have lE:=x0.tr (x1.tr (Ext.dr w1));have last:∀v1 v2:World,v1=w1.drew.alloc (.cells #[ai,ai,ai] iz)->v2=v1.setRow w1.drew.heap.size #[(uS c.1),(uS c.2.1),(uS c.2.2)]->
   ae 206 #[gg (uS c.1,uS c.2.1,uS c.2.2),gg (65536,65536,65536)] v2.drew λe bc=>∃x y z:Int,e=Value.agg #[x,y,z]/\bc.heap[w.heap.size]? =v2.drew.heap[w.heap.size]?/\bc.heap[w0.heap.size]? =v2.drew.heap[w0.heap.size]?/\bc.heap[w1.drew.heap.size]? =v2.drew.heap[w1.drew.heap.size]?/\
    ah bc (aB w1.drew.heap.size) 0 [(uS c.1),(uS c.2.1),(uS c.2.2)]/\∀cu:World,cu=bc.setRow w0 #[(uS c.1),(uS c.2.1),(uS c.2.2),x,y,z]->
    Ending.returned (.agg #[(uS c.1),(uS c.2.1),(uS c.2.2),x,y,z])=(xq (Gc c))/\Ext w cu:=by
  intro v1 v2 f1 f2;have y1:Ext w1.drew v2:=(aV f1).af f2 (ak _);have s2:v2.drew.heap.size=w1.heap.size+1:=by show v2.heap.size=_;rw [zR f2,zA f1];rfl
  have rv:Row v2 w1.drew.heap.size [(uS c.1),(uS c.2.1),(uS c.2.2)] iz:=by rw [f2,f1];exact Row.set (Row.new w1.drew [_,_,_] _) [_,_,_]
  refine (jD (uS c.1,uS c.2.1,uS c.2.2) (65536,65536,65536) v2.drew).bj λbc bM=> ?_
  exact ⟨_,_,_,rfl,bM.heap aa,bM.heap aa,bM.heap aa,Lo.wv (rv.ext ((Ext.dr v2).tr bM)),λcu yw=>⟨rfl,(lE.tr (y1.tr ((Ext.dr v2).tr bM))).af yw aa⟩⟩
 have of1:∀(n:Int) {u:World} {R:eWp},R (.returned (.int .i64 (uS n))) u->ae 213 #[.int .i64 n] u R:=λn u R h=>(sJ n u).mono (by rintro e w' ⟨rfl,rfl⟩;exact h)
 have l2:ah w1.drew (jS w.heap.size 2) 0 [c.2.2]:=xB r1 rfl;have l1:ah w1.drew (jS w.heap.size 1) 0 [c.2.1]:=xB r1 rfl;refine ⟨of1 _ ⟨_,rfl,rfl,rfl,l2,l1,of1 _ ⟨_,rfl,rfl,rfl,l2,of1 _ ⟨_,rfl,rfl,rfl,λw8 e8 w9 e9=>last _ _ e8 e9,λw8 e8 w9 e9=>last _ _ e8 e9⟩,λdt Du=> ?_⟩,λik e31=> ?_⟩,λpF e42=> ?_⟩
 ·exact of1 _ ⟨_,rfl,rfl,rfl,rfl,λdL OM=>last _ _ Du OM⟩
 ·have xa:=aV e31;exact of1 _ ⟨_,rfl,rfl,rfl,rfl,xB (r1.ext xa) rfl,of1 _ ⟨_,rfl,rfl,rfl,rfl,λox e36=>last _ _ e31 e36⟩⟩
 ·have xa:=aV e42;exact of1 _ ⟨_,rfl,rfl,rfl,rfl,xB (r1.ext xa) rfl,xB (r1.ext xa) rfl,of1 _ ⟨_,rfl,rfl,rfl,rfl,xB (r1.ext xa) rfl,of1 _ ⟨_,rfl,rfl,rfl,rfl,λnH e49=>last _ _ e42 e49⟩⟩⟩
def ac6(c:Ce)(x:Option cS):Bool:=match x with|some y=>vq y.1.box (Gc c)|none=>false
def Gd(L:lCs)(c:Ce):Bool:=L.any (ac6 c)
def UH{w:World}{a:Option Nat}{x:Option cS}(ha:∀b,a=some b->∃y,x=some y/\Row w b (Gb y) kc/\cT y.1.wd)(hn:a=none->x=none){c:Ce}{g:Nat}{τ:TypeId}(hg:Row w g (pL (Gc c)) τ):
  eU 147 #[pA a,g] w (Value.bool (ac6 c x)):=by
 cases a with
 |none=>
  rw [hn rfl];apply ui.vc;exact BK rfl ⟨rfl,Ext.dr w⟩
 |some b=>
  obtain ⟨y,rfl,hr,hw⟩:=ha b rfl;apply (uY.vc (a0:=⟨b,0,none⟩));refine ⟨_,_,_,_,_,_,_,_,_,(hr.ext (Ext.dr w)).bK (vs:=pk y.1) (o:=0) (λj hj=> ?_),_,_,_,_,_,_,Lo.wv (hg.ext (Ext.dr w)),(kB y.1 hw w.drew).mono ?_⟩
  ·have hj:j<9:=hj;have:j=0\/j=1\/j=2\/j=3\/j=4\/j=5\/j=6\/j=7\/j=8:=by omega
   rcases this with rfl|rfl|rfl|rfl|rfl|rfl|rfl|rfl|rfl<;>rfl
  rintro e dj ⟨rfl,dm⟩;refine ⟨_,_,_,_,_,_,rfl,Lo.wv (hg.ext ((Ext.dr w).tr dm)),(AX y.1.box (Gc c) dj).bj λdt gI=> ?_⟩;exact ⟨_,rfl,rfl,(Ext.dr w).tr (dm.tr gI)⟩
def ES(m:Int)(L:lCs):Prop:=∀y,some y ∈ L->okB m y.1
def ES.up{m n:Int}{L:lCs}(h:ES m L)(hn:m<=n):ES n L:=λy hy=>(h y hy).up hn
section
variable {F F':Nat->Prop} {w w':World} {g s o t:Nat} {M M':Sm} {occ:Value} {L:lCs}
def EL.held{av:List (Option Nat)}(he:EL w av L){m:Int}(hL:ES m L){k:Nat}{a:Option Nat}(ha:av[k]? =some a):
  ∃x,L[k]? =some x/\(∀b,a=some b->∃y,x=some y/\Row w b (Gb y) kc/\cT y.1.wd)/\(a=none->x=none):=by
 cases a with
 |none=>exact ⟨none,he.z k ha,λb hb=>(by cases hb),λ_=>rfl⟩
 |some b=>
  obtain ⟨y,hy,hr⟩:=he.s k b ha;exact ⟨some y,hy,λb' hb=>by cases hb;exact ⟨y,rfl,hr,(hL y (aQ hy)).wdi⟩,λq=>(by cases q)⟩
def P4{p:Value}{av:List (Option Nat)}{τ τ':TypeId}(hr:Row w g (p::av.map pA) τ)(he:EL w av L){m:Int}(hL:ES m L){c:Ce}{b:Nat}(hb:Row w b (pL (Gc c)) τ'):
  ae 214 #[.slice (aE (ab (some ⟨g,0,none⟩) 1) 0 16 1) (16-0) (16-0),.func (.func 147) #[] #[b]] w λe w'=>(∃n:Int,e=Value.int .i64 n/\decide (n>=0)=Gd L c)/\Ext w w':=by
 apply (ub.vc (a0:=⟨aE (ab (some ⟨g,0,none⟩) 1) 0 16 1,16-0,16-0⟩));rw [dw];refine ⟨λn x wr=>∃k:Nat,x=k/\k+n=16/\Ext w wr/\∀j,j<k->∀y,L[j]? =some y->ac6 c y=false,⟨16,0,rfl,rfl,Ext.bU _,λj hj=>by omega⟩,?_⟩;rintro n us x wr ⟨k,rfl,hk,xr,lD⟩;apply Br.mk<;>intro hq
 ·have hq:(k:Int)<((16-0:Nat):Int):=by simpa using hq
  obtain ⟨a,ha⟩:=bZ (l:=av) (i:=k) (by have:=he.n;omega);obtain ⟨y,hy,h1,h2⟩:=he.held hL ha;refine ⟨⟨rfl,aa,hq⟩,_,Mm (hr.ext xr) ha,bV (by kernel_rfl) rfl ((UH (a:=a) (x:=y) (λb' e=> ?_) h2 (hb.ext xr)).mono ?_)⟩
  ·obtain ⟨z,e1,e2,e3⟩:=h1 b' e;exact ⟨z,e1,e2.ext xr,e3⟩
  rintro e w7 ⟨rfl,x7⟩;refine ⟨_,rfl,Br.mk (λhm=>⟨⟨_,rfl,?_⟩,xr.tr x7⟩) (λhm=> ?_)⟩
  ·rw [decide_eq_true (by omega:(k:Int)>=0)];exact (List.any_eq_true.2 ⟨y,aQ hy,hm⟩).symm
  ·have wk:=nJ (j:=k);refine ⟨n-1,aa,k+1,wk,aa,xr.tr x7,λj hj z hz=> ?_⟩;by_cases q:j<k
   ·exact lD j q z hz
   ·rw [show j=k from by omega,hy] at hz;rw [<-Option.some.inj hz];exact hm
 ·have hq:¬(k:Int)<((16-0:Nat):Int):=by simpa using hq
  refine ⟨⟨_,rfl,?_⟩,xr⟩;rw [decide_eq_false aw];refine (List.any_eq_false.2 λy hy=> ?_).symm;obtain ⟨j,hj⟩:=List.mem_iff_getElem?.1 hy;have:=(cP.1 hj).1;have:=he.m;rw [lD j aa y hj];decide
def JZ{p:Value}{av:List (Option Nat)}{τ:TypeId}(hr:Row w g (p::av.map pA) τ)(he:EL w av L){m:Int}(hL:ES m L)(c:Ce):
  eU 84 #[g,gg c] w (Value.bool (Gd L c)):=by
 apply xD.vc;intro w0 e0;have x0:=aV e0;have z0:=zA e0;refine (YX c w0).bj λw1 x1=> ?_
 have z1:=x1.size;refine ⟨_,_,_,_,_,_,rfl,x1.heap aa,λw8 e8 w9 e9=> ?_⟩;have x9:Ext w1 w9:=(aV e8).af e9 (ak _);have r9:∃τ',Row w9 w1 (pL (Gc c)) τ':=⟨_,by rw [e9,e8];exact Row.set (Row.new w1 [_,_,_,_,_,_] _) [_,_,_,_,_,_]⟩;have z9:w9.heap.size=w1.heap.size+1:=by rw [zR e9,zA e8]
 obtain ⟨τ',r9⟩:=r9;have To:=x0.tr (x1.tr x9);refine Calls.mono (qG.vc (a0:=⟨aE (ab (aB g) 1) 0 16 1,16-0,16-0⟩) (R:=λe w'=>e=Value.bool (Gd L c)/\Ext w9 w') ?_) ?_
 ·refine (P4 (hr.ext To) (he.same λa ha=>To.heap (he.lt ha)) hL r9).mono ?_;rintro e bc ⟨⟨n,rfl,hn⟩,bM⟩;exact ⟨n,rfl,by rw [hn],bM⟩
 ·rintro e bc ⟨rfl,bM⟩;exact ⟨_,rfl,bM.heap aa,rfl,To.tr bM⟩
end
def P5(a b:Ce)(n:Nat):Prop:=(-(n:Int)<=a.1-b.1/\a.1-b.1<=n)/\(-(n:Int)<=a.2.1-b.2.1/\a.2.1-b.2.1<=n)/\-(n:Int)<=a.2.2-b.2.2/\a.2.2-b.2.2<=n
def al5(c:Ce)(i:Nat):P5 (nbN c i) c 1:=by unfold nbN P5;split<;>(simp only;omega)
def ac8{d c0:Ce}{r:Int}:∀{n:Nat} {s:S3} {h0 h:Hi},h ∈ goK d c0 r n s h0->mL c0 h.1 r=true/\(h.2.1=h0.2.1\/0<=h.2.1/\h.2.1<6)/\P5 h.1 h0.1 n
 |0,s,h0,h,hm=>by cases hm
 |n+1,s,h0,h,hm=>by
  unfold goK at hm
  split at hm
  ·rename_i hw
   rcases cj.1 hm with rfl|hm
   ·exact ⟨hw,.inl rfl,by unfold P5;omega⟩
   ·cases hq:ja d s h0 with
    |none=>rw [hq] at hm;cases hm
    |some q=>
     rw [hq] at hm
     obtain ⟨h1,h2,h3⟩:=ac8 hm
     unfold ja at hq
     split at hq
     ·cases hq
     injection hq with hq
     refine ⟨h1,.inr ?_,?_⟩
     ·rcases h2 with h2|h2
      ·rw [h2,<-hq]
       have:=at3 s
       simp only
       split<;>omega
      ·exact h2
     ·have hn:P5 q.2.1 h0.1 1:=by rw [<-hq];exact al5 _ _
      unfold P5 at hn h3 ⊢;omega
  ·cases hm
def Vr:Rp:=((0,0,0),0,0,0)
def cQ(M:Sm)(L:lCs)(n:Int)(gL:Ce):Rp × Int:=
 match cG L n with
 |none=>(Vr,6)
 |some y=>if (lA (jm M.T.2) (py y.1) gL 5).2=false then (Vr,13) else if (lA (jm M.T.2) (py y.1) gL 5).1.2.1= -1 then (Vr,11) else ((lA (jm M.T.2) (py y.1) gL 5).1,0)
def Ss{b:eJ}{m:Int}(h:okB m b)(hm:m<=99970000000000):(-1600000000<=(bh (eP (py b))).1/\(bh (eP (py b))).1<=1600000000)/\(-1600000000<=(bh (eP (py b))).2.1/\(bh (eP (py b))).2.1<=1600000000)/\-1600000000<=(bh (eP (py b))).2.2/\(bh (eP (py b))).2.2<=1600000000:=by
 obtain ⟨⟨h1,h2,h3⟩,-,h5,-⟩:=h;have ht:0<=Int.tdiv (b.ht*4) 5/\Int.tdiv (b.ht*4) 5<=1000000:=by rw [uO aa];omega
 have e1:(bh (eP (py b))).1=cg (dG (dW b.au.1 0)):=rfl;have e2:(bh (eP (py b))).2.1=cg (dG (dW b.au.2.1 (Int.tdiv (b.ht*4) 5))):=rfl;have e3:(bh (eP (py b))).2.2=cg (dG (dW b.au.2.2 0)):=rfl;rw [e1,e2,e3];unfold cg dW dG;omega
def Cz{a b r:Int}(h:sZ a b r=true)(ha: -4000000000<=a/\a<=4000000000)(hb: -4000000000<=b/\b<=4000000000):a-b<=r/\b-a<=r:=by unfold sZ at h;simp only [gP,cL] at h;rw [wI,wI] at h;exact h
def HM{f d:Ce}{r:Int}(hr:nA r<=5):∀h ∈ lC (eP f) (kf d) (nA r),(((bh (eP f)).1-h.1.1<=5/\h.1.1-(bh (eP f)).1<=5)/\((bh (eP f)).2.1-h.1.2.1<=5/\h.1.2.1-(bh (eP f)).2.1<=5)/\(bh (eP f)).2.2-h.1.2.2<=5/\h.1.2.2-(bh (eP f)).2.2<=5)/\(h.2.1= -1\/0<=h.2.1/\h.2.1<6):=by
 intro h hh;obtain ⟨h1,h2,h3⟩:=ac8 hh;replace h3:P5 h.1 (bh (eP f)) _:=h3;have hc:=vH (eP f);have hn:((3*(nA r).toNat+2:Nat):Int)<=17:=by omega
 unfold P5 at h3;unfold mL at h1;simp only [gP] at h1;have q1:=Cz h1.1 aa aa;have q2:=Cz h1.2.1 aa aa;have q3:=Cz h1.2.2 aa aa;exact ⟨⟨aa,aa,aa⟩,h2⟩
def Rm{V:Ce->Int}{f d:Ce}{r:Int}(hr:nA r<=5){h:Rp}(e:lA V f d r=(h,true)):
  ((bh (eP f)).1-h.1.1<=5/\h.1.1-(bh (eP f)).1<=5)/\((bh (eP f)).2.1-h.1.2.1<=5/\h.1.2.1-(bh (eP f)).2.1<=5)/\((bh (eP f)).2.2-h.1.2.2<=5/\h.1.2.2-(bh (eP f)).2.2<=5)/\V h.1=h.2.1/\(h.2.2.1= -1\/0<=h.2.2.1/\h.2.2.1<6):=by
 unfold lA at e;split at e
 ·rename_i x hx;obtain ⟨⟨h1,h2,h3⟩,h4⟩:=HM hr x (G1 hx);injection e with e1 e2;subst e1;exact ⟨h1,h2,h3,rfl,h4⟩
 ·injection e with e1 e2
  cases e2
def afd{f d:Ce}{r:Int}(hr:nA r<=5)(hf:(-1600000000<=(bh (eP f)).1/\(bh (eP f)).1<=1600000000)/\(-1600000000<=(bh (eP f)).2.1/\(bh (eP f)).2.1<=1600000000)/\-1600000000<=(bh (eP f)).2.2/\(bh (eP f)).2.2<=1600000000):
  ∀h ∈ lC (eP f) (kf d) (nA r),qT h.1:=by
 intro h hh;obtain ⟨h1,-⟩:=HM hr h hh;unfold qT cT;omega
def aiA:nA 5=5:=by decide
section
variable {F F':Nat->Prop} {w w':World} {g s o t:Nat} {M M':Sm} {occ:Value} {L:lCs}
def EL.at{av:List (Option Nat)}(he:EL w av L){k b:Nat}(ha:av[k]? =some (some b)):∃y,cG L k=some y/\some y ∈ L/\Row w b (Gb y) kc:=by obtain ⟨y,hy,hr⟩:=he.s k b ha;refine ⟨y,?_,aQ hy,hr⟩;unfold cG;rw [if_pos aa,gZ,hy];rfl
def EL.at0{av:List (Option Nat)}(he:EL w av L){k:Nat}(ha:av[k]? =some none):cG L k=none:=by unfold cG;rw [if_pos aa,gZ,he.z k ha];rfl
def Xm{b:Nat}{y:cS}(hr:Row w b (Gb y) kc):ah w (ab (aB b) 0) 0 (pk y.1):=by
 rw [aF];refine hr.bK (o:=0) λj hj=> ?_
 have hj:j<9:=hj;have:j=0\/j=1\/j=2\/j=3\/j=4\/j=5\/j=6\/j=7\/j=8:=by omega
 rcases this with rfl|rfl|rfl|rfl|rfl|rfl|rfl|rfl|rfl<;>rfl
def aqv{b:Nat}{y:cS}(hr:Row w b (Gb y) kc):ah w (ab (aB b) 9) 0 [y.2.1,y.2.2.1,.bool y.2.2.2]:=by
 rw [aF];refine hr.bK (o:=9) λj hj=> ?_
 have hj:j<3:=hj;have:j=0\/j=1\/j=2:=by omega
 rcases this with rfl|rfl|rfl<;>rfl
def vM(h:EF F w g s o t M occ L){m:Int}(hL:ES m L)(hm:m<=99970000000000)(n:Int)(gL:Ce):
  eU 131 #[g,n,gg gL] w (Value.tuple #[htV (cQ M L n gL).1,.int .i64 (cQ M L n gL).2]):=by
 apply xM.vc;intro w0 e0 w1 e1;have x0:=aV e0;have z0:=zA e0;have r0:∃τ,Row w0 w (eZ gL) τ:=⟨_,by rw [e0];exact Row.new w [_,_,_] _⟩;have x1:=aV e1;have z1:=zA e1;obtain ⟨τ,r0⟩:=r0;have r1:=r0.ext x1;have lE:=x0.tr x1;have h1:=h.ext lE;obtain ⟨av,dh,ju,-,-,-⟩:=h1.row;refine (E2 dh ju.n n).mono ?_;rintro e w2 ⟨a,rfl,yu,hc⟩;subst yu;refine ⟨_,rfl,rfl,rfl,?_⟩;rcases hc with ⟨k,rfl,hk,ha⟩|⟨wA,rfl⟩
 case inr=>
  refine yes rfl λw4 e4=>⟨?_,lE.af e4 aa⟩
  unfold cQ;rw [vL ju.m wA];rfl
 cases a with
 |none=>
  refine yes rfl λw4 e4=>⟨?_,lE.af e4 aa⟩
  unfold cQ;rw [ju.at0 ha];rfl
 |some b=>
  obtain ⟨y,hy,pV,Wu⟩:=ju.at ha;have oky:=hL y pV;refine BK rfl (lI rfl (lI rfl ?_));have xd:=Ext.dr w2;have hd:=oa w2;have eyn:=Ss oky hm;have hhb: -1000000000<=y.1.ht/\y.1.ht<=1000000000:=by have:=oky.2.2.1;omega
  have qN:cQ M L k gL=if (lA (jm M.T.2) (py y.1) gL 5).2=false then (Vr,13) else if (lA (jm M.T.2) (py y.1) gL 5).1.2.1= -1 then (Vr,11) else ((lA (jm M.T.2) (py y.1) gL 5).1,0):=by unfold cQ;rw [hy]
  have castS:∀{u:World},Ext w2.drew u->eU 191 #[.func (.func 113) #[t] #[],gg (py y.1),gg gL,(5:Int)] u (Value.tuple #[htV (lA (jm M.T.2) (py y.1) gL 5).1,.bool (lA (jm M.T.2) (py y.1) gL 5).2]):=λ{u} xu=>
   aa1 (h1.ext (xd.tr xu)).tl rfl (py y.1) gL 5 ⟨aa,aa,aa⟩ (afd (by rw [aiA];decide) eyn)
  generalize lA (jm M.T.2) (py y.1) gL 5=ck at qN castS;obtain ⟨⟨⟨cx,cy,cz⟩,cb,cf,ct⟩,cq⟩:=ck;have fin:∀{u:World},Ext w2.drew u->Br (!cq)
    (∀pN:World,pN=u.setRow w0 #[ai,ai,ai,ai,ai,ai]->Ending.returned (.tuple #[.agg #[ai,ai,ai,ai,ai,ai],(13:Int)])=Value.tuple #[htV (cQ M L k gL).1,.int .i64 (cQ M L k gL).2]/\Ext w pN)
    (Br (cb==(-1))
     (∀pN:World,pN=u.setRow w0 #[ai,ai,ai,ai,ai,ai]->Ending.returned (.tuple #[.agg #[ai,ai,ai,ai,ai,ai],(11:Int)])=Value.tuple #[htV (cQ M L k gL).1,.int .i64 (cQ M L k gL).2]/\Ext w pN)
     (∀pN:World,pN=u.setRow w0 #[cx,cy,cz,cb,cf,ct]->Ending.returned (.tuple #[.agg #[cx,cy,cz,cb,cf,ct],(0:Int)])=Value.tuple #[htV (cQ M L k gL).1,.int .i64 (cQ M L k gL).2]/\Ext w pN)):=by
   intro u xu;have xx:=lE.tr (xd.tr xu);rw [qN];refine Br.mk (λhb=>λpN e30=>⟨?_,xx.af e30 aa⟩) (λhb=>Br.mk (λlK=>λpN e30=>⟨?_,xx.af e30 aa⟩) (λlK=>λpN e30=>⟨?_,xx.af e30 aa⟩))
   ·have hb:cq=false:=by simpa using hb
    rw [if_pos hb];rfl
   ·have hb:cq=true:=by simpa using hb
    have lK:cb= -1:=by simpa using lK
    rw [if_neg (by simp [hb]),if_pos lK];rfl
   ·have hb:cq=true:=by simpa using hb
    have lK:¬cb= -1:=by simpa using lK
    rw [if_neg (by simp [hb]),if_neg lK]
  have wayL:∀{u:World},Ext w2.drew u->ah u (some ⟨w.heap.size,0,none⟩) 0 (eZ gL):=λxu=>Lo.wv (r1.ext (xd.tr xu))
  have bdyL:∀{u:World},Ext w2.drew u->ah u (ab (some ⟨b,0,none⟩) 0) 0 (pk y.1):=λxu=>Xm (Wu.ext (xd.tr xu))
  refine ⟨_,_,_,_,_,_,_,_,_,bdyL (Ext.bU _),?_,?_⟩
  ·refine (mi (h1.ext xd)).bj λcu aA3=> ?_
   subst aA3;refine ⟨_,rfl,rfl,rfl,wayL (Ext.bU _),bdyL (Ext.bU _),?_,λIg e46=> ?_⟩
   ·refine (HN y.1 hhb w2.drew).bj λcp dz=> ?_
    have z16:=dz.size;refine ⟨_,_,_,rfl,dz.heap aa,dz.heap aa,wayL dz,?_,λjZ e33=> ?_⟩
    ·refine (castS dz).bj λfw fk=> ?_
     have z20:=fk.size;refine ⟨_,_,_,_,_,_,_,rfl,fk.heap aa,fk.heap aa,λjI e28 gz S2=> ?_⟩;exact fin ((dz.tr fk).tr ((aV e28).af S2 (ak _)))
    ·have gO:=aV e33;have z33:=zA e33;refine (castS (dz.tr gO)).bj λky j0=> ?_
     have z34:=j0.size;refine ⟨_,_,_,_,_,_,_,rfl,j0.heap aa,j0.heap aa,j0.heap aa,λpF e42=> ?_⟩;exact fin (((dz.tr gO).tr j0).af e42 aa)
   ·have pQ:=aV e46;have z46:=zA e46;refine (HN y.1 hhb Ig).bj λoK Fa=> ?_
    have z47:=Fa.size;refine ⟨_,_,_,rfl,Fa.heap aa,Fa.heap aa,Fa.heap aa,wayL (pQ.tr Fa),(castS (pQ.tr Fa)).bj λw51 yK=> ?_⟩;have z51:=yK.size;refine ⟨_,_,_,_,_,_,_,rfl,yK.heap aa,yK.heap aa,yK.heap aa,λpR TU=> ?_⟩;exact fin (((pQ.tr Fa).tr yK).af TU aa)
  ·intro Og e63;have Bj:=aV e63;have z63:=zA e63;refine (mi (h1.ext (xd.tr Bj))).bj λJs aA4=> ?_
   subst aA4;refine ⟨_,rfl,rfl,rfl,rfl,wayL Bj,bdyL Bj,(HN y.1 hhb Js).bj λyy rO=> ?_⟩;have z66:=rO.size;refine ⟨_,_,_,rfl,rO.heap aa,rO.heap aa,rO.heap aa,wayL (Bj.tr rO),(castS (Bj.tr rO)).bj λyM Es=> ?_⟩;have z70:=Es.size;refine ⟨_,_,_,_,_,_,_,rfl,Es.heap aa,Es.heap aa,Es.heap aa,λwu e78=> ?_⟩;exact fin (((Bj.tr rO).tr Es).af e78 aa)
end
def Qu{w:World}{g:Nat}{cs vs:LV}{E:TypeId}(hr:Row w g cs E){off:Nat}(hl:off+vs.length<=cs.length)(h1:One vs):
  Wr w (ab (aB g) off) vs.length/\∀w',w'=Vc.bC w (ab (aB g) off) vs->Row w' g (putCells cs off vs) E/\Mod (λi=>i=g) w w':=by
 rw [aF,eK];refine ⟨hr.wr hl,λw' e=> ?_⟩;rw [hr.bC hl h1] at e;subst e;exact ⟨hr.set _,rfl,rfl,rfl,by rw [setRow_size];exact ak _,λi _ hn=>setRow_other _ _ _ _ hn⟩
section
variable {F F':Nat->Prop} {w w':World} {g s o t:Nat} {M M':Sm} {occ:Value} {L:lCs}
def EL.put{av:List (Option Nat)}(he:EL w av L){k b:Nat}(ha:av[k]? =some (some b)){y:cS}(hr:Row w' b (Gb y) kc)(hs:∀a,some a ∈ av->a≠b->w'.heap[a]? =w.heap[a]?):EL w' av (L.set k (some y)):=by
 have hk:k<16:=by rw [<-he.n];exact (cP.1 ha).1
 refine ⟨he.n,by rw [lU];exact he.m,λi a hi=> ?_,λi hi=> ?_,he.d⟩
 ·by_cases q:i=k
  ·subst q;rw [ha] at hi
   cases hi
   exact ⟨y,uH (by rw [he.m];exact hk),hr⟩
  ·obtain ⟨x,h1,h2⟩:=he.s i a hi;refine ⟨x,by rw [GJ (Ne.symm q)];exact h1,h2.same (hs a (aQ hi) λe=> ?_)⟩;subst e;exact q (he.d i k a hi ha)
 ·have q:i≠k:=λe=>by subst e;rw [ha] at hi;cases hi
  rw [GJ (Ne.symm q)];exact he.z i hi
def dQ.aq{w0:World}(x:Ext w w0)(h:dQ F w0 g s o t M occ L w'):dQ F w g s o t M occ L w':=by obtain ⟨F',h1,h2⟩:=h;exact ⟨F',h1,(aI.aq x).trans h2⟩
def AZ(L:lCs)(n:Int)(i:Int × Int × Bool):Int × lCs:=match cG L n with|none=>(6,L)|some y=>(0,L.set n.toNat (some (y.1,i)))
def aa8(h:EF F w g s o t M occ L)(n:Int)(i:Int × Int × Bool):ae 133 #[g,n,.agg #[i.1,i.2.1,.bool i.2.2]] w λe w'=>e=Value.int .i64 (AZ L n i).1/\dQ F w g s o t M occ (AZ L n i).2 w':=by
 apply xO.vc;intro w0 e0;have x0:=aV e0;have z0:=zA e0;have h0:=h.ext x0;obtain ⟨av,dh,ju,hFg,hFa,bq⟩:=h0.row;refine (E2 dh ju.n n).mono ?_;rintro e w1 ⟨a,rfl,S7,hc⟩;subst S7;unfold AZ;refine ⟨_,rfl,rfl,?_⟩;rcases hc with ⟨k,rfl,hk,ha⟩|⟨wA,rfl⟩
 case inr=>
  rw [vL ju.m wA];exact yes rfl ⟨rfl,dQ.aq x0 (h0.res (Ext.bU _))⟩
 cases a with
 |none=>
  rw [ju.at0 ha];exact yes rfl ⟨rfl,dQ.aq x0 (h0.res (Ext.bU _))⟩
 |some b=>
  obtain ⟨y,hy,pV,Wu⟩:=ju.at ha;have hb:=h.lt (i:=b);rw [hy];have HU:One [i.1,i.2.1,.bool i.2.2]:=by intro u hu;simp at hu;rcases hu with rfl|rfl|rfl<;>rfl
  obtain ⟨p1,p2⟩:=Qu Wu (off:=9) (vs:=[.int .i64 i.1,.int .i64 i.2.1,.bool i.2.2]) (by show 9+3<=12;decide) HU;have hbw:b<w:=h.lt (hFa b (aQ ha));refine BK rfl (lI rfl (lI rfl ⟨⟨rfl,p1⟩,?_,λw3 e3=> ?_⟩))
  ·intro q;have q:some b=some w.heap.size:=q;have q:b=w.heap.size:=Option.some.inj q;omega
  obtain ⟨q1,q2⟩:=p2 w3 e3;have q1:Row w3 b (Gb (y.1,i)) kc:=q1;have fA:b≠g:=λe=>dh.ne Wu kM.2.2 e.symm
  refine ⟨rfl,dQ.aq x0 (bq (q2.mono λj _ hj=> .inr (by rw [hj];exact aQ ha)) (dh.same (q2.same _ dh.lt λe=>fA e.symm)) ?_ λa ha=> .inl ha)⟩;show EL w3 av (L.set ((k:Nat):Int).toNat (some (y.1,i)));rw [gZ];exact ju.put ha q1 λa ha' hn=>q2.same _ (ju.lt ha') hn
def ac4:eJ:=⟨(0,0,0),(0,0,0),0,0,false⟩
def eH(L:lCs)(n:Int):eJ × Bool:=match cG L n with|none=>(ac4,false)|some y=>(y.1,true)
def YV(h:EF F w g s o t M occ L)(n:Int):eU 47 #[g,n] w (Value.tuple #[IB (eH L n).1,.bool (eH L n).2]):=by
 apply xP.vc;intro w0 e0;have x0:=aV e0;have z0:=zA e0;have h0:=h.ext x0;obtain ⟨av,dh,ju,-,-,-⟩:=h0.row;refine (E2 dh ju.n n).mono ?_;rintro e w1 ⟨a,rfl,S7,hc⟩;subst S7;unfold eH;refine ⟨_,rfl,rfl,?_⟩;rcases hc with ⟨k,rfl,hk,ha⟩|⟨wA,rfl⟩
 case inr=>
  rw [vL ju.m wA];exact yes rfl λw3 e3=>⟨rfl,x0.af e3 aa⟩
 cases a with
 |none=>
  rw [ju.at0 ha];exact yes rfl λw3 e3=>⟨rfl,x0.af e3 aa⟩
 |some b=>
  obtain ⟨y,hy,pV,Wu⟩:=ju.at ha;rw [hy];exact BK rfl (lI rfl (lI rfl ⟨_,_,_,_,_,_,_,_,_,Xm Wu,λbw Dv=>⟨rfl,x0.af Dv aa⟩⟩))
def iE(M:Sm)(L:lCs)(c:Ce)(b:Int):Int × Sm:=if aD b=true/\Gd L c=true then (12,M) else ((jv M.T.2 c b).2,Av M c b)
def Dt(h:EF F w g s o t M occ L){m:Int}(hL:ES m L)(c:Ce)(b:Int)(Eo:qT c)(hc:(jv M.T.2 c b).2=0->fo c)(hk:qJ M 800000000):ae 126 #[g,gg c,b] w λe w'=>e=Value.int .i64 (iE M L c b).1/\dQ F w g s o t (iE M L c b).2 occ L w':=by
 apply xN.vc;intro w0 e0;have x0:=aV e0;have z0:=zA e0;have inner:∀{u:World},Ext w0 u->¬(aD b=true/\Gd L c=true)->∃p:Option Addr,Vc.ld u (ab (aB g) 0)=some (.pointer p)/\
   ae 188 #[p,gg c,b] u λe w6=>∃x7:Int,e=x7/\w6.heap[w.heap.size]? =u.heap[w.heap.size]?/\Ending.returned x7=Value.int .i64 (iE M L c b).1/\dQ F w g s o t (iE M L c b).2 occ L w6:=by
  intro u xu hn;have hu:=h.ext (x0.tr xu);have zu:=xu.size;obtain ⟨Fs,hs,pO,dP,bq⟩:=hu.Is;refine ⟨_,pO,(Df hs c b Eo hc hk).bj λw6 hr=> ?_⟩;have hk6:w6.heap[w.heap.size]? =u.heap[w.heap.size]? :=by obtain ⟨F6,-,t6⟩:=hr;exact t6.mod.same _ aa λq=>by have:=h.lt (dP _ q);omega
  unfold iE;rw [if_neg hn];exact ⟨_,rfl,hk6,rfl,dQ.aq (x0.tr xu) (bq hr)⟩
 refine (rf b w0).bj λw1 S7=> ?_
 subst S7;refine ⟨_,rfl,rfl,Br.mk (λhb=> ?_) (λhb=>inner (Ext.dr _) λq=>by rw [hb] at q;cases q.1)⟩;have h1:=h.ext x0;obtain ⟨av,dh,ju,-,-,-⟩:=h1.row;refine (JZ dh ju hL c).bj λw3 x3=> ?_
 have z3:=x3.size;refine ⟨_,rfl,x3.heap aa,Br.mk (λhq=> ?_) (λhq=> ?_)⟩
 ·unfold iE;rw [if_pos ⟨hb,hq⟩];exact ⟨rfl,h.res (x0.tr x3)⟩
 ·exact inner (x3.tr (Ext.dr _)) λq=>by rw [hq] at q;cases q.2
def HR(h:EF F w g s o t M occ L){m:Int}(hL:ES m L)(c:Ce)(hc:fo c)(b:Int)(hk:qJ M 800000000):ae 126 #[g,gg c,b] w λe w'=>e=Value.int .i64 (iE M L c b).1/\dQ F w g s o t (iE M L c b).2 occ L w':=
 Dt h hL c b hc.ok (λ_=>hc) hk
end
def jQ(c:Ce)(m:Int):Prop:=(-m<=c.1/\c.1<=m)/\(-m<=c.2.1/\c.2.1<=m)/\-m<=c.2.2/\c.2.2<=m
def jQ.wide{c:Ce}{m:Int}(h:jQ c m)(hm:m<=2000000000):fo c:=by unfold jQ at h;unfold fo;omega
def Rl{M:Sm}{L:lCs}{n:Int}{gL:Ce}(e:(cQ M L n gL).2=0):∃y,cG L n=some y/\some y ∈ L/\lA (jm M.T.2) (py y.1) gL 5=((cQ M L n gL).1,true)/\(cQ M L n gL).1.2.1≠-1:=by
 unfold cQ at e ⊢
 cases hq:cG L n with
 |none=>rw [hq] at e;simp only at e;omega
 |some y=>
  rw [hq] at e;simp only at e ⊢;have hm:some y ∈ L:=by
   unfold cG at hq;split at hq
   ·rcases PZ.1 hq with hq;exact aQ hq
   ·cases hq
  refine ⟨y,rfl,hm,?_⟩;split at e
  ·simp only at e;omega
  split at e
  ·simp only at e;omega
  rename_i h1 h2;rw [if_neg h1,if_neg h2];exact ⟨Prod.ext rfl (by simpa using h1),h2⟩
def Co{M:Sm}{L:lCs}{m:Int}(hL:ES m L)(hm:m<=99970000000000){n:Int}{gL:Ce}(e:(cQ M L n gL).2=0):jQ (cQ M L n gL).1.1 1600000005/\jQ (Su (cQ M L n gL).1).1 1600000006:=by
 obtain ⟨y,h1,h2,h3,h4⟩:=Rl e;have hn:=Rm (by rw [aiA];decide) h3;have he:=Ss (hL y h2) hm;have hc:jQ (cQ M L n gL).1.1 1600000005:=by unfold jQ;omega
 refine ⟨hc,?_⟩;generalize (cQ M L n gL).1=h at hc;obtain ⟨c,b,f,tt⟩:=h;unfold Su;split
 ·rename_i hf;simp only at hf ⊢;obtain ⟨k,rfl⟩:∃k:Nat,f=k:=⟨f.toNat,aa⟩;rw [gZ];unfold jQ at hc;have:k=0\/k=1\/k=2\/k=3\/k=4\/k=5:=by omega
  rcases this with rfl|rfl|rfl|rfl|rfl|rfl
  ·show jQ (c.1-1,c.2.1,c.2.2) _;unfold jQ;simp only;simp only at hc;omega
  ·show jQ (c.1+1,c.2.1,c.2.2) _;unfold jQ;simp only;simp only at hc;omega
  ·show jQ (c.1,c.2.1-1,c.2.2) _;unfold jQ;simp only;simp only at hc;omega
  ·show jQ (c.1,c.2.1+1,c.2.2) _;unfold jQ;simp only;simp only at hc;omega
  ·show jQ (c.1,c.2.1,c.2.2-1) _;unfold jQ;simp only;simp only at hc;omega
  ·show jQ (c.1,c.2.1,c.2.2+1) _;unfold jQ;simp only;simp only at hc;omega
 ·unfold jQ;simp only;omega
def te(M:Sm)(L:lCs)(n:Int)(gL:Ce)(b:Int):Int × Sm:=
 if (cQ M L n gL).2=6 then (6,M) else if cR b=false then (1,M) else if b=0 then (1,M) else if (cQ M L n gL).2≠0 then ((cQ M L n gL).2,M) else if (Su (cQ M L n gL).1).2=false then (12,M) else iE M L (Su (cQ M L n gL).1).1 b
def mG(M:Sm)(L:lCs)(n:Int)(gL:Ce):(Int × Int) × Sm:=
 if (cQ M L n gL).2≠0 then ((0,(cQ M L n gL).2),M) else if (iE M L (cQ M L n gL).1.1 0).1≠0 then ((0,(iE M L (cQ M L n gL).1.1 0).1),(iE M L (cQ M L n gL).1.1 0).2) else (((cQ M L n gL).1.2.1,0),(iE M L (cQ M L n gL).1.1 0).2)
section
variable {F F':Nat->Prop} {w w':World} {g s o t:Nat} {M M':Sm} {occ:Value} {L:lCs}
def dQ.aW{k:Nat}(h:EF F w g s o t M occ L){w0:World}(x:Ext w w0)(hk:w.heap.size<=k)(hk0:k<w0)(h0:∀i,F i->i<w.heap.size){M':Sm}{occ':Value}{L':lCs}(r:dQ F w0 g s o t M' occ' L' w'):w'.heap[k]? =w0.heap[k]? :=by obtain ⟨F',-,h2⟩:=r;exact h2.mod.same _ hk0 λq=>by have:=h0 _ q;omega
def SW(h:EF F w g s o t M occ L){m:Int}(hL:ES m L)(hm:m<=99970000000000)(n:Int)(gL:Ce)(b:Int)(hk:qJ M 800000000):
  ae 127 #[g,n,gg gL,b] w λe w'=>e=Value.int .i64 (te M L n gL b).1/\dQ F w g s o t (te M L n gL b).2 occ L w':=by
 apply vY.vc;intro w0 e0;have x0:=aV e0;have z0:=zA e0;refine (vM (h.ext x0) hL hm n gL).bj λw1 x1=> ?_
 have z1:=x1.size;refine ⟨_,_,_,_,_,_,_,rfl,x1.heap aa,λw9 e9 bc vy=> ?_⟩;have bM:Ext w1 bc:=(aV e9).af vy (ak _);have z10:bc.heap.size=w1.heap.size+1:=by rw [zR vy,zA e9]
 have Ox:=x0.tr (x1.tr bM);unfold te;refine Br.mk (λh6=> ?_) (λh6=>(ig b bc).mono ?_)
 ·rw [if_pos (by simpa using h6)];have h6:=fC h6;rw [h6];exact ⟨rfl,h.res Ox⟩
 rw [if_neg (by simpa using h6)];rintro e bB ⟨rfl,bR⟩;have z11:=bR.size;have akc:=Ox.tr bR;refine ⟨_,rfl,bR.heap aa,bR.heap aa,Br.mk (λhb=> ?_) (λhb=>Br.mk (λOo=> ?_) (λOo=>Br.mk (λhn=> ?_) (λhn=> ?_)))⟩
 ·rw [if_pos (by simpa using hb)];exact ⟨rfl,h.res akc⟩
 ·rw [if_neg (by simpa using hb),if_pos (by simpa using Oo)];exact ⟨rfl,h.res akc⟩
 ·rw [if_neg (by simpa using hb),if_neg (by simpa using Oo),if_pos (by simpa using hn)];exact ⟨rfl,h.res akc⟩
 rw [if_neg (by simpa using hb),if_neg (by simpa using Oo),if_neg (by simpa using hn)];have hn0:=fC hn;obtain ⟨hn1,hn2⟩:=Co hL hm hn0;refine (Sv (cQ M L n gL).1 (hn1.wide aw) bB).bj λbw cN=> ?_
 have z13:=cN.size;refine ⟨_,_,_,_,rfl,cN.heap aa,cN.heap aa,λdN Od eQ S8=> ?_⟩;have dR:Ext bw eQ:=(aV Od).af S8 (ak _);have z19:eQ.heap.size=bw.heap.size+1:=by rw [zR S8,zA Od]
 have abM:=akc.tr (cN.tr dR);apply Br.mk<;>intro hq
 ·rw [if_pos (by simpa using hq)];exact ⟨rfl,h.res abM⟩
 rw [if_neg (by simpa using hq)];refine (HR (h.ext abM) hL (Su (cQ M L n gL).1).1 (hn2.wide aw) b hk).bj λfw r=> ?_
 have hh:∀i,F i->i<w.heap.size:=λi=>h.lt
 exact ⟨_,rfl,dQ.aW h abM aa aa hh r,dQ.aW h abM aa aa hh r,dQ.aW h abM aa aa hh r,rfl,dQ.aq abM r⟩
def SX(h:EF F w g s o t M occ L){m:Int}(hL:ES m L)(hm:m<=99970000000000)(n:Int)(gL:Ce)(hk:qJ M 800000000):
  ae 129 #[g,n,gg gL] w λe w'=>e=Value.tuple #[.int .i64 (mG M L n gL).1.1,.int .i64 (mG M L n gL).1.2]/\dQ F w g s o t (mG M L n gL).2 occ L w':=by
 apply vZ.vc;intro w0 e0;have x0:=aV e0;have z0:=zA e0;refine (vM (h.ext x0) hL hm n gL).bj λw1 x1=> ?_
 have z1:=x1.size;refine ⟨_,_,_,_,_,_,_,rfl,x1.heap aa,λw9 e9 bc vy=> ?_⟩;have bM:Ext w1 bc:=(aV e9).af vy (ak _);have z10:bc.heap.size=w1.heap.size+1:=by rw [zR vy,zA e9]
 have Ox:=x0.tr (x1.tr bM);unfold mG;refine Br.mk (λh0=> ?_) (λh0=>yes (by simpa using h0) ?_)
 ·have hn0:=fC h0;rw [if_neg (by simp [hn0])];obtain ⟨hn1,-⟩:=Co hL hm hn0;refine (HR (h.ext Ox) hL (cQ M L n gL).1.1 (hn1.wide aw) 0 hk).bj λbB r=> ?_
  have hh:∀i,F i->i<w.heap.size:=λi=>h.lt
  refine ⟨_,rfl,dQ.aW h Ox aa aa hh r,dQ.aW h Ox aa aa hh r,Br.mk (λhq=> ?_) (λhq=> ?_)⟩
  ·rw [if_pos (by simpa using hq)];exact ⟨rfl,dQ.aq Ox r⟩
  ·rw [if_neg (by simpa using hq)];exact ⟨rfl,dQ.aq Ox r⟩
 ·rw [if_pos (by simpa using h0)];exact ⟨rfl,h.res Ox⟩
end
def wO(M:Sm)(L:lCs)(i:Nat):Bool:=match cG L i with|some y=>BR M y.1|none=>false
def kI(M:Sm)(L:lCs):List Nat:=(List.range 16).filter (wO M L)
def uT(M:Sm)(L:lCs)(i:Nat):eJ:=match cG L i with|some y=>zS (jm M.T.2) y.1 y.2|none=>ac4
def nL(M:Sm)(L:lCs):List eJ:=vb (jm M.T.2) ((kI M L).map (uT M L))
def DX(L:lCs)(i:Nat)(b:eJ):lCs:=match cG L i with|some y=>L.set i (some (b,y.2))|none=>L
def J5(L:lCs)(l:List (Nat × eJ)):lCs:=l.foldl (λL x=>DX L x.1 x.2) L
def sL(M:Sm)(L:lCs):lCs:=J5 L ((kI M L).zip (nL M L))
def zP(M:Sm)(L:lCs):Sm × lCs:=(QR (Gd (sL M L)) M,sL M L)
abbrev tLp:TypeId:=61
def aqu(p:Option Addr):One [.pointer p]:=by intro u hu;simp at hu;subst hu;rfl
def uU{L:lCs}{i:Nat}{y:cS}(h:cG L i=some y):some y ∈ L:=by unfold cG at h;rw [if_pos aa,gZ] at h;exact aQ (PZ.1 h)
def zQ{M:Sm}{L:lCs}{i:Nat}(h:i ∈ kI M L):i<16/\∃y,cG L i=some y:=by
 unfold kI at h;obtain ⟨h1,h2⟩:=j3.1 h;refine ⟨tA.1 h1,?_⟩;unfold wO at h2
 cases hq:cG L i with
 |none=>rw [hq] at h2;cases h2
 |some y=>exact ⟨y,rfl⟩
def afl{L:lCs}{i j:Nat}{b:eJ}:(cG (DX L i b) j).isSome=(cG L j).isSome:=by
 unfold DX
 cases hq:cG L i with
 |none=>rfl
 |some y=>
  simp only;unfold cG at hq ⊢;rw [if_pos aa,gZ] at hq ⊢;rw [if_pos aa];by_cases e:i=j
  ·subst e;have hq:=PZ.1 hq;rw [uH (cP.1 hq).1,hq];rfl
  ·rw [GJ e]
def J7{j:Nat}:∀(l:List (Nat × eJ))(L:lCs),(cG (J5 L l) j).isSome=(cG L j).isSome
 | [],L=>rfl
 |x::l,L=>(J7 l (DX L x.1 x.2)).trans afl
def amX{L:lCs}{i:Nat}{b:eJ}{m:Int}(h:ES m L)(hb:okB m b):ES m (DX L i b):=by
 unfold DX
 cases hq:cG L i with
 |none=>exact h
 |some y=>
  intro z hz;rcases qk hz with hz|hz
  ·exact h z hz
  ·cases hz
   exact hb
def Xn{m:Int}:∀(l:List (Nat × eJ)) {L:lCs},ES m L->(∀x ∈ l,okB m x.2)->ES m (J5 L l)
 | [],L,h,_=>h
 |x::l,L,h,hl=>Xn l (amX h (hl x bo)) λy hy=>hl y (by simp [hy])
def ah2(M:Sm)(L:lCs):(kI M L).length<=16:=by have:=zw (wO M L) (List.range 16);rw [Gs] at this;exact this
def adw{M:Sm}{L:lCs}{m:Int}(h:ES m L)(hm:m<=99970000000000):∀b ∈(kI M L).map (uT M L),okB (m+16777216) b:=by intro b hb;obtain ⟨i,hi,rfl⟩:=bf.1 hb;obtain ⟨-,y,hy⟩:=zQ hi;unfold uT;rw [hy];exact aif (h y (uU hy)) hm
section
variable {F F':Nat->Prop} {w w':World} {g s o t:Nat} {M M':Sm} {occ:Value} {L:lCs}
def EL.avH{av:List (Option Nat)}(he:EL w av L){k b:Nat}(ha:av[k]? =some (some b)){y:cS}(hy:cG L k=some y)(x:eJ){w':World}(hr:Row w' b (Gb (x,y.2)) kc)(hs:∀a,some a ∈ av->a≠b->w'.heap[a]? =w.heap[a]?):EL w' av (DX L k x):=by
 have e:DX L k x=L.set k (some (x,y.2)):=by unfold DX;rw [hy]
 rw [e];exact he.put ha hr hs
def EL.full{av:List (Option Nat)}(he:EL w av L){k:Nat}{y:cS}(hk:k<16)(hy:cG L k=some y):∃b,av[k]? =some (some b)/\Row w b (Gb y) kc:=by
 obtain ⟨a,ha⟩:=bZ (l:=av) (i:=k) (by rw [he.n];exact hk)
 cases a with
 |none=>rw [he.at0 ha] at hy;cases hy
 |some b=>
  obtain ⟨z,h1,-,h3⟩:=he.at ha;rw [h1] at hy
  cases hy
  exact ⟨b,ha,h3⟩
def SF.oc{Fs:Nat->Prop}(h2:SF Fs w s o t M occ){p:Value}{av:List (Option Nat)}(h1:Row w g (p::av.map pA) uE)(h3:EL w av L){m:Int}(hL:ES m L):Oc (.func (.func 84) #[g] #[]) (Gd L) Fs w:=by
 have ng:¬Fs g:=h2.qi h1 kM.1.1 kM.1.2.1 kM.1.2.2.1 kM.1.2.2.2.1 kM.1.2.2.2.2.1 kM.1.2.2.2.2.2.1 kM.1.2.2.2.2.2.2;have na:∀a,some a ∈ av->¬Fs a:=λa ha=>by obtain ⟨i,hi⟩:=qI ha;obtain ⟨x,-,hr⟩:=h3.s i a hi;exact h2.qi hr kM.2.1.1 kM.2.1.2.1 kM.2.1.2.2.1 kM.2.1.2.2.2.1 kM.2.1.2.2.2.2.1 kM.2.1.2.2.2.2.2.1 kM.2.1.2.2.2.2.2.2
 refine ⟨λi=>i=g\/some i ∈ av,λi hi=> ?_,λw' hk c _=>bV (by kernel_rfl) rfl (JZ (h1.same (hk _ (.inl rfl))) (h3.same λa ha=>hk a (.inr ha)) hL c)⟩;rcases hi with rfl|hi
 ·exact ⟨h1.lt,ng⟩
 ·exact ⟨h3.lt hi,na i hi⟩
end
section
variable {F F':Nat->Prop} {w w':World} {g s o t:Nat} {M M':Sm} {occ:Value} {L:lCs}
abbrev Qs(M:Sm)(L:lCs)(j:Nat):lCs:=J5 L (((kI M L).zip (nL M L)).take j)
def Zk{j:Nat}{i:Nat}{b:eJ}(hi:(kI M L)[j]? =some i)(hb:(nL M L)[j]? =some b):Qs M L (j+1)=DX (Qs M L j) i b:=by
 have e:((kI M L).zip (nL M L))[j]? =some (i,b):=by rw [List.getElem?_zip_eq_some];exact ⟨hi,hb⟩
 unfold Qs J5;rw [dq,e,nk];rfl
def adv(h:(nL M L).length=(kI M L).length):Qs M L (kI M L).length=sL M L:=by unfold Qs sL;rw [dI (by rw [List.length_zip,h];omega)]
def Zl(h:EF F w g s o t M occ L){m:Int}(hL:ES m L)(hm0:0<=m)(hm:m<=99900000000000)(hd:Xl (vX M))(hk:qJ M 600000000)(ayb:1<=M.dC/\M.dC<=64):
  ae 50 #[g] w λe w'=>e=Value.int .i64 (vX M).length/\dQ F w g s o t (zP M L).1 (.func (.func 84) #[g] #[]) (zP M L).2 w'/\ES (m+3300000000) (zP M L).2:=by
 apply xK.vc;obtain ⟨av,dh,ju,hFg,hFa,bq⟩:=h.row;have pO:ah w (ab (aB g) 1) 0 (av.map pA):=by rw [aF];exact dh.bK λj hj=>by rw [show 0+1+j=j+1 from by omega,J6]
 obtain ⟨b0,b1,b2,b3,b4,b5,b6,b7,b8,b9,b10,b11,b12,KO,V5,X5,hav⟩:=Mt ju.n;have gm:∀k:Nat,k<16->∃a:Option Nat,(([b0,b1,b2,b3,b4,b5,b6,b7,b8,b9,b10,b11,b12,KO,V5,X5]:List (Option Nat)).map pA)[((k:Nat):Int).toNat*1]? =some (pA a)/\av[k]? =some a:=λk hk=>by obtain ⟨a,ha⟩:=bZ (l:=av) (i:=k) (by rw [ju.n];exact hk);exact ⟨a,by rw [<-hav,gZ,zm,aZ,ha];rfl,ha⟩
 rw [hav] at pO;have atk:∀i:Nat,i ∈ kI M L->∃b y,av[i]? =some (some b)/\cG L i=some y/\Row w b (Gb y) kc:=λi hi=>by obtain ⟨h1,y,hy⟩:=zQ hi;obtain ⟨b,h2,h3⟩:=ju.full h1 hy;exact ⟨b,y,h2,hy,h3⟩
 have hwl:=ah2 M L
 let ptr:Nat->LV:=λi=> [pA (av.getD i none)]
 have ptr_eq:∀{i:Nat} {a:Option Nat},av[i]? =some a->ptr i=[pA a]:=λ{i a} ha=>by show [pA (av.getD i none)]=_;rw [dn,ha];rfl
 refine ⟨_,_,_,_,_,_,_,_,_,_,_,_,_,_,_,_,pO,λn x sl wr=>∃k:Nat,x=k/\k+n=16/\ar w tLp 1 wr sl (((List.range k).filter (wO M L)).map ptr)/\Ext w wr,⟨16,0,rfl,rfl,ar.nil,Ext.bU _⟩,?_⟩;rintro n us x sl wr ⟨k,rfl,hk',ho,xr⟩;have zr:=xr.size;apply Br.mk<;>intro hb
 ·have hb:=fC hb;obtain ⟨a,ha,ha'⟩:=gm k aa;have wk:=nJ (j:=k);have db:sl.n<=16:=by have h1:=(ho.rd (show 0<1 by decide)).n;have h2:=zw (wO M L) (List.range k);rw [aJ] at h1;rw [Gs] at h2;omega
  have skip:wO M L k=false->∀{u:World},Ext wr u->∃n22,n22<n/\∃k':Nat,aC ((k:Int)+1)=k'/\k'+n22=16/\ar w tLp 1 u ⟨sl.a,sl.n,sl.c⟩ (((List.range k').filter (wO M L)).map ptr)/\Ext w u:=λhq {u} xu=>by refine ⟨n-1,aa,k+1,wk,aa,?_,xr.tr xu⟩;rw [Qt,wC,bS,WX (by rw [hq];decide)];simpa using ho.ext xu
  refine ⟨⟨aa,aa⟩,_,ha,?_⟩
  cases a with
  |none=>
   refine BK rfl (skip ?_ (Ext.bU _));unfold wO;rw [ju.at0 ha']
  |some b=>
   obtain ⟨y,hy,pV,Wu⟩:=ju.at ha';refine yes rfl (lI rfl (lI rfl ⟨_,_,_,_,_,_,_,_,_,Xm (Wu.ext xr),(C3 (h.ext xr) y.1).bj λjZ gO=> ?_⟩));have z33:=gO.size;have hwake:wO M L k=BR M y.1:=by unfold wO;rw [hy]
   refine ⟨_,rfl,Br.mk (λhq=>λiI e35=> ?_) (λhq=>skip (by rw [hwake];exact hq) gO)⟩;subst e35;obtain ⟨S9,hres8⟩:=(ho.ext gO).kU (bytes:=8) (news:=[pA (some b)]) (.cells #[pA (some b)] tLp) aa rfl (aqu _) aa aa;refine ⟨S9,λs36 jJ ayc=> ?_⟩;obtain ⟨f8,KT,hn8,x8,hk8,-⟩:=hres8 s36 jJ ayc;refine ⟨f8,n-1,aa,k+1,wk,aa,?_,(Below.trans (xr.tr gO) x8:Below w w jJ)⟩;rw [Qt,wC,bS,WW (by rw [hwake];exact hq)];show ar _ _ _ _ _ (_++ [ptr k]);rw [ptr_eq ha'];exact KT
 have hb:=fC hb;have EE:k=16:=by omega
 subst EE;replace ho:ar w tLp 1 wr sl ((kI M L).map ptr):=ho;have tL:sl.n=(kI M L).length:=by rw [(ho.rd (show 0<1 by decide)).n,aJ]
 have slk:∀b,sl.aX=some b->w.heap.size<=b/\b<wr.heap.size:=λb hb=>ho.own.lt hb
 refine ⟨λn x s2 iS=>∃j:Nat,x=j/\j+n=(kI M L).length/\ar wr DM 9 iS s2 ((((kI M L).take j).map (uT M L)).map pk)/\Ext wr iS,⟨(kI M L).length,0,rfl,aa,ar.nil,Ext.bU _⟩,?_⟩;rintro n2 wZ x s2 iS ⟨j,rfl,hj,ho2,vS⟩;have z43:=vS.size;apply Br.mk<;>intro hb
 ·have hb:=fC hb;have hjw:j<(kI M L).length:=by omega
  obtain ⟨i,hi⟩:=bZ (l:=kI M L) (i:=j) hjw;obtain ⟨b,y,hab,hy,Wu⟩:=atk i (aQ hi);have agn:=(ho.ext vS).rd (show 0<1 by decide);have Ye:((kI M L).map ptr)[j]? =some [pA (some b)]:=by rw [aZ,hi];exact congrArg some (ptr_eq hab)
  have aos:Vc.ld iS (ab sl.a ((j:Int).toNat*1))=some (pA (some b)):=by have:=agn.at Ye (j:=0) (v:=pA (some b)) rfl;rw [gx] at this;exact this
  have xd:=Ext.dr iS;have hbdL:∀{u:World},Ext iS u->ah u (ab (aB b) 0) 0 (pk y.1):=λxu=>Xm (Wu.ext (xr.tr (vS.tr xu)))
  have hinL:∀{u:World},Ext iS u->ah u (ab (aB b) 9) 0 [.int .i64 y.2.1,.int .i64 y.2.2.1,.bool y.2.2.2]:=λxu=>aqv (Wu.ext (xr.tr (vS.tr xu)))
  refine ⟨agn.j2 aw aa aa,_,aos,lI rfl (lI rfl ⟨_,_,_,_,_,_,_,_,_,hbdL xd,lI rfl (lI rfl ⟨_,_,_,hinL xd,(mi (h.ext (xr.tr (vS.tr xd)))).bj λCD aye=> ?_⟩)⟩)⟩;subst aye;have oky:=hL y (uU hy);refine ⟨_,rfl,hinL xd,hbdL xd,(UX (h.ext (xr.tr (vS.tr xd))).tl rfl y.1 oky.wdi oky.2.2.2 (oky.zF aa) aa y.2).bj λnX rM=> ?_⟩;have z60:=rM.size;have zd:=oa iS;refine ⟨_,_,_,_,_,_,_,_,_,rfl,λyM e70=> ?_⟩;subst e70;have db:s2.n<=16:=by have h1:=(ho2.rd (show 0<9 by decide)).n;rw [aJ,aJ,cK] at h1;omega
  obtain ⟨S9,hres8⟩:=(ho2.ext (xd.tr rM)).kU (bytes:=72) (news:=pk (zS (jm M.T.2) y.1 y.2)) (.cells (pk (zS (jm M.T.2) y.1 y.2)).toArray DM) aa rfl (Mu _) aa aa;refine ⟨S9,λs71 w72 ayf=> ?_⟩;obtain ⟨f8,KT,hn8,x8,hk8,-⟩:=hres8 s71 w72 ayf;have wk:=nJ (j:=j);refine ⟨f8,n2-1,aa,j+1,wk,aa,?_,(Below.trans (vS.tr (xd.tr rM)) x8:Below wr wr w72)⟩;rw [dq,hi,bS,bS];have e1:uT M L i=zS (jm M.T.2) y.1 y.2:=by unfold uT;rw [hy]
  show ar _ _ _ _ _ (_++ [pk (uT M L i)]);rw [e1];exact KT
 have hb:=fC hb;have hjw:j=(kI M L).length:=by omega
 subst hjw;rw [kA] at ho2;have h43:=h.ext (xr.tr vS);refine (mi h43).bj λJl ayg=> ?_
 subst ayg;refine ⟨_,rfl,(UY h43.tl rfl ho2 (by rw [aJ];exact hwl) (adw hL aa) aa aa).mono ?_⟩;rintro e ur ⟨s76,rfl,ago,KY,hok,hln⟩;rw [aJ] at hln;replace ago:ar Jl DM 9 ur s76 ((nL M L).map pk):=ago;replace hln:(nL M L).length=(kI M L).length:=hln;replace hok:∀b ∈ nL M L,okB (m+16777216+16*16*12582912) b:=hok;have z75:=KY.size;have s76k:∀b,s76.aX=some b->Jl.heap.size<=b/\b<ur.heap.size:=λb hb=>ago.own.lt hb
 have aFg:s76.n=(kI M L).length:=by rw [(ago.rd (show 0<9 by decide)).n,aJ,hln]
 have agp:=xr.tr (vS.tr KY);have avlt:∀a,some a ∈ av->a<w.heap.size:=λa ha=>ju.lt ha
 have fA:∀a,some a ∈ av->a≠g:=λa ha q=>by subst q;obtain ⟨i,hi⟩:=qI ha;obtain ⟨x,-,hr⟩:=ju.s i a hi;exact dh.ne hr kM.2.2 rfl
 refine ⟨s76,rfl,λn x wx=>∃j:Nat,x=j/\j+n=(kI M L).length/\EL wx av (Qs M L j)/\Mod (λi=>some i ∈ av) ur wx,⟨(kI M L).length,0,rfl,aa,(ju.same λa ha=>agp.heap (ju.lt ha)),Mod.refl _ _⟩,?_⟩;rintro n3 us3 x wx ⟨j,rfl,hj,ajG,m81⟩;have z81:=m81.size;apply Br.mk<;>intro hb
 ·have hb:=fC hb;have hjw:j<(kI M L).length:=by omega
  obtain ⟨i,hi⟩:=bZ (l:=kI M L) (i:=j) hjw;obtain ⟨x,hx⟩:=bZ (l:=nL M L) (i:=j) aa;obtain ⟨b,y0,hab,hy0,-⟩:=atk i (aQ hi);have abA:=(zQ (aQ hi)).1;obtain ⟨y,hy⟩:∃y,cG (Qs M L j) i=some y:=by
   have:=J7 (j:=i) (((kI M L).zip (nL M L)).take j) L;rw [hy0] at this
   cases hq:cG (Qs M L j) i with
   |none=>rw [hq] at this;cases this
   |some y=>exact ⟨y,rfl⟩
  obtain ⟨b',arT,Wu⟩:=ajG.full abA hy;rw [hab] at arT
  cases arT
  have hrd76:=(m81.dX ago λb hb hq=>by have:=s76k b hb;have:=avlt b hq;omega).rd (show 0<9 by decide);have hrx:((nL M L).map pk)[j]? =some (pk x):=by rw [aZ,hx];rfl
  refine ⟨hrd76.j2 aw aa aa,_,_,_,_,_,_,_,_,_,hrd76.bK hrx,λw92 e92 KZ e93=> ?_⟩;have Wa:Ext wx KZ:=(aV e92).af e93 (ak _);have z93:KZ.heap.size=wx.heap.size+1:=by rw [zR e93,zA e92]
  have xd:=Wa.tr (Ext.dr KZ);have agn:=(((m81.dX ((ho.ext vS).ext KY) λb hb hq=>by have:=slk b hb;have:=avlt b hq;omega).ext Wa).ext (Ext.dr KZ)).rd (show 0<1 by decide);have Ye:((kI M L).map ptr)[j]? =some [pA (some b)]:=by rw [aZ,hi];exact congrArg some (ptr_eq hab)
  have aos:Vc.ld KZ.drew (ab sl.a ((j:Int).toNat*1))=some (pA (some b)):=by have:=agn.at Ye (j:=0) (v:=pA (some b)) rfl;rw [gx] at this;exact this
  have aFi:=avlt b (aQ hab);have hwz:=agp.size;obtain ⟨p1,p2⟩:=Qu (Wu.ext xd) (off:=0) (vs:=pk x) (by show 0+9<=12;decide) (Mu x);refine ⟨agn.j2 aw aa aa,_,aos,lI rfl (lI rfl ⟨⟨rfl,p1⟩,?_,λw95 e95=> ?_⟩)⟩
  ·intro q;have q:some b=some wx.heap.size:=q;have q:b=wx.heap.size:=Option.some.inj q;omega
  obtain ⟨q1,q2⟩:=p2 w95 e95;have q1:Row w95 b (Gb (x,y.2)) kc:=q1;have wk:=nJ (j:=j);refine ⟨n3-1,aa,j+1,wk,aa,?_,m81.trans ((Mod.aq xd).trans (q2.mono λi _ hi=>by rw [hi];exact aQ hab))⟩;rw [Zk hi hx];refine ajG.avH hab hy x q1 λa ha hn=> ?_
  have:=avlt a ha;exact (q2.same a (by have:=xd.size;omega) hn).trans (xd.heap aa)
 have hb:=fC hb;have hjw:j=(kI M L).length:=by omega
 subst hjw;rw [adv hln] at ajG;have ayh:Mod (λi=>i=g\/some i ∈ av) w wx:=(Mod.aq agp).trans (m81.mono λi _ hi=> .inr hi);obtain ⟨F81,h81,t81⟩:=bq ayh (dh.ext agp|>.same (m81.same _ (by have:=agp.size;have:=dh.lt;omega) λq=>fA g q rfl)) ajG λa ha=> .inl ha
 have hok2:ES (m+3300000000) (sL M L):=Xn _ (hL.up aa) λx hx=>(hok x.2 (List.of_mem_zip hx).2).up aa
 obtain ⟨Fs,hs,pO,dP,hresS⟩:=h81.Is;refine ⟨_,pO,(Mv hs (.func 84) #[g] #[]).mono ?_⟩;rintro e w97 ⟨rfl,hr,-⟩;refine ⟨rfl,?_⟩;obtain ⟨F97,h97,t97⟩:=hresS hr;obtain ⟨Fs2,xh,hld2,hsub2,hresS2⟩:=h97.Is;obtain ⟨av2,hrow2,hel2,-,-,-⟩:=h97.row;refine ⟨_,hld2,(Zm xh (xh.oc hrow2 hel2 hok2) hd hk ayb).bj λIc jY=> ?_⟩;obtain ⟨F99,h99,t99⟩:=hresS2 jY;exact ⟨_,rfl,rfl,⟨F99,h99,t81.trans (t97.trans t99)⟩,hok2⟩
end
structure Ap(B:Nat)(w0:World)(s0:Sl)(w:World)(s:Sl)(b:List Int):Prop where
 own:oe B w s b
 bel:Below B w0 w
 Vh:∀j,s0.aX≠some j->j<w0.heap.size->w.heap[j]? =w0.heap[j]?
 aX:∀j,s.aX=some j->s0.aX=some j\/w0.heap.size<=j
 low:B<=w0
def Ap.refl{B:Nat}{w:World}{s:Sl}{b:List Int}(h:oe B w s b)(hB:B<=w):Ap B w s w s b:=⟨h,Below.refl _ _,λ_ _ _=>rfl,λ_ hj=> .inl hj,hB⟩
def Ap.ext{B:Nat}{w0 w u:World}{s0 s:Sl}{b:List Int}(h:Ap B w0 s0 w s b)(x:Ext w u):Ap B w0 s0 u s b:=
 ⟨h.own.ext x,Below.trans h.bel (Below.mono x (c8 h.low h.bel.size)),λj hj hl=>(x.heap (gA hl h.bel.size)).trans (h.Vh j hj hl),h.aX,h.low⟩
def Ap.n{B:Nat}{w0 w:World}{s0 s:Sl}{b:List Int}(h:Ap B w0 s0 w s b):s.n=b.length:=by rw [(h.own.rd aw).n,aJ]
def Ap.app{B:Nat}{w0 w:World}{s0 s:Sl}{b:List Int}(h:Ap B w0 s0 w s b)(news:List Int)(hl:b.length+news.length<=1000000):
  aY 1 1 w s news.length (news.map yv).flatten/\∀s' w',aT jL 1 w s news.length (news.map yv).flatten s' w'->Ap B w0 s0 w' s' (b++news)/\(∀j,s.aX≠some j->j<w.heap.size->w'.heap[j]? =w.heap[j]?)/\(s'.aX=s.aX\/s'.aX=some w.heap.size)/\w.heap.size<=w'.heap.size:=by
 have hn:=h.n;have hlm:(news.map yv).length=news.length:=aJ ..;have hB:B<=w:=c8 h.low h.bel.size;obtain ⟨hp,hr⟩:=h.own.FC (bytes:=1) (more:=news.map yv) hB (λr hr=>by obtain ⟨x,-,rfl⟩:=bf.1 hr;rfl) (λr hr=>by obtain ⟨x,-,rfl⟩:=bf.1 hr;exact wB _ _) aa aa;rw [hlm] at hp hr;refine ⟨hp,λs' w' bq=> ?_⟩;obtain ⟨h1,h2,h3,h4,h5⟩:=hr s' w' bq;have hz:=h3.size;have hz0:=h.bel.size;refine ⟨⟨by show ar _ _ _ _ _ ((b++news).map yv);rw [bS];exact h1,Below.trans h.bel h3,λj hj hl=> ?_,λj hj=> ?_,h.low⟩,h4,h5,h3.size⟩
 ·have:s.aX≠some j:=λe=>by
   rcases h.aX j e with q|q
   ·exact hj q
   ·omega
  exact (h4 j this aa).trans (h.Vh j hj hl)
 ·rcases h5 with q|q
  ·exact h.aX j (by rw [<-q];exact hj)
  ·rw [q] at hj;injection hj with hj;exact .inr aa
def Ap.ne{B:Nat}{w0 w:World}{s0 s:Sl}{b:List Int}(h:Ap B w0 s0 w s b){j:Nat}(hj:w.heap.size<=j):s.aX≠some j:=λe=>by have:=(h.own.own.lt e).2;omega
def Ap.kU{B:Nat}{w0 w v:World}{s0 s:Sl}{b:List Int}(h:Ap B w0 s0 w s b)(news:List Int)(hl:b.length+news.length<=1000000){o:Obj}(e:v=w.alloc o):
  aY 1 1 v s news.length (news.map yv).flatten/\∀s' w',aT jL 1 v s news.length (news.map yv).flatten s' w'->Ap B w0 s0 w' s' (b++news)/\w'.heap[w.heap.size]? =v.heap[w.heap.size]?/\(∀j,s.aX≠some j->j<v.heap.size->w'.heap[j]? =v.heap[j]?)/\(s'.aX=s.aX\/s'.aX=some v.heap.size)/\v.heap.size<=w'.heap.size:=by
 obtain ⟨hp,hr⟩:=(h.ext (aV e)).app news hl;have z:=zA e;refine ⟨hp,λs' w' bq=> ?_⟩;obtain ⟨h1,h2,h3,h4⟩:=hr s' w' bq;exact ⟨h1,h2 _ (h.ne (ak _)) aa,h2,h3,h4⟩
def sR{s s':Sl}{n j:Nat}(hb:s'.aX=s.aX\/s'.aX=some n)(h1:s.aX≠some j)(h2:n≠j):s'.aX≠some j:=λe=>by
 rcases hb with q|q
 ·exact h1 (q.symm.trans e)
 ·rw [q] at e
  injection e with e
  exact h2 e
def Ap.off{B:Nat}{w0 w:World}{s0 s:Sl}{b:List Int}(h:Ap B w0 s0 w s b){j:Nat}(hj:s0.aX≠some j)(hl:j<w0):s.aX≠some j:=λe=>by
 rcases h.aX j e with q|q
 ·exact hj q
 ·omega
def Ap.trans{B:Nat}{w0 w w':World}{s0 s s':Sl}{b b':List Int}(h:Ap B w0 s0 w s b)(k:Ap B w s w' s' b'):Ap B w0 s0 w' s' b':=
 ⟨k.own,Below.trans h.bel k.bel,λj hj hl=>(k.Vh j (h.off hj hl) (gA hl h.bel.size)).trans (h.Vh j hj hl),λj hj=>(k.aX j hj).elim (λq=>h.aX j q) λq=> .inr (c8 h.bel.size q),h.low⟩
def rdI{w v:World}{l:List Int}{o:TypeId}(e:v=w.alloc (.cells (l.map (Value.int .i64)).toArray o)):dB v ⟨aB w.heap.size,l.length,l.length⟩ 1 (l.map iv):=by
 have hr:Row v w (l.map (Value.int .i64)) o:=by rw [e];exact Row.new w _ _
 have hf:∀l:List Int,(l.map iv).flatten=l.map (Value.int .i64):=λl=>by
  induction l with
  |nil=>rfl
  |cons a l ih=>rw [eL,kZ,ih];rfl
 exact (ar.jU (B:=0) (k:=1) (dU _) hr (by rw [aJ];omega) (ak _) (by rw [hf,dI (by rw [aJ];omega)]) λr hr=>by obtain ⟨x,-,rfl⟩:=bf.1 hr;rfl).rd aw
def Xw(n:Int):Nat->Int
 |0=>n / 1099511627776 % 256
 |1=>n / 4294967296 % 256
 |2=>n / 16777216 % 256
 |3=>n / 65536 % 256
 |4=>n / 256 % 256
 |_=>n % 256
def j7(n:Int):List Int:=(List.range 6).map (Xw n)
def qD(l:List Int):List Int:=(l.map j7).flatten
def uG(n:Int):(j7 n).length=6:=rfl
def AE(l:List Int):(qD l).length=6*l.length:=by
 unfold qD
 induction l with
 |nil=>rfl
 |cons a l ih=>rw [eL,kZ,bY,ih,uG,cD];omega
def ZY{l:List Int}{k:Nat}{n:Int}(h:l[k]? =some n):qD (l.take (k+1))=qD (l.take k)++j7 n:=by unfold qD;rw [dq,h,bS,zi];simp
def acD(n:Int)(q:Nat):0<=Xw n q/\Xw n q<256:=by unfold Xw;split<;>omega
def ZZ{α:Type}(f:Nat->α)(q:Nat):(List.range (q+1)).map f=(List.range q).map f++ [f q]:=by rw [Qt,bS];rfl
def ait(n:Int)(q:Nat)(hq:q<6):tO (n.fdiv (2 ^(min (aC (8*(5-(q:Int)))).toNat 64)))=Xw n q:=by
 rw [wrap_u8];have:q=0\/q=1\/q=2\/q=3\/q=4\/q=5:=by omega
 rcases this with rfl|rfl|rfl|rfl|rfl|rfl
 all_goals
  rw [tB _ aw]
 ·show n / 1099511627776 % 256=_;rfl
 ·show n / 4294967296 % 256=_;rfl
 ·show n / 16777216 % 256=_;rfl
 ·show n / 65536 % 256=_;rfl
 ·show n / 256 % 256=_;rfl
 ·show n / 1 % 256=_;rw [Int.ediv_one];rfl
def rq{B:Nat}{w:World}{s:Sl}{b:List Int}(h:oe B w s b)(hB:B<=w){s1:Sl}{l:List Int}(hl:dB w s1 1 (l.map iv))(fA:l≠ []->∀j,s1.aX=some j->s.aX≠some j)(db:b.length+6*l.length<=900000):
  ae 59 #[s,s1] w λe w'=>∃s':Sl,e=s'/\Ap B w s w' s' (b++qD l):=by
 apply Vi.vc;have hn1:s1.n=l.length:=by rw [hl.n,aJ]
 refine ⟨λn x sl wr=>∃k:Nat,x=k/\k+n=l.length/\Ap B w s wr sl (b++qD (l.take k)),⟨l.length,0,rfl,aa,by rw [JF];show Ap B w s w s (b++ []);rw [mX];exact Ap.refl h hB⟩,?_⟩;rintro n us x sl wr ⟨k,rfl,hk,ha⟩;apply Br.mk<;>intro hq
 ·have hq:=fC hq;have hkl:k<l.length:=by omega
  obtain ⟨y,hy⟩:=bZ hkl;have azp:l≠ []:=λe=>by rw [e] at hkl;exact absurd hkl bo
  have gl:dB wr s1 1 (l.map iv):=hl.akz λhrn j hj=>ha.Vh j (fA azp j hj) (hl.L5 aw hrn hj)
  have hyi:(l.map iv)[k]? =some (iv y):=by rw [aZ,hy];rfl
  have pO:=gl.at hyi (j:=0) (v:=.int .i64 y) rfl;rw [gx] at pO;have hdl:(qD (l.take k)).length=6*k:=by rw [AE,cK];omega
  have wk:=nJ (j:=k);refine ⟨gl.j2 aw aa hq,y,pO,λn x nC bw=>∃q:Nat,x=5-(q:Int)/\q+n=6/\Ap B w s bw nC (b++qD (l.take k)++(List.range q).map (Xw y)),⟨6,0,rfl,rfl,by simpa using ha⟩,?_⟩;rintro n9 agf x nC bw ⟨q,rfl,hq6,hA⟩;apply Br.mk<;>intro hc
  ·have hc:=fC hc;rw [ait y q aa];refine bT.2 ⟨EJ.2 (by rw [wI];omega),λdj pJ=> ?_⟩;obtain ⟨hp,hr⟩:=hA.kU [Xw y q] (by simp only [bY,aJ,Gs,hdl,cD,kX];omega) pJ;refine ⟨hp,λs16 cM h17=> ?_⟩;obtain ⟨h1,h2,-⟩:=hr s16 cM h17;refine ⟨h2,n9-1,aa,q+1,by rw [wI];omega,aa,?_⟩;rw [ZZ,<-fY];exact h1
  ·have hc:=fC hc;have:q=6:=by omega
   subst this;refine ⟨n-1,aa,k+1,wk,aa,?_⟩;rw [ZY hy,<-fY];exact hA
 ·have hq:=fC hq;have:k=l.length:=by omega
  subst this;rw [kA] at ha;exact ⟨sl,rfl,ha⟩
def stB(b:Bool):Int:=if b then 1 else 0
abbrev tC(b:eJ):List Int:=[b.au.1,b.au.2.1,b.au.2.2,b.speed.1,b.speed.2.1,b.speed.2.2,b.wd,b.ht]
def BC(i:Int)(b:eJ):List Int:=i::(qD (tC b)++ [stB b.fM])
def FH(L:lCs)(i:Int):List Int:=match cG L i with|some y=>BC i y.1|none=> []
def dV(L:lCs)(l:List Int):List Int:=(l.map (FH L)).flatten
def iA(x:fi.It):List Int:=qD [x.1,x.2.1,x.2.2.1,x.2.2.2]
def iq(l:List fi.It):List Int:=[((min l.length 2000:Nat):Int) / 256 % 256,((min l.length 2000:Nat):Int) % 256]++((l.take 2000).map iA).flatten
def gj(now:Int)(n:Nat):List Int:=j7 now++ [(n:Int) % 256]
def dA(M:Sm)(L:lCs):List Int:=gj M.now (br L).length++dV L (br L)++iq M.q.l
def uF(L:lCs):(br L).length<=16:=by unfold br;rw [aJ];have:=zw (λi:Nat=>(cG L (i:Nat)).isSome) (List.range 16);rw [Gs] at this;exact this
def zg{L:lCs}{x:Int}(h:x ∈ br L):∃i:Nat,x=i/\i<16/\∃y,cG L i=some y:=by unfold br at h;obtain ⟨i,hi,rfl⟩:=bf.1 h;obtain ⟨h1,h2⟩:=j3.1 hi;exact ⟨i,rfl,tA.1 h1,qO.1 h2⟩
def VO(i:Int)(b:eJ):(BC i b).length=50:=by unfold BC;rw [cD,bY,AE];rfl
def r6(L:lCs):∀l:List Int,(dV L l).length<=50*l.length
 | []=>ak _
 |x::l=>by
  have:=r6 L l
  unfold dV at this ⊢
  rw [eL,kZ,bY,cD]
  have:(FH L x).length<=50:=by
   unfold FH;split
   ·rw [VO];exact ak _
   ·exact dU _
  omega
def Sf(x:fi.It):(iA x).length=24:=by unfold iA;rw [AE];rfl
def KA{α:Type}(f:α->List Int){l:List α}{k:Nat}{x:α}(h:l[k]? =some x):((l.take (k+1)).map f).flatten=((l.take k).map f).flatten++f x:=by rw [dq,h,bS,zi];simp
def Lp:∀l:List fi.It,(l.map iA).flatten.length=24*l.length
 | []=>rfl
 |x::l=>by rw [eL,kZ,bY,Sf,Lp l,cD];omega
def amM{B E k:Nat}{w:World}{s:Sl}{xs:LV}(h:Vc.Own B E k w s xs):s.n<=s.c:=by
 cases h with
 |nil=>exact ak _
 |row g n c cs hg hr hc hn=>exact hn
def Sg{w:World}{b:Nat}{y:cS}(hr:Row w b (Gb y) kc)(j:Nat){v:Value}(h:(Gb y)[j]? =some v):ah w (ab (aB b) j) 0 [v]:=by rw [aF,eK];exact xB hr h
def AY{w:World}{b:Nat}{y:cS}(hr:Row w b (Gb y) kc)(j:Nat){v:Value}(h:(Gb y)[j]? =some v):Vc.ld w (ab (aB b) j)=some v:=hr.at j h
section
variable {F F':Nat->Prop} {w w':World} {g s o t:Nat} {M M':Sm} {occ:Value} {L:lCs}
def KC(h:SF F w s o t M occ):kT 45 #[s] w ((M.now)):=by obtain ⟨g,sd,h1,-⟩:=h.row;apply P9.vc;exact ⟨_,h1.at 3 rfl,rfl,rfl⟩
def Pm(h:EF F w g s o t M occ L):ae 25 #[g] w λe w'=>∃sl:Sl,e=Value.slice sl.a sl.n sl.c/\oe w w' sl (dA M L)/\Ext w w':=by
 apply vr.vc;refine (Km h).mono ?_;rintro e w1 ⟨s1,rfl,ho1,x1⟩;have z1:=x1.size;have h1:=h.ext x1;have hn1:s1.n=(br L).length:=by rw [(ho1.rd aw).n,aJ]
 have hll:=uF L;obtain ⟨Fs,hs,pO,dP,-⟩:=h1.Is;refine ⟨s1,rfl,_,pO,(KC hs).bj λw3 H2=> ?_⟩;subst H2;refine ⟨_,rfl,λw5 e5=> ?_⟩;have x5:=aV e5;have z5:=zA e5;have hr5:=rdI (l:=[M.now]) e5;refine (rq (B:=w3.heap.size) (s:=⟨none,0,0⟩) (b:=[]) ar.nil x5.size hr5 (λ_ j _ q=>(by cases q)) bo).mono ?_;rintro e w6 ⟨s7,rfl,a6⟩;have e6:([]:List Int)++qD [M.now]=j7 M.now:=by show j7 M.now++ []=_;rw [mX]
 rw [e6] at a6;refine ⟨s7,rfl,λw8 e8=> ?_⟩;have ew:tO ((s1.n:Nat):Int)=((br L).length:Int) % 256:=by rw [wrap_u8,hn1]
 rw [ew] at e8 ⊢;obtain ⟨S9,hr8⟩:=a6.kU [((br L).length:Int) % 256] (by rw [uG];simp) e8;have z8:=zA e8;refine ⟨S9,λs9 bc r10=> ?_⟩;obtain ⟨S5,k10,-,b10,z10⟩:=hr8 s9 bc r10;replace S5:Ap w3 w5 ⟨none,0,0⟩ bc s9 (gj M.now (br L).length):=S5;have z6:=a6.bel.size;have apd:Ext w3 bc:=x5.trans (Below.mono S5.bel (ak _));have n96:s9.aX≠some w6.heap.size:=sR b10 (a6.ne (ak _)) aa;have ht7:(gj M.now (br L).length).length=7:=rfl;have A0:Ap w3 bc s9 bc s9 (gj M.now (br L).length):=Ap.refl S5.own aa;refine ⟨k10,λn x sl wr=>∃k:Nat,x=k/\k+n=(br L).length/\Ap w3 bc s9 wr sl (gj M.now (br L).length++dV L ((br L).take k)),⟨(br L).length,rfl,0,rfl,aa,by rw [JF];show Ap _ _ _ _ _ (_++ []);rw [mX];exact A0⟩,?_⟩;rintro n us x oI cp ⟨k,rfl,hk,WD⟩;have apf:Ext w3 cp:=apd.trans (Below.mono WD.bel (ak _));have z16:=WD.bel.size;have kE:(gj M.now (br L).length++dV L ((br L).take k)).length<=1000:=by have:=r6 L ((br L).take k);rw [cK] at this;rw [bY,ht7];omega
 apply Br.mk<;>intro hq
 ·have hq:=fC hq;obtain ⟨v,hv⟩:=bZ (l:=br L) (i:=k) aa;obtain ⟨i,rfl,abA,y,hy⟩:=zg (aQ hv);have gl:=(ho1.ext apf).rd (show 0<1 by decide);have hvi:((br L).map λi=> [Value.int .i64 i])[k]? =some [.int .i64 (i:Int)]:=by rw [aZ,hv];rfl
  have atF:=gl.at hvi (j:=0) (v:=.int .i64 i) rfl;rw [gx] at atF;obtain ⟨av,dh,ju,-,-,-⟩:=h1.row;obtain ⟨b,hab,Wu⟩:=ju.full abA hy;have rowU:∀{u:World} {c:Sl} {bs:List Int},Ap w3 bc s9 u c bs->Row u b (Gb y) kc:=λ{u c bs} ha=>Wu.ext (apd.trans (Below.mono ha.bel (ak _)))
  have aAy:=rowU WD;have xd:=Ext.dr cp;have rbd:=aAy.ext xd;have zd:=oa cp;have ad:=WD.ext xd;have wk:=nJ (j:=k);have ei:tO ((i:Nat):Int)=(i:Int):=by rw [wrap_u8];omega
  refine ⟨gl.j2 aw aa hq,_,atF,aa,aa,_,Mm (dh.ext apf) hab,?_⟩;refine ⟨λc u=>Ap w3 bc s9 u c (gj M.now (br L).length++dV L ((br L).take k)++((i:Int)::qD (tC y.1))),?_,?_⟩
  ·refine lI rfl (lI rfl (lI rfl (lI rfl ⟨_,AY rbd 0 rfl,lI rfl (lI rfl (lI rfl (lI rfl ⟨_,AY rbd 1 rfl,lI rfl (lI rfl (lI rfl (lI rfl ⟨_,AY rbd 2 rfl,lI rfl (lI rfl (lI rfl (lI rfl ⟨_,AY rbd 3 rfl,lI rfl (lI rfl (lI rfl (lI rfl ⟨_,AY rbd 4 rfl,lI rfl (lI rfl (lI rfl (lI rfl ⟨_,AY rbd 5 rfl,lI rfl (lI rfl (lI rfl ⟨_,AY rbd 6 rfl,lI rfl (lI rfl (lI rfl ⟨_,AY rbd 7 rfl,?_⟩))⟩))⟩)))⟩)))⟩)))⟩)))⟩)))⟩)));rw [ei];have fin:∀{u u':World} {c c':Sl},Ap w3 bc s9 u c (gj M.now (br L).length++dV L ((br L).take k)++ [(i:Int)])->Ap w3 u c u' c' (gj M.now (br L).length++dV L ((br L).take k)++ [(i:Int)]++qD (tC y.1))->Ap w3 bc s9 u' c' (gj M.now (br L).length++dV L ((br L).take k)++((i:Int)::qD (tC y.1))):=λh1 h2=>by have:=h1.trans h2;rw [fY,fY] at this;rw [fY];exact this
   have hlen1:((gj M.now (br L).length++dV L ((br L).take k))++ [(i:Int)]).length+6*(tC y.1).length<=900000:=by rw [bY];show _+1+6*8<=_;omega
   have n156:oI.aX≠some w6.heap.size:=WD.off n96 aa;refine ⟨λgz S2=>⟨?_,λiI e35=> ?_⟩,λnV e40 kN e41=> ?_⟩
   ·obtain ⟨hp,hr⟩:=ad.kU [(i:Int)] (by rw [cD,kX];omega) S2;have z29:=zA S2;refine ⟨hp,λED ik r31=> ?_⟩;obtain ⟨a31,k31,m31,b31,z31⟩:=hr ED ik r31;have TC:=rowU a31;refine ⟨m31 _ n156 aa,k31,Sg TC 7 rfl,Sg TC 6 rfl,Sg TC 5 rfl,Sg TC 4 rfl,Sg TC 3 rfl,Sg TC 2 rfl,Sg TC 1 rfl,Sg TC 0 rfl,λuu e32=> ?_⟩;have a32:=a31.ext (aV e32);have z32:=zA e32;have hrd32:=rdI (l:=tC y.1) e32;have nd:ED.aX≠some cp.drew.heap.size:=sR b31 (WD.ne (ak _)) aa;refine (rq a32.own (by have:=a32.bel.size;omega) hrd32 (λ_ j hj q=> ?_) hlen1).mono ?_
    ·have hj:j=ik.heap.size:=(Option.some.inj hj).symm;subst hj;exact a31.ne (ak _) q
    rintro e jZ ⟨s34,rfl,a33⟩;exact ⟨s34,rfl,a33.Vh _ (a31.off n96 aa) aa,a33.Vh _ nd aa,rfl,fin a32 a33⟩
   ·have kK:=aV S2;have z29:=zA S2;obtain ⟨hp,hr⟩:=(ad.ext kK).kU [(i:Int)] (by rw [cD,kX];omega) e35;have z35:=zA e35;have hrd35:=rdI (l:=tC y.1) e35;refine ⟨hp,λs36 jJ r37=> ?_⟩;obtain ⟨a37,k37,m37,b37,z37⟩:=hr s36 jJ r37;have nd:oI.aX≠some cp.drew.heap.size:=WD.ne (ak _);have n29:s36.aX≠some gz.heap.size:=sR b37 (WD.ne aa) aa;refine ⟨m37 _ n156 aa,m37 _ nd aa,k37,(rq a37.own (by have:=a37.bel.size;omega) (hrd35.same λj hj=> ?_) (λ_ j hj q=> ?_) hlen1).mono ?_⟩
    ·have hj:j=gz.heap.size:=(Option.some.inj hj).symm;subst hj;exact k37
    ·have hj:j=gz.heap.size:=(Option.some.inj hj).symm;subst hj;exact n29 q
    rintro e tN ⟨s39,rfl,a38⟩;exact ⟨s39,rfl,a38.Vh _ (a37.off n96 aa) aa,a38.Vh _ (sR b37 nd aa) aa,rfl,fin a37 a38⟩
   ·have rK:=aV e40;have z40:=zA e40;have hrd40:=rdI (l:=tC y.1) e40;obtain ⟨hp,hr⟩:=(ad.ext rK).kU [(i:Int)] (by rw [cD,kX];omega) e41;have z41:=zA e41;have lO:=aV e41;refine ⟨hp,λs42 iS r43=> ?_⟩;obtain ⟨a43,k43,m43,b43,z43⟩:=hr s42 iS r43;have nd:oI.aX≠some cp.drew.heap.size:=WD.ne (ak _);have n40:oI.aX≠some nV.heap.size:=WD.ne aa;refine ⟨m43 _ n156 aa,m43 _ nd aa,k43,(rq a43.own (by have:=a43.bel.size;omega) ((hrd40.ext lO).same λj hj=> ?_) (λ_ j hj q=> ?_) hlen1).mono ?_⟩
    ·have hj:j=cp.drew.heap.size:=(Option.some.inj hj).symm;subst hj;exact m43 _ nd aa
    ·have hj:j=cp.drew.heap.size:=(Option.some.inj hj).symm;subst hj;exact sR b43 nd aa q
    rintro e kh ⟨s45,rfl,a44⟩;exact ⟨s45,rfl,a44.Vh _ (a43.off n96 aa) aa,a44.Vh _ (sR b43 n40 aa) aa,rfl,fin a43 a44⟩
  ·intro atG Tp lP a48;have aAA:=rowU a48;have z48:=a48.bel.size;have aHO:(gj M.now (br L).length++dV L ((br L).take k)++((i:Int)::qD (tC y.1))).length<=2000:=by rw [bY,cD,AE];show _+(6*8+1)<=_;omega
   have endS:∀(st:Int),st=stB y.1.fM->∀{v:World} {c:Sl},Ap w3 bc s9 v c (gj M.now (br L).length++dV L ((br L).take k)++((i:Int)::qD (tC y.1))++ [st])->Ap w3 bc s9 v c (gj M.now (br L).length++dV L ((br L).take (k+1))):=λst gy {v c} h=>by
    have e:dV L ((br L).take (k+1))=dV L ((br L).take k)++((i:Int)::(qD (tC y.1)++ [st])):=by unfold dV;rw [KA (FH L) hv];unfold FH BC;rw [hy,gy]
    rw [e,<-fY];rw [fY] at h;exact h
   refine lI rfl (lI rfl (lI rfl ⟨_,AY aAA 8 rfl,Br.mk (λhb=>λyL e50=> ?_) (λhb=>λw53 e53=> ?_)⟩))
   ·obtain ⟨hp,hr⟩:=a48.kU [1] (by rw [cD,kX];omega) e50;have z50:=zA e50;refine ⟨hp,λs51 X7 r52=> ?_⟩;obtain ⟨a52,k52,m52,b52,z52⟩:=hr s51 X7 r52;exact ⟨m52 _ (a48.off n96 aa) aa,k52,n-1,aa,rfl,k+1,wk,aa,endS 1 (by rw [hb];rfl) a52⟩
   ·obtain ⟨hp,hr⟩:=a48.kU [0] (by rw [cD,kX];omega) e53;have z53:=zA e53;refine ⟨hp,λV6 yN r55=> ?_⟩;obtain ⟨a55,k55,m55,b55,z55⟩:=hr V6 yN r55;exact ⟨m55 _ (a48.off n96 aa) aa,k55,n-1,aa,rfl,k+1,wk,aa,endS 0 (by rw [hb];rfl) a55⟩
 ·have hq:=fC hq;have hk':k=(br L).length:=by omega
  subst hk';rw [kA] at WD kE;obtain ⟨aHW,atH,hld16,-,-⟩:=(h1.ext apf).Is;refine ⟨_,hld16,(IS atH).mono ?_⟩;rintro e pI ⟨Ow,rfl,aj5,Jk⟩;have z57:=Jk.size;obtain ⟨gq,mq,qs,-,H3,-⟩:=atH.queue;have hql:M.q.l.length<=4096:=by have:=H3.len;have:=H3.room;omega
  have aAB:Ow.n=M.q.l.length:=by rw [(aj5.rd (show 0<4 by decide)).n,aJ]
  have aAC:=(aj5.rd (show 0<4 by decide));have Ib:Ow.n<=Ow.c:=amM aj5.own;have n156:oI.aX≠some w6.heap.size:=WD.off n96 aa;have aAD:(if 2000<((Ow.n:Nat):Int) then 2000 else ((Ow.n:Nat):Int))=((min M.q.l.length 2000:Nat):Int):=by rw [aAB];split<;>omega
  refine ⟨Ow,rfl,Jk.heap aa,?_⟩;rw [aAD];refine ⟨aa,aa,λpR TU=> ?_⟩;rw [dw];have a57:=WD.ext Jk;have eb1:tO (((((((min M.q.l.length 2000:Nat):Int):Int).toNat-0:Nat):Int)).fdiv (2 ^(min (8:Int).toNat 64)))=((min M.q.l.length 2000:Nat):Int) / 256 % 256:=by rw [wrap_u8,tB _ aw];rfl
  have eb2:tO ((((((min M.q.l.length 2000:Nat):Int):Int).toNat-0:Nat):Int))=((min M.q.l.length 2000:Nat):Int) % 256:=by rw [wrap_u8];rfl
  rw [eb1,eb2] at TU ⊢;obtain ⟨hp,hr⟩:=a57.kU [((min M.q.l.length 2000:Nat):Int) / 256 % 256,((min M.q.l.length 2000:Nat):Int) % 256] (by rw [cD,cD,kX];omega) TU;have z59:=zA TU;refine ⟨hp,λs60 vv r61=> ?_⟩;obtain ⟨a61,k61,m61,b61,z61⟩:=hr s60 vv r61;have Ie:=aV TU;have aAF:s60.aX≠some w6.heap.size:=sR b61 n156 aa;have atI:s60.aX≠some pI.heap.size:=sR b61 (a57.ne (ak _)) aa;have api:∀j,Ow.aX=some j->cp.heap.size<=j/\j<pI.heap.size:=λj hj=>aj5.own.lt hj
  have atJ:∀j,Ow.aX=some j->s60.aX≠some j:=λj hj=>by obtain ⟨q1,q2⟩:=api j hj;exact sR b61 (WD.ne q1) aa
  have hrd61:dB vv Ow 4 (M.q.l.map fR):=aAC.same λj hj=>by obtain ⟨q1,q2⟩:=api j hj;exact (m61 j (WD.ne q1) aa).trans (Ie.heap q2)
  let W:=M.q.l.take 2000
  have hW:W.length=min M.q.l.length 2000:=by rw [cK,Nat.min_comm]
  have A61:Ap w3 vv s60 vv s60 (gj M.now (br L).length++dV L (br L)++ [((min M.q.l.length 2000:Nat):Int) / 256 % 256,((min M.q.l.length 2000:Nat):Int) % 256]):=Ap.refl a61.own (by have:=a61.bel.size;omega);have aoY:((((min M.q.l.length 2000:Nat):Int)).toNat-0:Nat)=W.length:=by rw [hW];omega
  rw [aoY];refine ⟨m61 _ n156 aa,k61,λn x sl wr=>∃k:Nat,x=k/\k+n=W.length/\Ap w3 vv s60 wr sl (gj M.now (br L).length++dV L (br L)++ [((min M.q.l.length 2000:Nat):Int) / 256 % 256,((min M.q.l.length 2000:Nat):Int) % 256]++((W.take k).map iA).flatten),⟨W.length,rfl,rfl,0,rfl,aa,by rw [JF];show Ap _ _ _ _ _ (_++ []);rw [mX];exact A61⟩,?_⟩;rintro n2 wZ x s66 pS ⟨k,rfl,hk,a67⟩;have z67:=a67.bel.size;apply Br.mk<;>intro hq
  ·have hq:=fC hq;have hkW:k<W.length:=by omega
   obtain ⟨it,hit⟩:=bZ hkW;have aAG:M.q.l[k]? =some it:=by have h2:W[k]? =M.q.l[k]? :=List.getElem?_take_of_lt aa;rw [<-h2];exact hit
   have dh:(M.q.l.map fR)[k]? =some (fR it):=by rw [aZ,aAG];rfl
   have hrd67:dB pS Ow 4 (M.q.l.map fR):=hrd61.same λj hj=>a67.Vh j (atJ j hj) (by have:=api j hj;omega)
   have pE:gJ Ow.a (k:Int) W.length:=by obtain ⟨q1,q2,q3⟩:=hrd67.j2 (i:=(k:Int)) aw aa aa;exact ⟨q1,q2,hq⟩
   refine ⟨pE,_,_,_,_,hrd67.bK dh,λJl e73 Ex e74 ur e75=> ?_⟩;have OS:Ext pS Ex:=(aV e73).af e74 (ak _);have z74:Ex.heap.size=pS.heap.size+1:=by rw [zR e74,zA e73]
   have KY:=aV e75;have z75:=zA e75;have hrd75:=rdI (l:=[it.1,it.2.1,it.2.2.1,it.2.2.2]) e75;have a75:=a67.ext (OS.tr KY);have aH2:(gj M.now (br L).length++dV L (br L)++ [((min M.q.l.length 2000:Nat):Int) / 256 % 256,((min M.q.l.length 2000:Nat):Int) % 256]++((W.take k).map iA).flatten).length<=100000:=by rw [bY,bY,Lp,cK];show _+2+_<=_;omega
   refine (rq a75.own (by have:=a75.bel.size;omega) hrd75 (λ_ j hj q=> ?_) (by show _+6*4<=_;omega)).mono ?_
   ·have hj:j=Ex.heap.size:=(Option.some.inj hj).symm;subst hj;exact a67.ne aa q
   rintro e qM ⟨s77,rfl,a76⟩;refine ⟨s77,rfl,a76.Vh _ (a67.off aAF aa) aa,a76.Vh _ (a67.off atI aa) aa,a76.Vh _ (a67.ne (ak _)) aa,n2-1,aa,rfl,rfl,k+1,by rw [wI];omega,aa,?_⟩;rw [KA iA hit,<-fY];exact a75.trans a76
  ·have hq:=fC hq;have hk':k=W.length:=by omega
   subst hk';rw [kA] at a67;refine ⟨s66,rfl,?_,?_⟩
   ·have e:dA M L=gj M.now (br L).length++dV L (br L)++ [((min M.q.l.length 2000:Nat):Int) / 256 % 256,((min M.q.l.length 2000:Nat):Int) % 256]++(W.map iA).flatten:=by unfold dA iq;rw [<-fY]
    rw [e];exact ar.low a67.own z1
   ·have b3:Below w3 w3 pS:=Below.trans apd (Below.trans a61.bel a67.bel);exact x1.tr b3
end
def amO(l:List En):Flt (jm l):=λx y y' z hy hy'=>by
 have e:pos (x,y,z)=pos (x,y',z):=rfl
 have h0:∀(p:Po)(C:List Int)(v:Int),32<=v->ZQ p C (x,v,z)=0:=λp C v hv=>by
  unfold ZQ Q7
  rw [decide_eq_false (show ¬((x,v,z):Ce).2.1<32 by simp only;omega)]
  simp
 have hn:∀v:Int,32<=v->¬((x,v,z):Ce).2.1<0:=λv hv=>by simp only;omega
 unfold jm
 rw [e,if_neg (hn y hy),if_neg (hn y' hy')]
 simp only [h0 _ _ _ hy,h0 _ _ _ hy']
def kl{b:eJ}:b.may=true ↔(2<=b.wd/\b.wd<=131072)/\(1<=b.ht/\b.ht<=262144)/\da b.au 70368744177664/\da b.speed 262144:=by unfold eJ.may within da;simp only [gP,cL];omega
def VR{b:eJ}(h:b.may=true):okB 70368744177664 b:=by obtain ⟨h1,h2,h3,h4⟩:=kl.1 h;unfold da at h4;exact ⟨h3,aa,aa,aa⟩
def aqT{b:eJ}(h:b.may=true):b.box.1.2.1=b.au.2.1/\b.box.1.2.1<b.box.2.2.1:=by obtain ⟨h1,h2,h3,h4⟩:=kl.1 h;unfold da at h3;have e1:b.box.1.2.1=nj b.au.2.1 0:=rfl;have e2:b.box.2.2.1=dW b.au.2.1 (max b.ht 0):=rfl;rw [e1,e2];unfold nj dW dG;omega
def aaH{V:Ce->Int}{b:eJ}(h:b.may=true)(d:Ce):(jr V b d).may=true:=by
 have hn:=(VR h).zF aw;obtain ⟨h1,h2,h3,h4⟩:=kl.1 h;obtain ⟨y,x,z,-,-,-,e,hx,hy,hz⟩:=E3 (V:=V) (p:=aD) (d:=jE b.au d) hn aw;have ho:=FX (V:=V) (p:=aD) (d:=jE b.au d) hn aw;rw [e] at ho;have ef:(jr V b d).au=(b.au.1+x,b.au.2.1+y,b.au.2.2+z):=by show jf b.au (uP (j8 V aD b.box (jE b.au d)).1.1 b.box.1)=_;rw [e];exact Kx h3 hn aw (ho.up aw)
 refine kl.2 ⟨h1,h2,?_,h4⟩;rw [ef];exact ⟨aeG h3 (r:=(x,y,z)) hx,Nw h3 (r:=(x,y,z)) hy,XP h3 (r:=(x,y,z)) hz⟩
def aaI(h:Bool × Bool × Bool){v:Ce}(hv:da v 262144):da (u7 h v) 262144:=by
 have c0:dG 0=0:=by decide
 have hw:∀{v:Ce} (ax:Int),da v 262144->da (gd v ax 0) 262144:=λ{v} ax hv=>by unfold da at hv;unfold gd Gh da;rw [c0];simp only;refine ⟨?_,?_,?_⟩<;>split<;>omega
 unfold u7;simp only;have h1:da (if h.1=true then gd v 0 0 else v) 262144:=by
  split
  ·exact hw 0 hv
  ·exact hv
 generalize (if h.1=true then gd v 0 0 else v)=v1 at*;have h2:da (if h.2.1=true then gd v1 1 0 else v1) 262144:=by
  split
  ·exact hw 1 h1
  ·exact h1
 generalize (if h.2.1=true then gd v1 1 0 else v1)=v2 at*;split
 ·exact hw 2 h2
 ·exact h2
def aeV{V:Ce->Int}{b:eJ}(hV:Flt V)(h:b.may=true):(GG V b).may=true:=by
 have hn:=(VR h).zF aw;obtain ⟨h1,h2,h3,h4⟩:=kl.1 h;obtain ⟨x,y,z,e,hx,hy,hz⟩:=aiH (V:=V) (p:=aD) (d:=jE b.au b.speed) (up:=32768) hn aw aw;have ho:=(PJ (V:=V) (p:=aD) (d:=jE b.au b.speed) (up:=32768) hn aw).1;have ef:(GG V b).au=(b.au.1+x,b.au.2.1+y,b.au.2.2+z):=by show jf b.au (uP (jM V aD b.box (jE b.au b.speed) 32768).1.1 b.box.1)=_;rw [e];rw [e] at ho;exact Kx h3 hn aw ho
 refine kl.2 ⟨h1,h2,?_,aaI _ h4⟩;rw [ef];refine ⟨aeG h3 (r:=(x,y,z)) hx,?_,XP h3 (r:=(x,y,z)) hz⟩;rcases hy with hy|hy
 ·exact Nw h3 (r:=(x,y,z)) hy
 by_cases q:b.au.2.1<=70368744100000
 ·unfold da at h3;simp only;omega
 ·obtain ⟨b1,b2⟩:=aqT h;have es:=aiI (V:=V) (p:=aD) (d:=jE b.au b.speed) (up:=32768) hV hn aw aa b2;obtain ⟨y',x',z',-,-,-,e',-,hy',-⟩:=E3 (V:=V) (p:=aD) (d:=jE b.au b.speed) hn aw;rw [es,e'] at e;have:y'=y:=by have e2:=congrArg (λq:Bx=>q.1.2.1) e;unfold iM at e2;simp only at e2;omega
  rw [this] at hy';exact Nw h3 (r:=(x,y,z)) hy'
def vO{b:eJ}(h:b.may=true){v:Ce}(hv:da v 262144):({b with speed:=v}:eJ).may=true:=by obtain ⟨h1,h2,h3,-⟩:=kl.1 h;exact kl.2 ⟨h1,h2,h3,hv⟩
def aeW{V:Ce->Int}{b:eJ}(hV:Flt V)(h:b.may=true)(i:QN):(zS V b i).may=true:=by
 refine aeV hV ?_;have hw:(tF b i).may=true:=vO h (by
  have:=(kl.1 h).2.2.2;have h0:∀n,-262144<=J1 n/\J1 n<=262144:=λn=>by unfold J1;omega
  unfold da at this ⊢;exact ⟨h0 _,this.2.1,h0 _⟩)
 generalize tF b i=c at*;have hs:=(kl.1 hw).2.2.2;unfold tE;have hf:∀(n jump less least:Int)(j:Bool),(-262144<=n/\n<=262144)->(0<=jump/\jump<=262144)->0<=less->(0<=least/\least<=262144)-> -262144<=wQ n jump less least j/\wQ n jump less least j<=262144:=λn jump less least j h1 h2 h3 h4=>by unfold wQ;split<;>omega
 unfold da at hs;split
 ·exact vO hw ⟨hs.1,hf _ _ _ _ _ hs.2.1 aw aw aw,hs.2.2⟩
 split
 ·exact vO hw ⟨hs.1,hf _ _ _ _ _ hs.2.1 aw aw aw,hs.2.2⟩
 ·exact vO hw ⟨hs.1,hf _ _ _ _ _ hs.2.1 aw aw aw,hs.2.2⟩
def kF(P:eJ->Prop)(L:lCs):Prop:=∀y,some y ∈ L->P y.1
section
variable {P:eJ->Prop} {V:Ce->Int} (hn:∀b d,P b->P (jr V b d))
include hn
def aeX{i k:Nat}{l:List eJ}(h:∀b ∈ l,P b):∀b ∈ Kc V i k l,P b:=by
 unfold Kc;split
 ·rename_i a b ha hb;intro x hx;rcases qk hx with hx|rfl
  ·rcases qk hx with hx|rfl
   ·exact h x hx
   ·exact hn _ _ (h a (aQ ha))
  ·exact hn _ _ (h b (aQ hb))
 ·exact h
def XX{i:Nat}:∀(n k:Nat) {l:List eJ},(∀b ∈ l,P b)->∀b ∈ U8 V i k n l,P b
 |0,_,_,h=>h
 |n+1,k,_,h=>XX n (k+1) (aeX hn h)
def aeY:∀(n i:Nat) {l:List eJ},(∀b ∈ l,P b)->∀b ∈ crB V i n l,P b
 |0,_,_,h=>h
 |n+1,i,_,h=>aeY n (i+1) (XX hn _ _ h)
end
def aiP{P:eJ->Prop}{L:lCs}{i:Nat}{b:eJ}(h:kF P L)(hb:P b):kF P (DX L i b):=by
 unfold DX
 cases hq:cG L i with
 |none=>exact h
 |some y=>
  intro z hz;rcases qk hz with hz|hz
  ·exact h z hz
  ·cases hz
   exact hb
def Sk{P:eJ->Prop}:∀(l:List (Nat × eJ)) {L:lCs},kF P L->(∀x ∈ l,P x.2)->kF P (J5 L l)
 | [],_,h,_=>h
 |x::l,_,h,hl=>Sk l (aiP h (hl x bo)) λy hy=>hl y (by simp [hy])
def aeZ{P:eJ->Prop}{M:Sm}{L:lCs}(hs:∀b i,P b->P (zS (jm M.T.2) b i))(hn:∀b d,P b->P (jr (jm M.T.2) b d))(h:kF P L):kF P (sL M L):=by
 refine Sk _ h λx hx=>aeY hn _ _ (λb hb=> ?_) x.2 (List.of_mem_zip hx).2
 obtain ⟨i,hi,rfl⟩:=bf.1 hb;obtain ⟨-,y,hy⟩:=zQ hi;unfold uT;rw [hy];exact hs _ _ (h y (uU hy))
abbrev kH(L:lCs):Prop:=kF (λb=>b.may=true) L
def kH.tick{M:Sm}{L:lCs}(h:kH L):kH (sL M L):=aeZ (λ_ i hb=>aeW (amO _) hb i) (λ_ d hb=>aaH hb d) h
def kH.ok{L:lCs}(h:kH L):ES 70368744177664 L:=λy hy=>VR (h y hy)
def acV{P:eJ->Prop}{L:lCs}(h:kF P L)(i:Int):kF P (zy L i).2:=by
 unfold zy;split
 ·exact h
 ·intro y hy;rcases qk hy with hy|hy
  ·exact h y hy
  ·cases hy
def ae0{P:eJ->Prop}{L:lCs}(h:kF P L)(i:Int)(inp:QN):kF P (AZ L i inp).2:=by
 unfold AZ
 cases hq:cG L i with
 |none=>exact h
 |some y=>
  intro z hz;rcases qk hz with hz|hz
  ·exact h z hz
  ·cases hz
   unfold cG at hq;split at hq
   ·exact h y (aQ (PZ.1 hq))
   ·cases hq
def YF{M:Sm}{L:lCs}(h:kH L)(b:eJ):kH (iU M L b).2.2:=by
 unfold iU;split
 ·exact h
 rename_i hb;split
 ·exact h
 split
 ·exact h
 split
 ·exact h
 ·intro z hz;rcases qk hz with hz|hz
  ·exact h z hz
  ·cases hz
   show eJ.may {b with fM:=_}=true;have:b.may=true:=by simpa using hb
   rw [<-this];rfl
def okT(x:fi.It):Prop:=Ck x.2/\0<=x.1/\x.1<=2000000000000
structure Rok(M:Sm)(L:lCs):Prop where
 b:kH L
 q:∀x ∈ M.q.l,okT x
 n:0<=M.now/\M.now<=1099511627776
 o:yF M.q
def Blk(b:List Int):Prop:=∃(v:Int)(M:Sm)(L:lCs)(n:Nat),(1<=v/\v<=1073741824)/\Rok M L/\b=(gQ (Go.cC.dA v (dA M L))).take n
def aeU(M:Sm)(L:lCs):(dA M L).length<=50000:=by have h1:=r6 L (br L);have h2:=uF L;have h3:=Lp (M.q.l.take 2000);rw [cK] at h3;unfold dA gj iq;rw [bY,bY,bY,bY,h3,uG];simp only [cD,kX];omega
def Blk.take{b:List Int}(h:Blk b)(m:Nat):Blk (b.take m):=by obtain ⟨v,M,L,n,hv,hr,rfl⟩:=h;exact ⟨v,M,L,min m n,hv,hr,by rw [List.take_take]⟩
def Blk.rd{b:List Int}(h:Blk b):(qc b).2.2≠0\/∃M L,Rok M L/\(qc b).2.1=dA M L:=by
 obtain ⟨v,M,L,n,hv,hr,rfl⟩:=h;have hl:=aeU M L;by_cases c:n<(gQ (Go.cC.dA v (dA M L))).length
 ·exact .inl (aiO aa c)
 ·rw [dI aa,adS hv aa];exact .inr ⟨M,L,hr,rfl⟩
def KR(D:Dk):Prop:=∀x,x ∈ D.safe\/x ∈ D.l->x.1=0\/x.1=1->Blk x.2
def NJ{l:List kj}{w x:kj}(h:x ∈ lay l w):x=w\/x ∈ l:=by
 rcases cj.1 ((qU l w).mem_iff.1 h) with h|h
 ·exact .inl h
 ·exact .inr (j3.1 h).1
def Sh:∀(t:List kj) {s:List kj} {x:kj},x ∈ t.foldl lay s->x ∈ t\/x ∈ s
 | [],s,x,h=> .inr h
 |w::t,s,x,h=>by
  rcases Sh t h with h|h
  ·exact .inl (qY _ h)
  ·rcases NJ h with h|h
   ·exact .inl (h▸List.mem_cons_self ..)
   ·exact .inr h
def KR.now{D:Dk}(h:KR D){x:kj}(hx:x ∈ ud D)(h0:x.1=0\/x.1=1):Blk x.2:=
 h x ((Sh _ hx).symm) h0
def KR.get{D:Dk}(h:KR D){k:Int}(hk:k=0\/k=1):(qc (getD D k)).2.2≠0\/∃M L,Rok M L/\(qc (getD D k)).2.1=dA M L:=by
 unfold getD pr
 cases hf:(ud D).find? λx=>x.1==k with
 |none=>exact .inl aw
 |some x=>
  have h1:x.1=k:=by have:=List.find?_some hf;simpa using this
  exact (h.now (G1 hf) (h1▸hk)).rd
def KR.ld{D:Dk}(h:KR D):(Go.cC.qd D 0).2.2=false\/∃M L,Rok M L/\(Go.cC.qd D 0).1=dA M L/\(Go.cC.qd D 0).2.2=true:=by
 have step:∀(best:Rc)(s:Int)(r:Int × List Int × Int),(r.2.2≠0\/∃M L,Rok M L/\r.2.1=dA M L)->(best.2.1<=0\/∃M L,Rok M L/\best.2.2=dA M L)->((j6 best s r).2.1<=0\/∃M L,Rok M L/\(j6 best s r).2.2=dA M L):=by
  intro best s r hr hb;unfold j6;split
  ·rename_i c;exact hr.elim (λq=>absurd c.1 q) .inr
  ·exact hb
 have h2:(kL D 0).2.1<=0\/∃M L,Rok M L/\(kL D 0).2.2=dA M L:=by unfold kL;exact step _ _ _ (h.get (.inr rfl)) (step _ _ _ (h.get (.inl rfl)) (.inl (jN 0)))
 have e:Go.cC.qd D 0=((kL D 0).2.2,(kL D 0).2.1,decide ((kL D 0).2.1>0)):=rfl;rw [e];by_cases c:(kL D 0).2.1>0
 ·rcases h2 with h2|⟨M,L,hr,h2⟩
  ·omega
  ·exact .inr ⟨M,L,hr,h2,decide_eq_true c⟩
 ·exact .inl (decide_eq_false c)
def KR.of{D D':Dk}(h:KR D)(h1:D'.safe=D.safe)(h2:D'.l=D.l):KR D':=λx hx=>h x (by rw [h1,h2] at hx;exact hx)
def KR.ask{D:Dk}(h:KR D):KR (jT D).1:=h.of (jw D).1 (jw D).2.1
def KR.put{D:Dk}(h:KR D){k:Int}{b:List Int}(hb:k=0\/k=1->Blk b):KR (kV D k b).1:=by
 unfold kV;split
 ·exact h.ask
 split
 ·exact h.ask
 ·intro x hx h0;rcases hx with hx|hx
  ·have hx:x ∈(jT D).1.safe:=hx;exact h.ask x (.inl hx) h0
  ·rcases dp.1 hx with hx|hx
   ·exact h x (.inr hx) h0
   ·rw [gU.1 hx] at h0 ⊢;exact hb h0
def KR.sync{D:Dk}(h:KR D):KR (od D).1:=by
 unfold od;split
 ·exact h.ask
 ·intro x hx h0;rcases hx with hx|hx
  ·exact h.now hx h0
  ·cases hx
def KR.save{D:Dk}(h:KR D)(id:Int)(b:List Int)(hb:(4*id+1-(kL D id).1=0\/4*id+1-(kL D id).1=1)->(zb ((kL D id).2.1+1) b).2=0->Blk (zb ((kL D id).2.1+1) b).1):KR (tQ D id b).1:=by
 unfold tQ;split
 ·split
  ·exact h
  ·rename_i h0;have hp:KR (kV D (4*id+1-(kL D id).1) (zb ((kL D id).2.1+1) b).1).1:=h.put λq=>hb q (by simpa using h0)
   split
   ·exact hp
   ·exact hp.sync
 ·exact h
def KR.chunk{D:Dk}(h:KR D){id:Int}(hid:1<=id)(b:List Int):KR (tQ D id b).1:=
 h.save id b λq _=>by have:=Pc D id;omega
def KR.aW{D:Dk}(h:KR D){M:Sm}{L:lCs}(hr:Rok M L):KR (tQ D 0 (dA M L)).1:=
 h.save 0 _ λ_ h0=>by
  have hv:=akf D 0;unfold zb at h0 ⊢;split at h0
  ·simp at h0
  ·rename_i c;rw [if_neg c];exact ⟨_,M,L,_,aa,hr,(dI (ak _)).symm⟩
def KR.Dj{D:Dk}(h:KR D)(n:Int):KR (cA D n).1:=by
 have key:∀(t:List kj)(m:Int) {s:List kj},(∀x,x ∈ s->x.1=0\/x.1=1->Blk x.2)->(∀x,x ∈ t->x.1=0\/x.1=1->Blk x.2)->∀x,x ∈ mD m s t->x.1=0\/x.1=1->Blk x.2:=by
  intro t
  induction t with
  |nil=>intro m s hs _ x hx;exact hs x hx
  |cons w t ih=>
   intro m s hs ht x hx h0;unfold mD at hx;split at hx
   ·refine ih _ (λy hy hy0=> ?_) (λy hy=>ht y (qY _ hy)) x hx h0;rcases NJ hy with rfl|hy
    ·exact ht _ (List.mem_cons_self ..) hy0
    ·exact hs y hy hy0
   ·rcases NJ hx with rfl|hx
    ·exact (ht w (List.mem_cons_self ..) h0).take _
    ·exact hs x hx h0
 intro x hx h0;rcases hx with hx|hx
 ·exact key D.l _ (λy hy=>h y (.inl hy)) (λy hy=>h y (.inr hy)) x hx h0
 ·cases hx
def KR.fail{D:Dk}(h:KR D)(n:Int):KR (ov D n):=h.of (by unfold ov;split<;>rfl) (by unfold ov;split<;>rfl)
def Si(k:Nat)(e:En):Prop:=EP e.1/\0<=e.2.2.2/\e.2.2.2<=k
structure nM(k n:Nat)(T:Tb):Prop where
 e:∀e ∈ T.2,Si k e
 d:T.1.l.length<=n
 r:KR T.1
section
variable {k n:Nat} {D:Dk} {l:List En} {aj limit:Int} {T:Tb}
def Si.mono{e:En}(h:Si k e){m:Nat}(hm:k<=m):Si m e:=⟨h.1,h.2.1,by have:=h.2.2;omega⟩
def nM.mono(h:nM k n T){k' n':Nat}(hk:k<=k')(hn:n<=n'):nM k' n' T:=⟨λe he=>(h.e e he).mono hk,c8 h.d hn,h.r⟩
def Si.save{e:En}(he:Si k e)(D:Dk):Si k (cE D e).2.1:=by
 unfold cE;split
 ·exact he
 ·exact he
def KR.cE{e:En}(h:KR D)(he:Si k e):KR (cE D e).1:=by
 unfold Go.Proofs.YtjcnjlaelhdjeaaGreatDoor.cE;split
 ·exact h.chunk (ahG he.1).1 _
 ·exact h
def nM.go(h:nM k n (D,l))(i:Nat):nM k (n+1) (goE D l i).1:=by
 unfold goE;split
 ·exact h.mono (ak _) (kW _)
 ·rename_i e he;have h1:=h.e e (aQ he);have h2:=h.r.cE h1;have h3:=zX D e;have h4:D.l.length<=n:=h.d;split
  ·exact ⟨λx hx=>h.e x ((Gv ..).subset hx),by simp only;omega,h2⟩
  ·refine ⟨λx hx=> ?_,by simp only;omega,h2⟩;rcases qk hx with hx|rfl
   ·exact h.e x hx
   ·exact h1.save D
def nM.room(h:nM k n (D,l)):nM k (n+1) (fZ limit D l).1:=by
 unfold fZ;split
 ·exact h.mono (ak _) (kW _)
 split
 ·exact h.mono (ak _) (kW _)
 ·exact h.go _
def nM.load(h:nM k n (D,l))(p:Po):nM k (n+1) (Bh aj limit D l p).1:=by
 unfold Bh;split
 ·exact h.mono (ak _) (kW _)
 rename_i hp;split
 ·refine ⟨λe he=> ?_,Nat.le_succ_of_le h.d,h.r⟩;rcases dp.1 he with he|he
  ·exact h.e e ((Gv ..).subset he)
  ·exact h.e e (aQ (Option.mem_toList.1 he))
 have hr:=h.room (limit:=limit);split
 ·exact hr
 ·refine ⟨λe he=> ?_,hr.d,hr.r⟩;rcases dp.1 he with he|he
  ·exact hr.e e he
  ·rw [gU.1 he];exact ⟨by simpa using hp,by simp only;omega,by simp only;omega⟩
def nM.alX(h:nM k n (D,l))(p:Po):nM k (n+1) (oh D l p).1:=by
 unfold oh;split
 ·split
  ·exact h.mono (ak _) (kW _)
  ·exact h.go _
 ·exact h.mono (ak _) (kW _)
def nM.flush(h:nM k n (D,l))(p:Po):nM k (n+1) (TG D l p).1:=by
 unfold TG;split
 ·split
  ·rename_i e he;have h1:=h.e e (aQ he);have h3:=zX D e;have h4:D.l.length<=n:=h.d;refine ⟨λx hx=> ?_,by simp only;omega,h.r.cE h1⟩;rcases qk hx with hx|rfl
   ·exact h.e x hx
   ·exact h1.save D
  ·exact h.mono (ak _) (kW _)
 ·exact h.mono (ak _) (kW _)
def nM.Vb:∀(l:List En) {n:Nat} {D:Dk} {pre:List En} {m:Int},nM k n (D,pre++l)->nM k (n+l.length) (Vb D pre l m).1
 | [],n,D,pre,m,h=>by rw [mX] at h;exact h
 |e::l,n,D,pre,m,h=>by
  have h1:=h.e e (C8 _ (.head _))
  have h2:=h.r.cE h1
  have h3:=zX D e
  have h4:D.l.length<=n:=h.d
  have h5:nM k (n+1) ((cE D e).1,pre++(cE D e).2.1::l):=by
   refine ⟨λx hx=> ?_,by simp only;omega,h2⟩;rcases dp.1 hx with hx|hx
   ·exact h.e x (G5 _ hx)
   ·rcases cj.1 hx with rfl|hx
    ·exact h1.save D
    ·exact h.e x (C8 _ (.tail _ hx))
  unfold Go.Proofs.YtjcnjlaelhdjeaaGreatDoor.Vb;rw [cD];split
  ·have h6:nM k (n+1) ((cE D e).1,(pre++ [(cE D e).2.1])++l):=by rw [fY];exact h5
   exact (nM.Vb l h6).mono (ak _) aa
  ·exact h5.mono (ak _) aa
def nM.aqS(h:nM k n (D,l)):nM k (n+l.length) (hZ D l).1:=nM.Vb (pre:=[]) l h
def XU{l:List En}{i:Nat}{f:En->En}{x:En}(h:x ∈ l.modify i f):x ∈ l\/∃y,l[i]? =some y/\x=f y:=by
 obtain ⟨j,hj⟩:=JM.1 h;rw [CK] at hj
 cases hy:l[j]? with
 |none=>rw [hy] at hj;cases hj
 |some y=>
  rw [hy] at hj;have e:x=if i=j then f y else y:=(Option.some.inj hj).symm;by_cases c:i=j
  ·rw [if_pos c] at e;subst c;exact .inr ⟨y,hy,e⟩
  ·rw [if_neg c] at e;exact .inl (e▸aQ hy)
def nM.pin(h:nM k n (D,l))(p:Po):nM (k+1) n (D,(zo l p).1):=by
 unfold zo;split
 ·refine ⟨λe he=> ?_,h.d,h.r⟩;rcases XU he with he|⟨y,hy,rfl⟩
  ·exact (h.e e he).mono (kW _)
  ·obtain ⟨q1,q2,q3⟩:=h.e y (aQ hy);exact ⟨q1,by simp only;omega,by simp only;omega⟩
 ·exact h.mono (kW _) (ak _)
def nM.aqm(h:nM k n (D,l))(p:Po):nM k n (D,(k7 l p).1):=by
 unfold k7;split
 ·split
  ·exact h
  ·rename_i h0;refine ⟨λe he=> ?_,h.d,h.r⟩;rcases XU he with he|⟨y,hy,rfl⟩
   ·exact h.e e he
   ·obtain ⟨q1,q2,q3⟩:=h.e y (aQ hy);rw [hy] at h0;simp only [mV,Option.some.injEq] at h0;exact ⟨q1,by simp only;omega,by simp only;omega⟩
 ·exact h
def nM.set(h:nM k n (D,l))(c:Ce)(b:Int):nM k n (D,(jv l c b).1):=by
 unfold jv;split
 ·exact h
 split
 ·exact h
 split
 ·exact h
 ·refine ⟨λe he=> ?_,h.d,h.r⟩;rcases dp.1 he with he|he
  ·exact h.e e ((Gv ..).subset he)
  ·obtain ⟨x,hx,rfl⟩:=wJ.1 (Option.mem_toList.1 he);exact h.e x (aQ hx)
def amN(D:Dk)(m:Int):(ov D m).l=D.l:=by unfold ov;split<;>rfl
def nM.fail(h:nM k n (D,l))(m:Int):nM k n (ov D m,l):=⟨h.e,by rw [amN];exact h.d,h.r.fail m⟩
def nM.Dj(h:nM k n (D,l))(m:Int):nM k n ((cA D m).1,[]):=⟨λ_ he=>(by cases he),dU _,h.r.Dj m⟩
def nM.aW(h:nM k n (D,l)){M:Sm}{L:lCs}(hr:Rok M L):nM k (n+1) ((tQ D 0 (dA M L)).1,l):=⟨h.e,c8 (acx D 0 _) (Nat.succ_le_succ h.d),h.r.aW hr⟩
end
def KE{l:List En}{c:Ce}{b:Int}(h:(jv l c b).2=0):PD c/\∃e ∈ l,e.1=pos c:=by
 unfold jv at h;split at h
 ·simp only at h;omega
 rename_i h1;split at h
 ·simp only at h;omega
 rename_i h2;refine ⟨by simpa using h2,?_⟩;rcases di (λe:En=>e.1==pos c) l with ⟨e,-⟩|⟨k,x,hx,hq,-,-⟩
 ·rw [e] at h1;omega
 ·exact ⟨x,aQ hx,by simpa using hq⟩
def Sj{c:Ce}(h:EP (pos c))(hy:PD c):(-9000000<=c.1/\c.1<=9000000)/\(0<=c.2.1/\c.2.1<32)/\-9000000<=c.2.2/\c.2.2<=9000000:=by unfold EP pos at h;unfold PD at hy;simp only at h;omega
def XV{q:QS}{c:Ce}{t:Int}{x:fi.It}(h:x ∈(lJ q c t).1.l):x ∈ q.l\/x=(t,c):=by
 unfold lJ at h;split at h
 ·split at h
  ·exact .inl h
  ·rcases (G3 _ _ _).1 h with h|h
   ·exact .inr h
   ·exact .inl ((B7 q.l c).subset h)
 ·split at h
  ·exact .inl h
  ·rcases (G3 _ _ _).1 h with h|h
   ·exact .inr h
   ·exact .inl h
def XW{V:Ce->Int}{now:Int}{c:Ce}:∀(l:List Ce) {q:QS} {x:fi.It},x ∈(l.foldl (λq n=>(lJ q n (now+jX (V n))).1) q).l->x ∈ q.l\/(x.2 ∈ l/\now<=x.1/\x.1<=now+5)
 | [],q,x,h=> .inl h
 |n::l,q,x,h=>by
  rcases XW (c:=c) l h with h|h
  ·rcases XV h with h|h
   ·exact .inl h
   ·have:=QQ (V n)
    exact .inr (by rw [h];exact ⟨bo,by simp only;omega,by simp only;omega⟩)
  ·exact .inr ⟨qY _ h.1,h.2⟩
def aaG{V:Ce->Int}{c:Ce}(h:(-9000000<=c.1/\c.1<=9000000)/\(0<=c.2.1/\c.2.1<32)/\-9000000<=c.2.2/\c.2.2<=9000000):∀n ∈ sN V c,Ck n:=by intro n hn;have hn:=(j3.1 hn).1;obtain ⟨x,y,z⟩:=c;simp only at h;unfold Ck;simp only [sk,cj,iY,or_false] at hn;rcases hn with rfl|rfl|rfl|rfl|rfl|rfl|rfl<;>(try simp only [fH,Dl])<;>omega
def Nr(k n:Nat)(M:Sm):Prop:=nM k n M.T/\(∀x ∈ M.q.l,okT x)/\0<=M.now/\M.now<=1099511627776
section
variable {k n:Nat}
def Nr.edit{M:Sm}(h:Nr k n M)(c:Ce)(b:Int):Nr k n (Av M c b):=by
 refine ⟨nM.set (D:=M.T.1) (l:=M.T.2) h.1 c b,λx hx=> ?_,h.2.2⟩;have hx:x ∈(if (jv M.T.2 c b).2=0 then GM (jm (jv M.T.2 c b).1) M.now M.q c else M.q).l:=hx;split at hx
 ·rename_i h0;obtain ⟨hy,e,he,hp⟩:=KE h0;have hc:=Sj (by rw [<-hp];exact (h.1.e e he).1) hy;rcases XW (c:=c) _ hx with hx|⟨hx,h1,h2⟩
  ·exact h.2.1 x hx
  ·have:=h.2.2;exact ⟨aaG hc _ hx,aa,aa⟩
 ·exact h.2.1 x hx
def Nr.change{M:Sm}(h:Nr k n M)(x:Go.fL.Cg):Nr k n (fb M x):=by
 unfold fb;split
 ·exact h
 ·exact h.edit _ _
def Nr.changes:∀(l:List Go.fL.Cg) {M:Sm},Nr k n M->Nr k n (l.foldl fb M)
 | [],M,h=>h
 |x::l,M,h=>Nr.changes l (h.change x)
def Nr.upd{M:Sm}(h:Nr k n M)(O:Ce->Bool){c:Ce}(hc:Ck c):Nr k n (wg O M c):=by
 unfold wg;split
 ·refine ⟨h.1,λx hx=> ?_,h.2.2⟩;rcases XV hx with hx|hx
  ·exact h.2.1 x hx
  ·have:=h.2.2;rw [hx];exact ⟨hc,by simp only;omega,by simp only;omega⟩
 split
 ·exact Nr.change (M:={M with nq:=M.nq++ [fH c]}) h (c,0)
 ·exact Nr.changes _ h
def Nr.Z8(O:Ce->Bool):∀(l:List Ce) {M:Sm},Xl l->Nr k n M->Nr k n (l.foldl (wg O) M)
 | [],M,_,h=>h
 |c::l,M,hl,h=>Nr.Z8 O l (λy hy=>hl y (by simp [hy])) (h.upd O (hl c bo))
def Nr.due{M:Sm}(h:Nr k n M):Xl (vX M):=λy hy=>by
 have hy:y ∈(M.q.l.take (iV M.q.l (qK M) M.dC)).map (·.2):=hy
 obtain ⟨x,hx,rfl⟩:=bf.1 hy
 exact (h.2.1 x (og hx)).1
def Nr.tick{M:Sm}(h:Nr k n M)(O:Ce->Bool):Nr k n (QR O M):=Nr.Z8 O _ h.due ⟨h.1,λx hx=>h.2.1 x (zk (show x ∈ M.q.l.drop _ from hx)),by have:=h.2.2;show 0<=qK M/\qK M<=_;unfold qK;omega⟩
end
def vt:∀(l:List Go.fL.Cg)(M:Sm),(l.foldl fb M).dC=M.dC
 | [],M=>rfl
 |x::l,M=>(vt l (fb M x)).trans (by unfold fb;split<;>rfl)
def VQ(O:Ce->Bool)(M:Sm)(c:Ce):(wg O M c).dC=M.dC:=by
 unfold wg;split
 ·rfl
 split
 ·unfold fb;split<;>rfl
 ·exact vt _ _
def Dn(O:Ce->Bool):∀(l:List Ce)(M:Sm),(l.foldl (wg O) M).dC=M.dC
 | [],M=>rfl
 |c::l,M=>(Dn O l (wg O M c)).trans (VQ O M c)
def N0(O:Ce->Bool)(M:Sm):(QR O M).dC=M.dC:=Dn O _ _
structure Inv(k:Nat)(M:Sm)(L:lCs):Prop where
 b:kH L
 s:qJ M (300000*k)
 n:Nr k (20*k) M
 u:1<=M.dC/\M.dC<=64
section
variable {k:Nat} {M M':Sm} {L L':lCs}
def Nr.mono{k n k' n':Nat}(h:Nr k n M)(hk:k<=k')(hn:n<=n'):Nr k' n' M:=⟨h.1.mono hk hn,h.2⟩
def Inv.mono(h:Inv k M L){k':Nat}(hk:k<=k'):Inv k' M L:=⟨h.b,h.s.mono aa,h.n.mono hk aa,h.u⟩
def Inv.tab(h:Inv k M L){T':Tb}(ht:nM (k+1) (20*(k+1)) T'):Inv (k+1) {M with T:=T'} L:=
 ⟨h.b,⟨h.s.mono aa|>.l,(h.s.mono aa:qJ M (300000*(k+1))).c,h.s.now,(h.s.mono aa:qJ M (300000*(k+1))).d⟩,⟨ht,h.n.2⟩,h.u⟩
def Inv.lv(h:Inv k M L)(hb:kH L'):Inv (k+1) M L':=⟨hb,h.s.mono aa,h.n.mono aa aa,h.u⟩
def Inv.edit(h:Inv k M L)(c:Ce)(b:Int):Inv (k+1) (Av M c b) L:=⟨h.b,(h.s.edit c b).mono aa,(h.n.edit c b).mono aa aa,h.u⟩
def Inv.up(h:Inv k M L):Inv (k+1) M L:=h.mono (kW _)
def Inv.afp(h:Inv k M L)(L':lCs)(c:Ce)(b:Int):Inv (k+1) (iE M L' c b).2 L:=by
 unfold iE;split
 ·exact h.up
 ·exact h.edit c b
def Inv.place(h:Inv k M L)(n:Int)(gL:Ce)(b:Int):Inv (k+1) (te M L n gL b).2 L:=by
 unfold te
 repeat' split
 all_goals first|exact h.up|exact h.afp _ _ _
def Inv.brk(h:Inv k M L)(n:Int)(gL:Ce):Inv (k+1) (mG M L n gL).2 L:=by
 unfold mG
 repeat' split
 all_goals first|exact h.up|exact h.afp _ _ _
def Inv.rok(h:Inv k M L)(hq:yF M.q):Rok M L:=⟨h.b,h.n.2.1,h.s.now,hq⟩
def fP:Nat->Sm->lCs->Int × Sm × lCs
 |0,M,L=>(0,M,L)
 |n+1,M,L=>((fP n M L).1+((vX (fP n M L).2.1).length:Int),(zP (fP n M L).2.1 (fP n M L).2.2).1,(zP (fP n M L).2.1 (fP n M L).2.2).2)
structure Jnv(k j:Nat)(M:Sm)(L:lCs):Prop where
 b:kH L
 s:qJ M (300000*k+2560*j)
 n:Nr k (20*k) M
 u:1<=M.dC/\M.dC<=64
def Inv.j(h:Inv k M L):Jnv k 0 M L:=⟨h.b,h.s.mono aa,h.n,h.u⟩
def Jnv.inv{j:Nat}(h:Jnv k j M L)(hj:j<=100):Inv (k+1) M L:=⟨h.b,h.s.mono aa,h.n.mono aa aa,h.u⟩
def Jnv.tick{j:Nat}(h:Jnv k j M L):Jnv k (j+1) (zP M L).1 (zP M L).2:=by have hl:=E0 (q:=M.q) (now:=qK M) h.u;have gy:qJ (GU M) (300000*k+2560*j):=⟨h.s.l,h.s.c,by have:=h.s.now;show 0<=qK M/\qK M<=_;unfold qK;omega,h.s.d⟩;have hS:qJ (zP M L).1 (300000*k+2560*j+40*(vX M).length):=qJ.Z8 _ (vX M) gy;have TB:(vX M).length<=64:=hl;refine ⟨h.b.tick,hS.mono aa,h.n.tick _,?_⟩;have:(zP M L).1.dC=M.dC:=N0 _ _;rw [this];exact h.u
def Inv.akR(h:Inv k M L):∀n:Nat,Jnv k n (fP n M L).2.1 (fP n M L).2.2/\0<=(fP n M L).1/\(fP n M L).1<=64*n
 |0=>⟨h.j,jN _,jN _⟩
 |n+1=>by
  obtain ⟨h1,h2,h3⟩:=Inv.akR h n
  have hl:=E0 (q:=(fP n M L).2.1.q) (now:=qK (fP n M L).2.1) h1.u
  have TB:(vX (fP n M L).2.1).length<=64:=hl
  refine ⟨h1.tick,?_,?_⟩<;>(show _<=_)<;>unfold fP<;>omega
end
abbrev er(x:Int):Prop:=0<=x/\x<14
def amZ(D:Dk)(k:Int)(b:List Int):er (kV D k b).2:=by
 unfold kV er
 repeat' split
 all_goals (simp only;omega)
def ai3(D:Dk):er (od D).2:=by unfold od er;split<;>(simp only;omega)
def akO(D:Dk)(id:Int)(b:List Int):er (tQ D id b).2:=by
 unfold tQ;split
 ·split
  ·unfold zb er;split<;>(simp only;omega)
  ·split
   ·exact amZ ..
   ·exact ai3 _
 ·unfold er;simp only;omega
def N9(D:Dk)(e:En):er (cE D e).2.2:=by
 unfold cE;split
 ·exact akO ..
 ·unfold er;simp only;omega
def akS(D:Dk)(l:List En)(i:Nat):er (goE D l i).2:=by
 unfold goE;split
 ·unfold er;simp only;omega
 ·split
  ·unfold er;simp only;omega
  ·exact N9 ..
def ai4(limit:Int)(D:Dk)(l:List En):er (fZ limit D l).2:=by
 unfold fZ;split
 ·unfold er;simp only;omega
 split
 ·unfold er;simp only;omega
 ·exact akS ..
def ahC(aj limit:Int)(D:Dk)(l:List En)(p:Po):er (Bh aj limit D l p).2:=by
 unfold Bh;split
 ·unfold er;simp only;omega
 split
 ·unfold er;simp only;omega
 split
 ·exact ai4 ..
 ·unfold er;simp only;omega
def Yt(D:Dk)(l:List En)(p:Po):er (oh D l p).2:=by
 unfold oh;split
 ·split
  ·unfold er;simp only;omega
  ·exact akS ..
 ·unfold er;simp only;omega
def acH(D:Dk)(l:List En)(p:Po):er (TG D l p).2:=by
 unfold TG;split
 ·split
  ·exact N9 ..
  ·unfold er;simp only;omega
 ·unfold er;simp only;omega
def ae4:∀(l:List En)(D:Dk)(pre:List En)(n:Int),0<=n->er (Vb D pre l n).2.2/\0<=(Vb D pre l n).2.1/\(Vb D pre l n).2.1<=n+l.length
 | [],D,pre,n,h=>by unfold Vb er;simp only [kX];omega
 |e::l,D,pre,n,h=>by
  unfold Vb
  rw [cD]
  split
  ·have:=ae4 l (cE D e).1 (pre++ [(cE D e).2.1]) (if e.2.2.1=true then n+1 else n) (by split<;>omega)
   refine ⟨this.1,this.2.1,?_⟩
   have h2:=this.2.2
   have:(if e.2.2.1=true then n+1 else n)<=n+1:=by split<;>omega
   omega
  ·exact ⟨N9 ..,by simp only;omega,by simp only;omega⟩
def acI(l:List En)(p:Po):er (zo l p).2/\er (k7 l p).2:=by
 unfold zo k7 er;refine ⟨by split<;>(simp only;omega),?_⟩
 repeat' split
 all_goals (simp only;omega)
def am0(l:List En)(c:Ce)(b:Int):er (jv l c b).2:=by
 unfold jv er
 repeat' split
 all_goals (simp only;omega)
def Oa(M:Sm)(L:lCs)(c:Ce)(b:Int):er (iE M L c b).1:=by
 unfold iE;split
 ·unfold er;simp only;omega
 ·exact am0 ..
def M4(M:Sm)(L:lCs)(n:Int)(gL:Ce):er (cQ M L n gL).2:=by
 unfold cQ er
 repeat' split
 all_goals (simp only;omega)
def afq(M:Sm)(L:lCs)(n:Int)(gL:Ce)(b:Int):er (te M L n gL b).1:=by
 unfold te
 repeat' split
 all_goals first|exact Oa .. |exact M4 .. |(unfold er;simp only;omega)
def am1(M:Sm)(L:lCs)(n:Int)(gL:Ce):er (mG M L n gL).1.2:=by
 unfold mG
 repeat' split
 all_goals first|exact Oa .. |exact M4 .. |(unfold er;simp only;omega)
def ahJ(L:lCs)(n:Int):er (zy L n).1:=by unfold zy er;split<;>(simp only;omega)
def ai5(L:lCs)(n:Int)(i:QN):er (AZ L n i).1:=by unfold AZ er;split<;>(simp only;omega)
def acW(M:Sm)(L:lCs)(b:eJ):er (iU M L b).2.1:=by
 unfold iU er
 repeat' split
 all_goals (simp only;omega)
end Go.Proofs.YtjcnjlaelhdjeaaGreatDoor
