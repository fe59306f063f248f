import Derived.Test.YtkkkfkopcfdmaaaGreatDoorH
import Derived.Test.YtkkkfkopcfdmaaaGreatDoorG
set_option linter.all false
namespace Go.Proofs.YtkkkfkopcfdmaaaGreatDoor
open Go Go.Vc Go.RowKit Go.Proofs Go.cZ Go.aT Go.Code Go.fh Go.eH Go.gr
set_option maxRecDepth 100000
def eI(v:Ce):Ce:=Ia (λ_ n=>cT n) v
def XT(v:Ce)(w:World):ah 195 #[eE v] w λe w'=>e=(eE (eI v))/\Ext w w':=by
 apply afk.vc;intro w0 e0 w1 e1;have x0:=aQ e0;have z0:=zA e0;have x1:=aQ e1;have z1:=zA e1;refine (vF (λ_ n=>cT n) v (.func (.func 256) #[] #[]) w1 λw' x' i x _ _=>cX (by kernel_rfl) rfl (WV.vc ((gA x w').mono ?_))).mono ?_
 ·rintro e w2 ⟨rfl,rfl⟩;exact ⟨_,rfl,rfl,Ext.cM _⟩
 rintro e w2 ⟨rfl,x2⟩;have z2:=x2.size;exact ⟨_,_,_,rfl,x2.heap ab,x2.heap ab,λw6 e6=>⟨rfl,(x0.tr (x1.tr x2)).ag e6 ab⟩⟩
def AE(n:Int):Int:=min (max n (-1048576)) 1048576
def ajO(n:Int):(if 1048576<(if (-1048576)>n then (-1048576) else n) then 1048576 else (if (-1048576)>n then (-1048576) else n))=AE n:=by
 unfold AE
 repeat' split
 all_goals omega
def yy(n:Int)(w:World):ah 257 #[n] w λe w'=>e=Value.int .i64 (AE n)/\w'=w:=by apply WW.vc;exact ⟨by rw [ajO],rfl⟩
def jU(v:Ce):Ce:=(AE v.1,AE v.2.1,AE v.2.2)
def XU(v:Ce)(w:World):ah 196 #[eE v] w λe w'=>e=(eE (jU v))/\Ext w w':=by apply afl.vc;intro w0 e0 w1 e1;have x0:=aQ e0;have z0:=zA e0;have r0:Row w0 w (eg v) gS:=Row.nw e0;have x1:Ext w0 w1.drew:=(aQ e1).drew;have r1:=r0.ext x1;refine (yy v.1 w1.drew).mono ?_;rintro e w2 ⟨rfl,rfl⟩;refine ⟨_,rfl,rfl,rfl,m7 r1 rfl,m7 r1 rfl,(yy v.2.1 w1.drew).mono ?_⟩;rintro e w4 ⟨rfl,rfl⟩;refine ⟨_,rfl,rfl,rfl,m7 r1 rfl,(yy v.2.2 w1.drew).mono ?_⟩;rintro e w6 ⟨rfl,rfl⟩;exact ⟨_,rfl,rfl,rfl,λw8 e8=>⟨rfl,(x0.tr x1).ag e8 ab⟩⟩
abbrev Sd:=Int × Int
def PC(a b:Sd):Bool:=if a.2=0\/b.2=0 then decide (0<a.2) else decide (ao (a.1*b.2)<ao (b.1*a.2))
def PD(a b:Sd)(w:World):ah 200 #[.agg #[a.1,a.2],.agg #[b.1,b.2]] w λe w'=>e=Value.bool (PC a b)/\Ext w w':=by
 apply Sg.vc;intro w0 e0 w1 e1;have x1:Ext w w1:=(aQ e0).bF e1;unfold PC;refine Br.mk (λh=>⟨?_,x1⟩) (λh=>Br.mk (λh2=>⟨?_,x1⟩) (λh2=>⟨?_,x1⟩))
 ·rw [if_pos (Or.inl (by simpa using h))]
 ·rw [if_pos (Or.inr (by simpa using h2))]
 ·rw [if_neg (by
   have h1:=cU h;have h3:=cU h2;rintro (h|h)
   ·exact h1 h
   ·exact h3 h)]
def sV(a b r:Int):Bool:=decide (ao (a-b)<=r) && decide (ao (b-a)<=r)
def yz(a b r:Int){g:Nat}{τ:TypeId}{w:World}(hr:Row w g [r] τ):ah 259 #[a,b,g] w λe w'=>e=Value.bool (sV a b r)/\w'=w:=by apply Ls.vc;unfold sV;refine ⟨r,hr.at 0 rfl,Br.mk (λh=>⟨r,hr.at 0 rfl,by rw [h,pU],rfl⟩) (λh=>⟨by rw [h,C5],rfl⟩)⟩
def me(a b:Ce)(r:Int):Bool:=sV a.1 b.1 r &&(sV a.2.1 b.2.1 r && sV a.2.2 b.2.2 r)
def LS(a b:Ce)(r:Int)(w:World):ah 199 #[eE a,eE b,r] w λe w'=>e=Value.bool (me a b r)/\Ext w w':=by apply Sh.vc;intro w0 e0 w1 e1 w2 e2;have x2:Ext w w2:=((aQ e0).bF e1).bF e2;have r2:∃τ,Row w2 w1 [r] τ:=⟨_,by rw [e2];exact Row.new w1 [_] _⟩;obtain ⟨τ,r2⟩:=r2;unfold me;refine (yz a.1 b.1 r r2).mono ?_;rintro e w3 ⟨rfl,rfl⟩;refine ⟨_,rfl,rfl,rfl,Br.mk (λh=>(yz a.2.1 b.2.1 r r2).mono ?_) (λh=>⟨by rw [h,C5],x2⟩)⟩;rintro e w5 ⟨rfl,rfl⟩;refine ⟨_,rfl,rfl,rfl,Br.mk (λh2=>(yz a.2.2 b.2.2 r r2).mono ?_) (λh2=>⟨by rw [h,h2];rfl,x2⟩)⟩;rintro e w7 ⟨rfl,rfl⟩;exact ⟨_,rfl,rfl,rfl,by rw [h,h2,pU,pU],x2⟩
def abJ(a b:Int)(ha:0<=a/\a<=1000000000)(hb:0<b/\b<=1048576)(w:World):ah 201 #[a,b] w λe w'=>e=Value.tuple #[.int .i64 (a*65536 / b),aa]/\Ext w w':=by
 apply WY.vc;refine (vv a w).mono ?_;rintro e w0 ⟨rfl,rfl⟩;have ca:cT a=a:=nZ ab;have cb:cT b=b:=nZ ab;rw [ca];refine ⟨_,_,rfl,(vv b w0).mono ?_⟩;rintro e w3 ⟨rfl,rfl⟩;rw [cb];have awK:(2 ^(min (16:Int).toNat 64):Int)=65536:=by decide
 have ma:max a (-a)=a:=by omega
 have mb:max b (-b)=b:=by omega
 rw [ma,mb];have na:decide (a<0)=false:=by simpa using ha.1
 have nb:decide (b<0)=false:=by simpa using Int.le_of_lt hb.1
 refine ⟨_,_,rfl,Br.mk (λh=>absurd (by simpa using h:b=0) ab) (λh=> ?_)⟩;have Mk:∀q ∈ Mt b,q:=λq hq=>by
  unfold Mt at hq;rw [if_neg ab] at hq
  cases hq
 rw [awK,xM (n:=a*65536) ab,na,nb];have hd:Int.tdiv (a*65536) b=a*65536 / b:=rj ab;have h1:0<=a*65536 / b:=Int.ediv_nonneg ab ab;have h2:a*65536 / b<=a*65536:=Int.ediv_le_self _ ab;rw [hd,xM (n:=a*65536 / b) ab];refine bB.2 ⟨Mk,bB.2 ⟨Mk,(FU (a*65536 / b) ab _ _ w3.drew).mono ?_⟩⟩;rintro e w6 ⟨rfl,x6⟩;exact ⟨_,rfl,rfl,(Ext.dr _).tr x6⟩
def afx{w:World}{g:Nat}{cs:LV}{E:TypeId}(hr:Row w g cs E){j:Nat}{a b:Value}(hj:j+2<=cs.length)(ha:a.oneCell'=true)(hb:b.oneCell'=true):
  Wr w (ae (aB g) j) 2/\∀w',w'=Vc.aL w (ae (aB g) j) [a,b]->Row w' g ((cs.set j a).set (j+1) b) E/\Mod (λi=>i=g) w w':=by
 rw [bh,eK];have h1:One [a,b]:=by
  intro u hu;simp at hu;rcases hu with rfl|rfl
  ·exact ha
  ·exact hb
 refine ⟨hr.wr hj,λw' e=> ?_⟩;rw [hr.aL (by simpa using hj) h1] at e;subst e;exact ⟨hr.set _,rfl,rfl,rfl,by rw [setRow_size];exact aC _,λi _ hn=>setRow_other _ _ _ _ hn⟩
abbrev S3:=Sd × Sd × Sd
abbrev DW(s:S3):LV:=[.int .i64 s.1.1,.int .i64 s.1.2,.int .i64 s.2.1.1,.int .i64 s.2.1.2,.int .i64 s.2.2.1,.int .i64 s.2.2.2]
abbrev QZ:TypeId:=268
def abI(s:S3):One (DW s):=by intro v hv;simp at hv;rcases hv with rfl|rfl|rfl|rfl|rfl|rfl<;>rfl
def yK(f d:Ce)(i:Int):Sd:=if dA d i>0 then (ao (65536-uD (dA f i)),dA d i) else (uD (dA f i),ao (0-dA d i))
def XN(f d:Ce):Nat->S3
 |0=>((0,0),(0,0),(0,0))
 |1=>(yK f d 0,(0,0),(0,0))
 |2=>(yK f d 0,yK f d 1,(0,0))
 |_=>(yK f d 0,yK f d 1,yK f d 2)
def Ta(f d:Ce)(w:World):ah 198 #[eE f,eE d] w λe w'=>e=Value.agg (DW (XN f d 3)).toArray/\Ext w w':=by
 apply WX.vc;intro w0 e0 w1 e1 w2 e2 w3 e3;have x0:=aQ e0;have z0:=zA e0;have x1:=aQ e1;have z1:=zA e1;have r1:Row w1 w0 (eg d) gS:=Row.nw e1;have x2:=aQ e2;have z2:=zA e2;have r2:Row w2 w1 (DW ((0,0),(0,0),(0,0))) QZ:=Row.nw e2;have x3:=aQ e3;have z3:=zA e3;have r3:Row w3 w2 (DW ((0,0),(0,0),(0,0))) QZ:=Row.nw e3;have Cc:=x0.tr (x1.tr (x2.tr x3));refine ⟨λn x wr=>∃k:Nat,x=k/\k+n=3/\Row wr w2 (DW (XN f d k)) QZ/\Row wr w1 (DW ((0,0),(0,0),(0,0))) QZ/\Row wr w0 (eg d) gS/\Ext w wr,⟨3,rfl,rfl,0,rfl,rfl,r3,r2.ext x3,r1.ext (x2.tr x3),Cc⟩,?_⟩;rintro n us x w8 ⟨k,rfl,hk,rl,ro,rd,xr⟩;have zl:=rl.lt;apply Br.mk<;>intro hc
 ·have hc:=cU hc;have AW:k=0\/k=1\/k=2:=by omega
  have wk:=nS (j:=k);have xd:=Ext.dr w8;have zd:=lE w8;refine (dp f k w8.drew).mono ?_;rintro e bP ⟨rfl,bj⟩;have YS:=bj.size;refine ⟨_,rfl,bj.heap ab,bj.heap ab,Lo.wv (rd.ext (xd.tr bj)),(dp d k bP).mono ?_⟩;rintro e dj ⟨rfl,bV⟩;have z12:=bV.size;have y12:=xd.tr (bj.tr bV);refine ⟨_,rfl,bV.heap ab,bV.heap ab,(Bu (dA f k) dj).mono ?_⟩;rintro e bO ⟨rfl,rfl⟩;obtain ⟨p1,p2⟩:=afx (rl.ext y12) (j:=(k:Int).toNat*2) (a:=.int .i64 (uD (dA f k))) (b:=.int .i64 (ao (0-dA d k))) (by show _<=6;omega) rfl rfl;refine ⟨_,rfl,rfl,rfl,by omega,by omega,⟨rfl,p1⟩,qw ab,qw ab,λcF HU=> ?_⟩;obtain ⟨q1,q2⟩:=p2 cF HU;have z16:=q2.size;have apv:Ext w cF:=q2.ext (xr.tr y12) λi hi=>by omega
  have alw:=(ro.ext y12).same (q2.same _ (ro.ext y12).lt ab);have Mp:=(rd.ext y12).same (q2.same _ (rd.ext y12).lt ab);refine Br.mk (λhq=>(Bu (dA f k) cF).mono ?_) (λhq=>⟨n-1,by omega,rfl,rfl,k+1,wk,by omega,?_,alw,Mp,apv⟩)
  ·rintro e cL ⟨rfl,rfl⟩;obtain ⟨p3,p4⟩:=afx q1 (j:=(k:Int).toNat*2) (a:=.int .i64 (ao (65536-uD (dA f k)))) (b:=.int .i64 (dA d k)) (by rw [gW,gW];show _<=6;omega) rfl rfl;refine ⟨_,rfl,rfl,rfl,by omega,by omega,⟨rfl,p3⟩,qw ab,qw ab,λgg e19=> ?_⟩;obtain ⟨q3,q4⟩:=p4 gg e19;have hq:=cU hq;have hs:yK f d k=(ao (65536-uD (dA f k)),dA d k):=by unfold yK;rw [if_pos hq]
   refine ⟨n-1,by omega,rfl,rfl,k+1,wk,by omega,?_,alw.same (q4.same _ alw.lt ab),Mp.same (q4.same _ Mp.lt ab),q4.ext apv λi hi=>by omega⟩;rcases AW with rfl|rfl|rfl
   ·have hs:yK f d 0=_:=hs;show Row gg _ (DW (yK f d 0,(0,0),(0,0))) QZ;rw [hs];exact q3
   ·have hs:yK f d 1=_:=hs;show Row gg _ (DW (yK f d 0,yK f d 1,(0,0))) QZ;rw [hs];exact q3
   ·have hs:yK f d 2=_:=hs;show Row gg _ (DW (yK f d 0,yK f d 1,yK f d 2)) QZ;rw [hs];exact q3
  ·have hq:=cU hq;have hs:yK f d k=(uD (dA f k),ao (0-dA d k)):=by unfold yK;rw [if_neg hq]
   rcases AW with rfl|rfl|rfl
   ·have hs:yK f d 0=_:=hs;show Row cF _ (DW (yK f d 0,(0,0),(0,0))) QZ;rw [hs];exact q1
   ·have hs:yK f d 1=_:=hs;show Row cF _ (DW (yK f d 0,yK f d 1,(0,0))) QZ;rw [hs];exact q1
   ·have hs:yK f d 2=_:=hs;show Row cF _ (DW (yK f d 0,yK f d 1,yK f d 2)) QZ;rw [hs];exact q1
 ·have hc:=cU hc;have AW:k=3:=by omega
  subst AW;refine ⟨_,_,_,_,_,_,Lo.wv rl,⟨rfl,ro.wr cp⟩,pB ab,pB ab,λfx A1=> ?_⟩;rw [ro.aL (vs:=DW (XN f d 3)) cp (abI (XN f d 3)),ep cp] at A1;have r26:Row fx w1 (DW (XN f d 3)) QZ:=ro.st A1;exact ⟨_,_,_,_,_,_,Lo.wv r26,rfl,xr.ag A1 ab⟩
def jM(s:S3):Nat->Sd
 |0=>s.1
 |1=>s.2.1
 |_=>s.2.2
def Ka(s:S3)(i:Nat)(x:Sd):S3:=
 match i with
 |0=>(x,s.2.1,s.2.2)
 |1=>(s.1,x,s.2.2)
 |_=>(s.1,s.2.1,x)
def fL(s:S3):Nat->Nat
 |0=>0
 |k+1=>if PC (jM s k) (jM s (fL s k))=true then k else fL s k
def LQ(s:S3):∀k:Nat,fL s k<k\/fL s k=0
 |0=> .inr rfl
 |k+1=>by
  unfold fL
  have:=LQ s k
  split<;>omega
def at3(s:S3):fL s 3=0\/fL s 3=1\/fL s 3=2:=by have:=LQ s 3;omega
abbrev Hi:=Ce × Int × Int
def nbN(c:Ce):Nat->Ce
 |0=>(c.1-1,c.2.1,c.2.2)
 |1=>(c.1+1,c.2.1,c.2.2)
 |2=>(c.1,c.2.1-1,c.2.2)
 |3=>(c.1,c.2.1+1,c.2.2)
 |4=>(c.1,c.2.1,c.2.2-1)
 |_=>(c.1,c.2.1,c.2.2+1)
def gd(d:Ce)(s:S3)(h:Hi):Option (S3 × Hi):=
 if (jM s (fL s 3)).2=0 then none
 else some (Ka s (fL s 3) ((jM s (fL s 3)).1+65536,(jM s (fL s 3)).2),(nbN h.1 (if dA d (fL s 3)>0 then 2*fL s 3+1 else 2*fL s 3),(if dA d (fL s 3)>0 then 2*(fL s 3:Int) else 2*(fL s 3:Int)+1),(jM s (fL s 3)).1*65536 /(jM s (fL s 3)).2))
def goK(d c0:Ce)(r:Int):Nat->S3->Hi->List Hi
 |0,_,_=> []
 |n+1,s,h=>if me c0 h.1 r=true then h::(match gd d s h with|none=> []|some q=>goK d c0 r n q.1 q.2) else []
def Au(x:Int):Int:=max x (-x)
def LR(k:Nat)(x:Sd)(d o:Int):Prop:=x.2=Au d/\(0<=x.1/\x.1<=65536*(k+1))/\(0<d->0<=o)/\(d<=0->o<=0)
def Av(d c0:Ce)(k:Nat)(s:S3)(c:Ce):Prop:=
 (LR k s.1 d.1 (c.1-c0.1)/\LR k s.2.1 d.2.1 (c.2.1-c0.2.1)/\LR k s.2.2 d.2.2 (c.2.2-c0.2.2))/\Au (c.1-c0.1)+Au (c.2.1-c0.2.1)+Au (c.2.2-c0.2.2)=k
def abG{d c0:Ce}{k:Nat}{s:S3}{h:Hi}(hr:Av d c0 k s h.1){q:S3 × Hi}(hq:gd d s h=some q):Av d c0 (k+1) q.1 q.2.1:=by
 obtain ⟨⟨⟨h1,h2,h3,h4⟩,⟨g1,g2,g3,g4⟩,⟨f1,f2,f3,f4⟩⟩,hs⟩:=hr;obtain ⟨⟨s1,s2⟩,⟨t1,t2⟩,⟨u1,u2⟩⟩:=s;obtain ⟨⟨cx,cy,cz⟩,face,time⟩:=h;unfold gd at hq;split at hq
 ·cases hq
 rename_i jh;injection hq with hq;subst hq;rcases at3 ((s1,s2),(t1,t2),(u1,u2)) with e|e|e
 ·rw [e] at jh ⊢;have a0:dA d ((0:Nat):Int)=d.1:=rfl;rw [a0];simp only [jM,Ka] at jh h1 h2 h3 h4 g1 g2 g3 g4 f1 f2 f3 f4 hs ⊢;unfold Av LR Au;unfold Au at h1 g1 f1 hs;split
  ·show (_/\_)/\_;simp only [nbN];omega
  ·show (_/\_)/\_;simp only [nbN];omega
 ·rw [e] at jh ⊢;have a0:dA d ((1:Nat):Int)=d.2.1:=rfl;rw [a0];simp only [jM,Ka] at jh h1 h2 h3 h4 g1 g2 g3 g4 f1 f2 f3 f4 hs ⊢;unfold Av LR Au;unfold Au at h1 g1 f1 hs;split
  ·simp only [nbN];omega
  ·simp only [nbN];omega
 ·rw [e] at jh ⊢;have a0:dA d ((2:Nat):Int)=d.2.2:=rfl;rw [a0];simp only [jM,Ka] at jh h1 h2 h3 h4 g1 g2 g3 g4 f1 f2 f3 f4 hs ⊢;unfold Av LR Au;unfold Au at h1 g1 f1 hs;split
  ·simp only [nbN];omega
  ·simp only [nbN];omega
def XM{d c0 c:Ce}{k:Nat}{s:S3}{r:Int}(hr:Av d c0 k s c)(h0:(-2000000000<=c0.1/\c0.1<=2000000000)/\(-2000000000<=c0.2.1/\c0.2.1<=2000000000)/\-2000000000<=c0.2.2/\c0.2.2<=2000000000)(hk:k<=1000)(hw:me c0 c r=true):(k:Int)<=3*r:=by obtain ⟨-,hs⟩:=hr;unfold Au at hs;unfold me sV at hw;simp only [fk,cN] at hw;rw [wI,wI,wI,wI,wI,wI] at hw;omega
abbrev hiV(h:Hi):Value:=.agg #[h.1.1,h.1.2.1,h.1.2.2,aa,h.2.1,h.2.2]
def kq(f d:Ce)(r:Int):List Hi:=goK d (bq f) r (3*r.toNat+2) (XN f d 3) (bq f,-1,0)
abbrev trX(f d:Ce)(r:Int):List (LV):=(kq f d r).map λh=> [hiV h]
abbrev amP(g:Nat):Value:=.func (.func 197) #[] #[g,.pointer (some ⟨g+1,0,none⟩),.pointer (some ⟨g+2,0,none⟩)]
def Jo{w:World}{g:Nat}{s:S3}{E:TypeId}(hr:Row w g (DW s) E){a:Nat}(ha:a=0\/a=1\/a=2):af w (ae (aB g) ((a:Int).toNat*2)) 0 [.int .i64 (jM s a).1,.int .i64 (jM s a).2]:=by
 rw [bh,eK];rcases ha with rfl|rfl|rfl
 all_goals
  refine hr.bY λj hj=> ?_
  match j,hj with
  |0,_=>rfl
  |1,_=>rfl
def ldA{w:World}{g:Nat}{s:S3}{E:TypeId}(hr:Row w g (DW s) E){a:Nat}(ha:a=0\/a=1\/a=2):Vc.ld w (ae (ae (aB g) ((a:Int).toNat*2)) 0)=some (.int .i64 (jM s a).1):=by rw [bh,bh,hr.ld];rcases ha with rfl|rfl|rfl<;>rfl
def ldB{w:World}{g:Nat}{s:S3}{E:TypeId}(hr:Row w g (DW s) E){a:Nat}(ha:a=0\/a=1\/a=2):Vc.ld w (ae (ae (aB g) ((a:Int).toNat*2)) 1)=some (.int .i64 (jM s a).2):=by rw [bh,bh,hr.ld];rcases ha with rfl|rfl|rfl<;>rfl
def ar8{w:World}{g:Nat}{s:S3}{E:TypeId}(hr:Row w g (DW s) E){a:Nat}(ha:a=0\/a=1\/a=2)(x:Int):
  Wr w (ae (ae (aB g) ((a:Int).toNat*2)) 0) 1/\∀w',w'=Vc.aL w (ae (ae (aB g) ((a:Int).toNat*2)) 0) [x]->Row w' g (DW (Ka s a (x,(jM s a).2))) E/\Mod (λi=>i=g) w w':=by
 have e:ae (ae (aB g) ((a:Int).toNat*2)) 0=ae (aB g) ((a:Int).toNat*2):=by rw [bh,bh];rfl
 rw [e];obtain ⟨p1,p2⟩:=hr.kl (j:=(a:Int).toNat*2) (v:=.int .i64 x) (by show _<6;omega) rfl;refine ⟨p1,λw' e'=> ?_⟩;obtain ⟨q1,q2⟩:=p2 w' e';refine ⟨?_,q2⟩;rcases ha with rfl|rfl|rfl<;>exact q1
def qg{w w':World}{g:Nat}{c:Array Value}(e:w'=w.setRow g c):Mod (λi=>i=g) w w':=by subst e;exact ⟨rfl,rfl,rfl,by rw [setRow_size];exact aC _,λi _ hn=>setRow_other _ _ _ _ hn⟩
def Vb(c:Ce){j:Nat}(hj:j<6):((DJ c).drop ((j:Int).toNat*3)).take 3=eg (nbN c j):=by
 have:j=0\/j=1\/j=2\/j=3\/j=4\/j=5:=by omega
 rcases this with rfl|rfl|rfl|rfl|rfl|rfl<;>rfl
def axd(d:Ce):dA d ((0:Nat):Int)=d.1/\dA d ((1:Nat):Int)=d.2.1/\dA d ((2:Nat):Int)=d.2.2:=⟨rfl,rfl,rfl⟩
def abH{d c0 c:Ce}{k a:Nat}{s:S3}(hr:Av d c0 k s c)(ha:a=0\/a=1\/a=2):LR k (jM s a) (dA d a) (dA c a-dA c0 a):=by
 obtain ⟨⟨h1,h2,h3⟩,-⟩:=hr;rcases ha with rfl|rfl|rfl
 ·exact h1
 ·exact h2
 ·exact h3
def XO(f d:Ce)(hd:∀i:Nat,i<3-> -1048576<=dA d i/\dA d i<=1048576):Av d (bq f) 0 (XN f d 3) (bq f):=by
 have h0:=hd 0 aF;have h1:=hd 1 aF;have h2:=hd 2 aF;obtain ⟨a0,a1,a2⟩:=axd d;rw [a0] at h0;rw [a1] at h1;rw [a2] at h2;have key:∀(i:Int)(q:Int),dA d i=q-> -1048576<=q/\q<=1048576->LR 0 (yK f d i) q 0:=λi q hq hb=>by
  have hf:0<=uD (dA f i)/\uD (dA f i)<65536:=by unfold uD;omega
  unfold yK LR Au;rw [hq];split
  ·rw [wI];simp only;omega
  ·rw [wI];simp only;omega
 refine ⟨⟨?_,?_,?_⟩,?_⟩
 ·rw [Int.sub_self];exact key 0 d.1 a0 h0
 ·rw [Int.sub_self];exact key 1 d.2.1 a1 h1
 ·rw [Int.sub_self];exact key 2 d.2.2 a2 h2
 ·rw [Int.sub_self,Int.sub_self,Int.sub_self];rfl
set_option maxHeartbeats 2000000 in
def S9(f d:Ce)(r:Int)(hf:(-1900000000<=(bq f).1/\(bq f).1<=1900000000)/\(-1900000000<=(bq f).2.1/\(bq f).2.1<=1900000000)/\-1900000000<=(bq f).2.2/\(bq f).2.2<=1900000000)(hd:∀i:Nat,i<3-> -1048576<=dA d i/\dA d i<=1048576)(hr:0<=r/\r<=64)
  (g:Nat)(W0:World)(h0:Row W0 g (eg f) gS)(h1:Row W0 (g+1) (eg d) gS)(h2:Row W0 (g+2) [r] 3):
  Iter Tryz.prog (amP g) W0 (λi=>i=g\/i=g+1\/i=g+2) (trX f d r):=by
 refine ⟨⟨_,_,_,rfl,by kernel_rfl⟩,?_⟩;intro y B J Jx F0 W hB hsJ hsX AK hRd hround hJ0;refine cX (by kernel_rfl) (by rfl) ?_;apply Oo.vc;have q0:=h0.same (hRd g (.inl rfl)).2.2;have q1:=h1.same (hRd (g+1) (.inr (.inl rfl))).2.2;have q2:=h2.same (hRd (g+2) (.inr (.inr rfl))).2.2;refine ⟨_,_,_,Lo.wv q0,_,_,_,Lo.wv q1,(Ta f d W).mono ?_⟩;rintro e w6 ⟨rfl,x6⟩;have z6:=x6.size;refine ⟨_,_,_,_,_,_,rfl,λbK Hl=> ?_⟩;have z13:=zA Hl;have r13:Row bK w6 (DW ((0,0),(0,0),(0,0))) QZ:=Row.nw Hl;refine ⟨⟨rfl,r13.wr cp⟩,λbO vH=> ?_⟩;rw [r13.aL (vs:=DW (XN f d 3)) cp (abI (XN f d 3)),ep cp] at vH;have r14:Row bO w6 (DW (XN f d 3)) QZ:=r13.st vH;have ZD:=zR vH;have bI:Ext w6 bO:=(aQ Hl).ag vH (aC _);refine ⟨_,_,_,Lo.wv (q0.ext (x6.tr bI)),(zI f bO).mono ?_⟩;rintro e dH ⟨rfl,cA⟩;have z18:=cA.size;refine ⟨_,_,_,rfl,λdP HI eP VC gl IB cW yA=> ?_⟩;have z22:=zA HI;have z23:=zR VC;have z24:=zA IB;have z25:=zR yA;have dY:Ext dH cW:=(((aQ HI).ag VC (aC _)).bF IB).ag yA ab;have xW:=x6.tr (bI.tr (cA.tr dY));obtain ⟨K,hK⟩:∃K:Nat->Prop,K=λi=>i=g\/i=g+1\/i=g+2\/i=w6.heap.size\/i=dH.heap.size\/i=eP.heap.size:=⟨_,rfl⟩
 obtain ⟨P,hP⟩:∃P:Nat->S3->World->Prop,P=λk s wr=>(∃F,J k F wr/\∀i,K i->¬F i/\i<wr.heap.size)/\(Row wr g (eg f) gS/\Row wr (g+1) (eg d) gS/\Row wr (g+2) [r] 3)/\Row wr w6 (DW s) QZ/\cW.heap.size<=wr:=⟨_,rfl⟩
 have ext:∀{k:Nat} {s:S3} {wr wr':World},P k s wr->Ext wr wr'->P k s wr':=λ{k s wr wr'} h x=>by rw [hP] at h ⊢;obtain ⟨⟨F,hJ,hk⟩,⟨a0,a1,a2⟩,a3,a4⟩:=h;exact ⟨⟨F,hsJ _ _ _ _ hJ (Below.mono x ab) λi hi=>x.heap (AK _ _ _ hJ i hi),λi hi=>⟨(hk i hi).1,kM (hk i hi).2 x.size⟩⟩,⟨a0.ext x,a1.ext x,a2.ext x⟩,a3.ext x,gx a4 x.size⟩
 have glt:g+2<W.heap.size:=q2.lt;have qE:∀{k:Nat} {s s':S3} {wr wr':World} {b:Nat},P k s wr->Mod (λi=>i=b) wr wr'->(b=w6.heap.size\/b=dH.heap.size)->Row wr' w6 (DW s') QZ->P k s' wr':=λ{k s s' wr wr' b} h hm hb dy=>by rw [hP] at h ⊢;obtain ⟨⟨F,hJ,hk⟩,⟨a0,a1,a2⟩,a3,a4⟩:=h;have hkb:¬F b:=(hk b (by rw [hK];rcases hb with rfl|rfl<;>simp)).1;refine ⟨⟨F,hsJ _ _ _ _ hJ (hm.below ab λi hi=>by rcases hb with rfl|rfl<;>omega) λi hi=>hm.same i (AK _ _ _ hJ i hi) λq=>hkb (by rw [<-q];exact hi),λi hi=>⟨(hk i hi).1,kM (hk i hi).2 hm.size⟩⟩,⟨a0.same (hm.same _ a0.lt ab),a1.same (hm.same _ a1.lt ab),a2.same (hm.same _ a2.lt ab)⟩,dy,gx a4 hm.size⟩
 have init:P 0 (XN f d 3) cW:=by
  rw [hP];refine ⟨⟨F0,hsJ _ _ _ _ hJ0 (Below.mono xW ab) λi hi=>xW.heap (AK _ _ _ hJ0 i hi),λi hi=> ?_⟩,⟨q0.ext xW,q1.ext xW,q2.ext xW⟩,r14.ext (cA.tr dY),aC _⟩;rw [hK] at hi;have hF:∀i,F0 i->i<W.heap.size:=λi hi=>AK _ _ _ hJ0 i hi
  rcases hi with hi|hi|hi|hi|hi|hi
  ·exact ⟨(hRd i (.inl hi)).1,by omega⟩
  ·exact ⟨(hRd i (.inr (.inl hi))).1,by omega⟩
  ·exact ⟨(hRd i (.inr (.inr hi))).1,by omega⟩
  ·exact ⟨λq=>by have:=hF i q;omega,by omega⟩
  ·exact ⟨λq=>by have:=hF i q;omega,by omega⟩
  ·exact ⟨λq=>by have:=hF i q;omega,by omega⟩
 have round:∀{k:Nat} {s:S3} {wr:World} {x:LV},(trX f d r)[k]? =some x->P k s wr->cC Tryz.prog y x wr λe w'=>((e=true/\P (k+1) s w')\/(e=false/\∃F',Jx () F' w'))/\w'.heap[dH.heap.size]? =wr.heap[dH.heap.size]?/\w'.heap[eP.heap.size]? =wr.heap[eP.heap.size]? :=λ{k s wr x} hx h=>by
  rw [hP] at h ⊢;obtain ⟨⟨F,hJ,hk⟩,⟨a0,a1,a2⟩,a3,a4⟩:=h;have kk:∀i,(i=g\/i=g+1\/i=g+2\/i=w6.heap.size\/i=dH.heap.size\/i=eP.heap.size)->K i:=λi hi=>by rw [hK];exact hi
  refine dw (hround _ _ _ _ hx hJ) ?_;rintro e w' (⟨rfl,F2,Ul,gM⟩|⟨rfl,F2,Ul,gM⟩)
  ·have same:∀i,K i->w'.heap[i]? =wr.heap[i]? :=λi hi=>gM.same i (hk i hi).2 (hk i hi).1
   refine ⟨.inl ⟨rfl,⟨F2,Ul,λi hi=>⟨λhf=> ?_,kM (hk i hi).2 gM.size⟩⟩,⟨a0.same (same _ (kk _ cp)),a1.same (same _ (kk _ cp)),a2.same (same _ (kk _ cp))⟩,a3.same (same _ (kk _ cp)),gx a4 gM.size⟩,same _ (kk _ cp),same _ (kk _ cp)⟩;rcases gM.sub i hf with hf|hf
   ·exact (hk i hi).1 hf
   ·have:=(hk i hi).2;omega
  ·have same:∀i,K i->w'.heap[i]? =wr.heap[i]? :=λi hi=>gM.same i (hk i hi).2 (hk i hi).1
   exact ⟨.inr ⟨rfl,F2,Ul⟩,same _ (kk _ cp),same _ (kk _ cp)⟩
 have fin:∀{s:S3} {wr:World},P (trX f d r).length s wr->∃F',J (trX f d r).length F' wr:=λh=>by rw [hP] at h;obtain ⟨⟨F,hJ,-⟩,-⟩:=h;exact ⟨F,hJ⟩
 have rowL:∀{k:Nat} {s:S3} {wr:World},P k s wr->Row wr w6 (DW s) QZ:=λh=>by rw [hP] at h;exact h.2.2.1
 have rowD:∀{k:Nat} {s:S3} {wr:World},P k s wr->Row wr (g+1) (eg d) gS:=λh=>by rw [hP] at h;exact h.2.1.2.1
 have rowR:∀{k:Nat} {s:S3} {wr:World},P k s wr->Row wr (g+2) [r] 3:=λh=>by rw [hP] at h;exact h.2.1.2.2
 have hz:∀{k:Nat} {s:S3} {wr:World},P k s wr->cW.heap.size<=wr:=λh=>by rw [hP] at h;exact h.2.2.2
 have hxs:trX f d r=(goK d (bq f) r (3*r.toNat+2) (XN f d 3) (bq f,-1,0)).map λh=> [hiV h]:=rfl
 generalize trX f d r=xs at*;have hbegin:=XO f d hd;generalize Q2:bq f=c0 at*;refine ⟨λn a b c z fc tm wr=>∃(k:Nat)(s:S3),P k s wr/\k+n=3*r.toNat+2/\Av d c0 k s (a,b,c)/\z=0/\∃pre:List (LV),pre.length=k/\xs=pre++(goK d c0 r n s ((a,b,c),fc,tm)).map λh=> [hiV h],⟨3*r.toNat+2,rfl,0,XN f d 3,init,by omega,hbegin,rfl,[],rfl,hxs⟩,?_⟩;rintro n us a b c z fc tm wr ⟨k,s,hp,YP,hro,rfl,pre,hpl,hx⟩;have zr:=hz hp;refine ⟨_,(rowR hp).at 0 rfl,(LS c0 (a,b,c) r wr).mono ?_⟩;rintro e oD ⟨rfl,gk⟩;have D7:=ext hp gk;refine ⟨_,rfl,gk.heap ab,gk.heap ab,Br.mk (λhw=> ?_) (λhw=> ?_)⟩
 ·have AW:=XM hro ab ab hw;obtain ⟨n,rfl⟩:∃n',n=n'+1:=⟨n-1,by omega⟩;have hgo:goK d c0 r (n+1) s ((a,b,c),fc,tm)=((a,b,c),fc,tm)::(match gd d s ((a,b,c),fc,tm) with|none=> []|some q=>goK d c0 r n q.1 q.2):=by
   show (if me c0 (a,b,c) r=true then _ else _)=_;rw [if_pos hw]
   all_goals (cases gd d s ((a,b,c),fc,tm)<;>rfl)
  rw [hgo] at hx;have hxk:xs[k]? =some [hiV ((a,b,c),fc,tm)]:=by rw [hx,qW ab,hpl,Nat.sub_self];rfl
  refine dw (round hxk D7) ?_;rintro e jP ⟨hcase,k1,k2⟩;rcases hcase with ⟨rfl,ao6⟩|⟨rfl,hJx⟩
  ·refine ⟨true,rfl,k1,k2,Br.mk (λq=>by cases q) (λ_=> ?_)⟩;have z40:=hz ao6;refine ⟨λm i at_ wr=>∃j:Nat,i=j/\j+m=3/\at_=fL s j/\P (k+1) s wr,⟨3,rfl,rfl,0,rfl,rfl,rfl,ao6⟩,?_⟩;rintro m us i at_ TM ⟨j,rfl,hjm,rfl,Zm⟩;have z2:=hz Zm;have haj:fL s j<j\/fL s j=0:=LQ s j;apply Br.mk<;>intro hc
   ·have hc:=cU hc;have hj3:j=0\/j=1\/j=2:=by omega
    have ha3:fL s j=0\/fL s j=1\/fL s j=2:=by omega
    have hpd:=ext Zm (Ext.dr TM);have zd:=lE TM;refine ⟨by omega,by omega,_,_,Jo (rowL hpd) hj3,by omega,by omega,_,_,Jo (rowL hpd) ha3,(PD (jM s j) (jM s (fL s j)) TM.drew).mono ?_⟩;rintro e Uh ⟨rfl,jA⟩;have ao7:=ext hpd jA;have wk:=nS (j:=j);refine ⟨_,rfl,jA.heap ab,jA.heap ab,Br.mk (λq=>⟨m-1,by omega,rfl,rfl,j+1,wk,by omega,?_,ao7⟩) (λq=>⟨m-1,by omega,rfl,rfl,j+1,wk,by omega,?_,ao7⟩)⟩
    ·show ((j:Nat):Int)=((if PC (jM s j) (jM s (fL s j))=true then j else fL s j:Nat):Int);rw [if_pos q]
    ·show ((fL s j:Nat):Int)=((if PC (jM s j) (jM s (fL s j))=true then j else fL s j:Nat):Int);rw [if_neg (by rw [q];decide)]
   ·have hc:=cU hc;have:j=3:=by omega
    subst this;have ha3:=at3 s;have hside:=abH hro ha3;have hnx:gd d s ((a,b,c),fc,tm)=if (jM s (fL s 3)).2=0 then none else some (Ka s (fL s 3) ((jM s (fL s 3)).1+65536,(jM s (fL s 3)).2),(nbN (a,b,c) (if dA d (fL s 3)>0 then 2*fL s 3+1 else 2*fL s 3),(if dA d (fL s 3)>0 then 2*(fL s 3:Int) else 2*(fL s 3:Int)+1),(jM s (fL s 3)).1*65536 /(jM s (fL s 3)).2)):=rfl;have Zo:=λq (h:gd d s ((a,b,c),fc,tm)=some q)=>abG hro h
    have hdd:=hd (fL s 3) ab;generalize fL s 3=A at*;refine ⟨by omega,by omega,_,ldB (rowL Zm) ha3,Br.mk (λq=> ?_) (λq=> ?_)⟩
    ·have q:=cU q;rw [hnx,if_pos q] at hx;have:xs.length=k+1:=by rw [hx];simp [hpl]
     rw [<-this] at Zm;exact ⟨⟨_,rfl⟩,.inl (fin Zm)⟩
    ·have q:=cU q;rw [if_neg q] at hnx;rw [hnx] at hx;have Zo:=Zo _ hnx;obtain ⟨s1,s2,s3,s4⟩:=hside;have s2':0<=(jM s A).1/\(jM s A).1<=20000000:=by omega
     have hsp:0<(jM s A).2/\(jM s A).2<=1048576:=by unfold Au at s1;omega
     have hpd:=ext Zm (Ext.dr TM);have zd:=lE TM;refine ⟨by omega,by omega,_,ldA (rowL hpd) ha3,by omega,by omega,_,ldB (rowL hpd) ha3,(abJ _ _ ab hsp TM.drew).mono ?_⟩;rintro e Cx ⟨rfl,wy⟩;have ag4:=ext hpd wy;have z58:=hz ag4;obtain ⟨p1,p2⟩:=ar8 (rowL ag4) ha3 (ao ((jM s A).1+65536));refine ⟨_,_,rfl,wy.heap ab,wy.heap ab,by omega,by omega,_,ldA (rowL ag4) ha3,by omega,by omega,⟨rfl,p1⟩,?_,?_,λiH e62=> ?_⟩
     ·rw [c5];exact qw ab
     ·rw [c5];exact qw ab
     obtain ⟨q1,q2⟩:=p2 iH e62;rw [aK (n:=(jM s A).1+65536) (by unfold bN;omega)] at q1;have alb:=qE ag4 q2 (.inl rfl) q1;have z62:=hz alb;refine ⟨_,_,_,Lo.wv (rowD alb),(dp d A iH).mono ?_⟩;rintro e rT ⟨rfl,mg⟩;have alc:=ext alb mg;have z66:=hz alc;have hwide:eQ (a,b,c):=by unfold me sV at hw;obtain ⟨-,HN⟩:=hro;unfold Au at HN;unfold eQ;simp only at HN ⊢;omega
     have w1:ao (2*(A:Int))=2*(A:Int):=wI;have w2:ao (2*(A:Int)+1)=((2*A+1:Nat):Int):=by rw [wI];omega
     have w3:ao (2*(A:Int)+0)=((2*A:Nat):Int):=by rw [wI];omega
     have w4:ao (((2*A+1:Nat):Int)-1)=2*(A:Int):=by rw [wI];omega
     have w5:ao (((2*A+1:Nat):Int)-0)=2*(A:Int)+1:=by rw [wI];omega
     rw [w1,w2,w3,w4,w5];have hxx:∀y:List Hi,xs=pre++(((a,b,c),fc,tm)::y).map (λh=> [hiV h])->xs=(pre++ [[hiV ((a,b,c),fc,tm)]])++y.map λh=> [hiV h]:=λy h=>by rw [h];simp
     refine ⟨_,rfl,mg.heap ab,mg.heap ab,Br.mk (λhq=>(jn (a,b,c) hwide rT).mono ?_) (λhq=>(jn (a,b,c) hwide rT).mono ?_)⟩
     ·have hq:=cU hq;rw [if_pos hq,if_pos hq] at hx Zo;rintro e uc ⟨rfl,mS⟩;have Mr:=ext alc mS;have z68:=hz Mr;refine ⟨_,_,_,_,_,_,_,_,_,_,_,_,_,_,_,_,_,_,rfl,mS.heap ab,mS.heap ab,⟨by omega,by omega⟩,_,_,_,Vb (a,b,c) (j:=2*A+1) ab,λpg e90=> ?_⟩;have hm:=qg e90;refine ⟨n,by omega,rfl,k+1,_,qE Mr hm (.inr rfl) ((rowL Mr).same (hm.same _ (rowL Mr).lt ab)),by omega,Zo,rfl,pre++ [[hiV ((a,b,c),fc,tm)]],by simp [hpl],hxx _ hx⟩
     ·have hq:=cU hq;rw [if_neg hq,if_neg hq] at hx Zo;rintro e uc ⟨rfl,mS⟩;have Mr:=ext alc mS;have z68:=hz Mr;refine ⟨_,_,_,_,_,_,_,_,_,_,_,_,_,_,_,_,_,_,rfl,mS.heap ab,mS.heap ab,⟨by omega,by omega⟩,_,_,_,Vb (a,b,c) (j:=2*A) ab,λpg e90=> ?_⟩;have hm:=qg e90;refine ⟨n,by omega,rfl,k+1,_,qE Mr hm (.inr rfl) ((rowL Mr).same (hm.same _ (rowL Mr).lt ab)),by omega,Zo,rfl,pre++ [[hiV ((a,b,c),fc,tm)]],by simp [hpl],hxx _ hx⟩
  ·exact ⟨false,rfl,k1,k2,Br.mk (λ_=>⟨⟨_,rfl⟩,.inr hJx⟩) (λq=>by cases q)⟩
 ·have hgo:goK d c0 r n s ((a,b,c),fc,tm)=[]:=by
   cases n with
   |zero=>rfl
   |succ n=>
    show (if me c0 (a,b,c) r=true then _ else _)=_;rw [if_neg (by rw [hw];decide)]
  rw [hgo] at hx;have:xs.length=k:=by rw [hx];simp [hpl]
  rw [<-this] at D7;exact ⟨⟨_,rfl⟩,.inl (fin D7)⟩
def Vh{α:Type}(p:α->Bool):∀(l:List α)(n:Nat)(x:α),l[n]? =some x->(∀y ∈ l.take n,p y=false)->p x=true->l.find? p=some x
 | [],n,x,h,_,_=>by simp at h
 |a::l,0,x,h,_,hp=>by
  have h:a=x:=by simpa using h
  subst h;rw [List.find?_cons_of_pos hp]
 |a::l,n+1,x,h,hn,hp=>by have ha:p a=false:=hn a cp;rw [List.find?_cons_of_neg (by rw [ha];decide)];exact Vh p l n x (by simpa using h) (λy hy=>hn y (by simp [hy])) hp
def lp(r:Int):Int:=min (max r 0) 64
def Ti(f d:Ce)(r:Int)(w:World):ah 143 #[eE f,eE d,r] w λe w'=>e=(amP w)/\Row w' w (eg (eI f)) gS/\Row w' (w.heap.size+1) (eg (jU d)) gS/\Row w' (w.heap.size+2) [(lp r)] 3/\Ext w w':=by
 apply WZ.vc;intro w0 e0 w1 e1 w2 e2;have x0:=aQ e0;have z0:=zA e0;have r0:Row w0 w (eg f) gS:=Row.nw e0;have x1:=aQ e1;have z1:=zA e1;have r1:Row w1 w0 (eg d) gS:=Row.nw e1;have x2:=aQ e2;have z2:=zA e2;have r2:Row w2 w1 [r] 3:=Row.nw e2;have xd:=Ext.dr w2;have zd:=lE w2;refine (XT f w2.drew).mono ?_;rintro e w3 ⟨rfl,x3⟩;have z3:=x3.size;refine ⟨_,_,_,rfl,x3.heap ab,x3.heap ab,x3.heap ab,Lo.wv (r2.ext (xd.tr x3)),Lo.wv (r1.ext (x2.tr (xd.tr x3))),(XU d w3).mono ?_⟩;rintro e w7 ⟨rfl,x7⟩;have z7:=x7.size;have y7:=xd.tr (x3.tr x7);have r27:=r2.ext y7;refine ⟨_,_,_,rfl,x7.heap ab,x7.heap ab,x7.heap ab,Lo.wv r27,λbg HS=> ?_⟩;have r0':Row bg w (eg (eI f)) gS:=by rw [HS];exact Row.set (r0.ext (x1.tr (x2.tr y7))) [_,_,_]
 have r1':Row bg w0 (eg d) gS:=(r1.ext (x2.tr y7)).same (by rw [HS];exact setRow_other _ _ _ _ ab);have r2':Row bg w1 [r] 3:=r27.same (by rw [HS];exact setRow_other _ _ _ _ ab);have bu:Ext w bg:=(x0.tr (x1.tr (x2.tr y7))).ag HS (aC _);refine ⟨Lo.wv r2',λdj Q9=> ?_⟩;have s1:Row dj w0 (eg (jU d)) gS:=by rw [Q9];exact Row.set r1' [_,_,_]
 have s0:=r0'.so Q9;have s2:=r2'.so Q9;have bV:Ext w dj:=bu.ag Q9 ab;refine ⟨Lo.wv s2,λbK Hl=> ?_⟩;have er:(if 64<(if 0>r then 0 else r) then 64 else (if 0>r then 0 else r))=lp r:=by
  unfold lp
  repeat' split
  all_goals omega
 rw [er] at Hl;have t2:Row bK w1 [(lp r)] 3:=s2.st Hl;have t0:=s0.so Hl;have t1:=s1.so Hl;rw [z0] at t1;rw [z1,z0] at t2;exact ⟨by rw [z1,z0],t0,t1,t2,bV.ag Hl ab⟩
abbrev Tj:=Ce × Int × Int × Int
abbrev XV(h:Tj):Value:=.agg #[h.1.1,h.1.2.1,h.1.2.2,h.2.1,h.2.2.1,h.2.2.2]
def fZ(V:Ce->Int)(f d:Ce)(r:Int):Tj × Bool:=
 match (kq (eI f) (jU d) (lp r)).find? (λh=> !j8 (V h.1)) with
 |some h=>((h.1,V h.1,h.2.1,h.2.2),true)
 |none=>(((0,0,0),0,0,0),false)
set_option maxHeartbeats 2000000 in
def Ko{v:Value}{V:Ce->Int}{w:World}(hV:Tl v V w)(hv:kP v=[])(f d:Ce)(r:Int)(hf:(-1900000000<=(bq (eI f)).1/\(bq (eI f)).1<=1900000000)/\(-1900000000<=(bq (eI f)).2.1/\(bq (eI f)).2.1<=1900000000)/\-1900000000<=(bq (eI f)).2.2/\(bq (eI f)).2.2<=1900000000)
  (bn:∀h ∈ kq (eI f) (jU d) (lp r),pW h.1):
  ah 87 #[v,eE f,eE d,r] w λe w'=>e=Value.tuple #[XV (fZ V f d r).1,.bool (fZ V f d r).2]/\Ext w w':=by
 apply aaQ.vc;rw [hv,qS];intro w0 e0 w1 e1 w2 e2 w3 e3 w4 e4;have x0:=aQ e0;have z0:=zA e0;have x1:=aQ e1;have z1:=zA e1;have x2:=aQ e2;have z2:=zA e2;have x3:=aQ e3;have z3:=zA e3;have x4:=aQ e4;have z4:=zA e4;have Dp:=x0.tr (x1.tr (x2.tr (x3.tr x4)));refine (Ti f d r w4).mono ?_;rintro e w5 ⟨rfl,t0,t1,t2,x5⟩;have z5:=x5.size;have l5:=t2.lt;have QL:=Dp.tr x5;have hdd:∀i:Nat,i<3-> -1048576<=dA (jU d) i/\dA (jU d) i<=1048576:=λi hi=>by
  have hc:∀n,-1048576<=AE n/\AE n<=1048576:=λn=>by unfold AE;omega
  have:i=0\/i=1\/i=2:=by omega
  rcases this with rfl|rfl|rfl<;>exact hc _
 have hrr:0<=lp r/\lp r<=64:=by unfold lp;omega
 have hcast:fZ V f d r=match (kq (eI f) (jU d) (lp r)).find? (λh=> !j8 (V h.1)) with
  |some h=>((h.1,V h.1,h.2.1,h.2.2),true)
  |none=>(((0,0,0),0,0,0),false):=rfl
 have last:∀{w6 w7:World},Mod (λi=>i=w2.heap.size\/i=w3.heap.size\/w5.heap.size<=i) w5 w6->Rec w5 w6 w7->Ext w w7:=λhm hr=>by
  have hx:=hm.ext QL λi hi=>by have:=QL.size;omega
  exact (Mod.sI hr).ext hx λi hi=>by have:=QL.size;omega
 refine ⟨_,rfl,x5.heap ab,x5.heap ab,x5.heap ab,x5.heap ab,x5.heap ab,trX (eI f) (jU d) (lp r),λi=>i=w4.heap.size\/i=w4.heap.size+1\/i=w4.heap.size+2,λ_=>False,
  λn F a b c q s t bb w'=>(∀i,¬F i)/\(∀h ∈(kq (eI f) (jU d) (lp r)).take n,(!j8 (V h.1))=false)/\Mod (λi=>w5.heap.size<=i) w5 w',
  λo F a b c q s t bb w'=>(∀i,¬F i)/\fZ V f d r=(((a,b,c),q,s,t),bb)/\Mod (λi=>i=w2.heap.size\/i=w3.heap.size\/w5.heap.size<=i) w5 w',?_,?_,?_,λn F a b c q s t bb w' h i hi=>(h.1 i hi).elim,λo F a b c q s t bb w' h i hi=>(h.1 i hi).elim,λi hi=> ?_,λCy yD=> ?_,?_,?_,?_⟩
 ·intro x hx;obtain ⟨c,-,rfl⟩:=aW.1 hx;exact ⟨_,_,_,_,_,_,rfl⟩
 ·rintro n F a b c q s t bb eZ dP ⟨h1,h2,h3⟩ lr -;exact ⟨h1,h2,h3.tr ⟨lr.os,lr.tape,lr.output,lr.size,λi hi hn=>lr.block i (JG hn)⟩ λi hi=> .inl hi⟩
 ·rintro o F a b c q s t bb eZ dP ⟨h1,h2,h3⟩ lr -;exact ⟨h1,h2,h3.tr ⟨lr.os,lr.tape,lr.output,lr.size,λi hi hn=>lr.block i (JG hn)⟩ λi hi=> .inl (.inr (.inr hi))⟩
 ·exact ⟨by omega,id,by omega,by omega,by omega,by omega,by omega,trivial⟩
 ·exact ⟨S9 _ _ _ hf hdd hrr _ Cy (t0.same (yD.ext.block _ ab)) (t1.same (yD.ext.block _ ab)) (t2.same (yD.ext.block _ ab)),rfl,rfl,rfl,λi h=>h,λc hc=>by simp at hc,Mod.aH yD.ext⟩
 ·rintro n F us a0 b0 c0 q0 s0 t0' bb a b c q s t qH hx hI Cx e58 yO ZJ;have qq:Ext qH yO:=(aQ e58).ag ZJ (aC _);have z59:yO.heap.size=qH.heap.size+1:=by rw [zR ZJ,zA e58]
  have z56:=hI.2.2.size;refine ⟨qq,λmR gJ adv=> ?_⟩;obtain ⟨hF,mO,hM⟩:=adv;have zr:=gJ.size;obtain ⟨h,hh,hval⟩:∃h:Hi,(kq (eI f) (jU d) (lp r))[n]? =some h/\(a,b,c)=h.1/\q=0/\s=h.2.1/\t=h.2.2:=by
   rw [aR] at hx
   cases hg:(kq (eI f) (jU d) (lp r))[n]? with
   |none=>rw [hg] at hx;cases hx
   |some h=>
    rw [hg] at hx;simp at hx;obtain ⟨g1,g2,g3,g4,g5,g6⟩:=hx;exact ⟨h,rfl,by rw [<-g1,<-g2,<-g3],g4.symm,g5.symm,g6.symm⟩
  obtain ⟨hc,rfl,rfl,rfl⟩:=hval;have pk:=aX hh;have awh:pW (a,b,c):=by rw [hc];exact bn h pk
  have z57:=hM.size;have ht:(kq (eI f) (jU d) (lp r)).take (n+1)=(kq (eI f) (jU d) (lp r)).take n++ [h]:=by rw [dR,hh];rfl
  obtain ⟨D,hD1,hD2⟩:=hV;refine dw (hD2 mR (λi hi=> ?_) (a,b,c) awh) ?_
  ·have:=hD1 i hi;have:=QL.size;exact (hM.same i ab ab).trans (QL.heap ab)
  rintro e mQ ⟨rfl,lX⟩;have z60:=lX.size;refine ⟨_,rfl,lX.heap ab,lX.heap ab,lX.heap ab,lX.heap ab,lX.heap ab,lX.heap ab,(Dh (V (a,b,c)) mQ).mono ?_⟩;rintro e iH ⟨rfl,awi⟩;subst awi;have QM:=hM.trans (Mod.aH lX);refine ⟨_,rfl,rfl,rfl,rfl,rfl,rfl,rfl,Br.mk (λhq=>λue Ze EJ Zf rT e66=> ?_) (λhq=> ?_)⟩
  ·have hq':(!j8 (V h.1))=true:=by rw [<-hc];exact hq
   have hfd:=Vh (λh:Hi=> !j8 (V h.1)) _ n h hh mO hq';have hcast:fZ V f d r=((h.1,V h.1,h.2.1,h.2.2),true):=by rw [hcast,hfd]
   have m1:=qg Ze;have m2:=qg Zf;have m3:=qg e66;have s1:=m1.size;have s2:=m2.size;have m:Mod (λi=>i=w2.heap.size\/i=w3.heap.size\/i=qH.heap.size) iH rT:=((m1.mono λi _ h=> .inr (.inr h)).trans (m2.mono λi _ h=> .inl h)).trans (m3.mono λi _ h=> .inr (.inl h));refine ⟨rfl,λ_=>False,⟨rfl,rfl,rfl,λi h=>h,by rw [hcast,hc],(QM.mono λi _ h=> .inr (.inr h)).trans (m.mono λi _ h=> ?_)⟩,?_⟩
   ·rcases h with h|h|h
    ·exact .inl h
    ·exact .inr (.inl h)
    ·exact .inr (.inr ab)
   ·have hm:=(Mod.aH (F:=λi=>i=w2.heap.size\/i=w3.heap.size\/i=qH.heap.size) lX).trans m;refine ⟨λi hi=> ?_,hm.size,λi hi hn=>hm.same i hi λq=>hn ?_⟩
    ·rcases hi with h|h
     ·exact h.elim
     ·exact .inl (.inl (.inr h))
    ·rcases q with rfl|rfl|rfl
     ·exact .inl (.inr cp)
     ·exact .inl (.inr cp)
     ·exact .inr (aC _)
  ·have hq':(!j8 (V h.1))=false:=by rw [<-hc];exact hq
   refine ⟨λ_=>False,⟨rfl,rfl,rfl,λi h=>h,λx hx=> ?_,QM⟩,Step.late ⟨λi hi=> ?_,lX.size,λi hi _=>lX.block i hi⟩⟩
   ·rw [ht,cV] at hx;rcases hx with hx|hx
    ·exact mO x hx
    ·rw [iN.1 hx];exact hq'
   ·rcases hi with h|h
    ·exact h.elim
    ·exact .inl (.inr h)
 ·rintro F us a b c q s t bb Q8 ⟨hF,mO,hM⟩ hD qF agZ IG apD;have z99:=hM.size;rw [show (trX (eI f) (jU d) (lp r)).length=(kq (eI f) (jU d) (lp r)).length from aN ..,iR] at mO;have hfd:(kq (eI f) (jU d) (lp r)).find? (λh=> !j8 (V h.1))=none:=Oj.2 λx hx=>by rw [mO x hx];decide
  have hcast:fZ V f d r=(((0,0,0),0,0,0),false):=by rw [hcast,hfd]
  have m1:=qg agZ;have m2:=qg apD;have s1:=m1.size;have m:=(hM.mono (F':=λi=>i=w2.heap.size\/i=w3.heap.size\/w5.heap.size<=i) λi _ h=> .inr (.inr h)).trans ((m1.mono λi _ h=> .inl h).trans (m2.mono λi _ h=> .inr (.inl h)));refine ⟨?_,λakV gJ=> ?_⟩
  ·rw [<-hD,apD,setRow_other _ _ _ _ ab,agZ,setRow_other _ _ _ _ ab]
  ·rw [hcast];exact ⟨rfl,last m gJ⟩
 ·rintro F us a b c q s t bb AO ⟨hF,hcv,hM⟩ hD;refine ⟨hD,λT8 gJ=> ?_⟩;rw [hcv];exact ⟨rfl,last hM gJ⟩
set_option maxHeartbeats 8000000
set_option linter.unusedVariables false
variable {R:Ending->World->Prop} {w:World} {a0 a1 a2 a3 a4 a5 a6 a7 a8 a9 aA ar au aU aV aZ bG bC bD Cf aj aq aw bt bR bH eB eO eC wh bA bQ bw wi wm vb vd wo wu wx Ch Ci Cj Ck Cm Cn Co Cp Cq Cr:Int}
def Sy.vc{a0:Sl}{a1:Sl}(h:
 ∃I0:Nat->Int->Sl->World->Prop,
 (∃n1,I0 n1 (0) a0 w)/\
 ∀(n1:Nat)(yI:Nat->Value)(x3:Int)(s4:Sl)(w5:World),I0 n1 x3 s4 w5->
 Br (decide (x3<((a1.n:Nat):Int)))
 (eA a1.a x3 a1.n/\∃(x7:Int),ld w5 (ae a1.a ((x3:Int).toNat*1))=some (.int .i64 x7)/\
 ∃I8:Nat->Int->Sl->World->Prop,
 (∃n9,I8 n9 (5) s4 w5)/\
 ∀(n9:Nat)(Zc:Nat->Value)(bu:Int)(kg:Sl)(bK:World),I8 n9 bu kg bK->
 Br (bu>=0)
 (aP (ngC (ao (8*bu))) (Aw bK #[.int .u8 (fi ((x7:Int).fdiv (2 ^(min ((ao (8*bu)):Int).toNat 64))))] 5 λdB=>
 ba 1 1 dB kg 1 [.int .u8 (fi ((x7:Int).fdiv (2 ^(min ((ao (8*bu)):Int).toNat 64))))]/\∀(ZL:Sl)(cL:World),aY 5 1 dB kg 1 [.int .u8 (fi ((x7:Int).fdiv (2 ^(min ((ao (8*bu)):Int).toNat 64))))] ZL cL->Kp bK dB cL/\
 ∃HT,HT<n9/\I8 HT ((ao (bu-1))) ZL cL))
 (∃n6,n6<n1/\I0 n6 ((ao (x3+1))) kg bK))
 (R s4 w5)):ah 81 #[a0,a1] w R:=
 cq ⟨[(5,⟨[(7,.int .i64),(0,.slice)],[],[]⟩),(2,⟨[(10,.int .i64),(0,.slice)],[],[]⟩)],[],[]⟩ Tryz.func81 h
def uW.vc{a0:Addr}(h:
 ah 12 #[a0] w (λe w0=>∃(s1:Sl),e=s1/\
 ∃(p2:Option Addr),ld w0 (ae (some a0) 0)=some (.pointer p2)/\
 ah 68 #[p2] w0 (λe w3=>∃(x4:Int),e=x4/\
 Aw w3 #[x4] 3 λw5=>
 ah 81 #[.slice none 0 0,.slice (aB w3) 1 1] w5 (λe w6=>∃(s7:Sl),e=s7/\
 Aw w6 #[.int .u8 (fi ((s1.n:Nat):Int))] 5 λw8=>
 ba 1 1 w8 s7 1 [.int .u8 (fi ((s1.n:Nat):Int))]/\∀(s9:Sl)(bP:World),aY 5 1 w8 s7 1 [.int .u8 (fi ((s1.n:Nat):Int))] s9 bP->Kp w6 w8 bP/\
 ∃I11:Nat->Int->Sl->World->Prop,
 (∃EO,aO [.int .u8 (fi ((s1.n:Nat):Int))]/\I11 EO (0) s9 bP)/\
 ∀(EO:Nat)(apd:Nat->Value)(bI:Int)(lZ:Sl)(cF:World),I11 EO bI lZ cF->
 Br (decide (bI<((s1.n:Nat):Int)))
 (eA s1.a bI s1.n/\∃(cA:Int),ld cF (ae s1.a ((bI:Int).toNat*1))=some (.int .i64 cA)/\
 (0:Int)<=cA/\cA<((16:Nat):Int)/\∃(mh:Option Addr),ld cF (ae (ae (some a0) 1) ((cA:Int).toNat*1))=some (.pointer mh)/\
 ∃J20:Sl->World->Prop,
 (aP (dq mh) (aP (dq mh) (aP (dq (ae mh 0)) (aP (dq (ae (ae mh 0) 0)) (∃(db:Int),ld cF.drew (ae (ae (ae mh 0) 0) 0)=some (.int .i64 db)/\
 aP (dq mh) (aP (dq mh) (aP (dq (ae mh 0)) (aP (dq (ae (ae mh 0) 0)) (∃(ef:Int),ld cF.drew (ae (ae (ae mh 0) 0) 1)=some (.int .i64 ef)/\
 aP (dq mh) (aP (dq mh) (aP (dq (ae mh 0)) (aP (dq (ae (ae mh 0) 0)) (∃(dG:Int),ld cF.drew (ae (ae (ae mh 0) 0) 2)=some (.int .i64 dG)/\
 aP (dq mh) (aP (dq mh) (aP (dq (ae mh 0)) (aP (dq (ae (ae mh 0) 3)) (∃(eU:Int),ld cF.drew (ae (ae (ae mh 0) 3) 0)=some (.int .i64 eU)/\
 aP (dq mh) (aP (dq mh) (aP (dq (ae mh 0)) (aP (dq (ae (ae mh 0) 3)) (∃(dY:Int),ld cF.drew (ae (ae (ae mh 0) 3) 1)=some (.int .i64 dY)/\
 aP (dq mh) (aP (dq mh) (aP (dq (ae mh 0)) (aP (dq (ae (ae mh 0) 3)) (∃(fg:Int),ld cF.drew (ae (ae (ae mh 0) 3) 2)=some (.int .i64 fg)/\
 aP (dq mh) (aP (dq mh) (aP (dq (ae mh 0)) (∃(fO:Int),ld cF.drew (ae (ae mh 0) 6)=some (.int .i64 fO)/\
 aP (dq mh) (aP (dq mh) (aP (dq (ae mh 0)) (∃(gm:Int),ld cF.drew (ae (ae mh 0) 7)=some (.int .i64 gm)/\
 (Aw cF.drew #[.int .u8 (fi cA)] 5 λdW=>
 (ba 1 1 dW lZ 1 [.int .u8 (fi cA)]/\∀(ug:Sl)(gf:World),aY 5 1 dW lZ 1 [.int .u8 (fi cA)] ug gf->Kp w6 dW gf/\gf.heap[cF.drew.heap.size]? =dW.heap[cF.drew.heap.size]?/\
 af gf (ae (ae mh 0) 7) 0 [gm]/\af gf (ae (ae mh 0) 6) 0 [fO]/\af gf (ae (ae (ae mh 0) 3) 2) 0 [fg]/\af gf (ae (ae (ae mh 0) 3) 1) 0 [dY]/\af gf (ae (ae (ae mh 0) 3) 0) 0 [eU]/\af gf (ae (ae (ae mh 0) 0) 2) 0 [dG]/\af gf (ae (ae (ae mh 0) 0) 1) 0 [ef]/\af gf (ae (ae (ae mh 0) 0) 0) 0 [db]/\Aw gf #[db,ef,dG,eU,dY,fg,fO,gm] 3 λni=>
 ah 81 #[ug,.slice (aB gf) 8 8] ni (Rs λs34 eT=>Kp w6 ni eT/\eT.heap[cF.drew.heap.size]? =ni.heap[cF.drew.heap.size]?/\
 aO [.int .u8 (fi ((s1.n:Nat):Int))]/\J20 s34 eT))/\(Aw dW #[db,ef,dG,eU,dY,fg,fO,gm] 3 λkh=>
 ba 1 1 kh lZ 1 [.int .u8 (fi cA)]/\∀(s36:Sl)(gw:World),aY 5 1 kh lZ 1 [.int .u8 (fi cA)] s36 gw->Kp w6 kh gw/\gw.heap[cF.drew.heap.size]? =kh.heap[cF.drew.heap.size]?/\Kp dW kh gw/\
 ah 81 #[s36,.slice (aB dW) 8 8] gw (Rs λVw oD=>Kp w6 gw oD/\oD.heap[cF.drew.heap.size]? =gw.heap[cF.drew.heap.size]?/\
 aO [.int .u8 (fi ((s1.n:Nat):Int))]/\J20 Vw oD)))/\(Aw cF.drew #[db,ef,dG,eU,dY,fg,fO,gm] 3 λjP=>
 Aw jP #[.int .u8 (fi cA)] 5 λjw=>
 ba 1 1 jw lZ 1 [.int .u8 (fi cA)]/\∀(s42:Sl)(jg:World),aY 5 1 jw lZ 1 [.int .u8 (fi cA)] s42 jg->Kp w6 jw jg/\jg.heap[cF.drew.heap.size]? =jw.heap[cF.drew.heap.size]?/\Kp jP jw jg/\
 ah 81 #[s42,.slice (aB cF.drew.heap.size) 8 8] jg (Rs λs45 lg=>K2 w6 jP jg lg (
 aO [.int .u8 (fi ((s1.n:Nat):Int))]/\J20 s45 lg))))))))))))))))))))))))))))))))))/\
 ∀apk:Nat->Value,∀(EN:Sl)(gj:World),J20 EN gj->
 aP (dq mh) (aP (dq mh) (aP (dq (ae mh 0)) (∃(b49:Bool),ld gj (ae (ae mh 0) 8)=some (.bool b49)/\
 Br b49
 (Aw gj #[.int .u8 1] 5 λmT=>
 ba 1 1 mT EN 1 [.int .u8 1]/\∀(s51:Sl)(Q4:World),aY 5 1 mT EN 1 [.int .u8 1] s51 Q4->K2 w6 gj mT Q4 (
 ∃IP,IP<EO/\aO [.int .u8 (fi ((s1.n:Nat):Int))]/\I11 IP ((ao (bI+1))) s51 Q4))
 (Aw gj #[.int .u8 0] 5 λUh=>
 ba 1 1 Uh EN 1 [.int .u8 0]/\∀(EH:Sl)(xk:World),aY 5 1 Uh EN 1 [.int .u8 0] EH xk->K2 w6 gj Uh xk (
 ∃IP,IP<EO/\aO [.int .u8 (fi ((s1.n:Nat):Int))]/\I11 IP ((ao (bI+1))) EH xk))))))
 (∃(p56:Option Addr),ld cF (ae (some a0) 0)=some (.pointer p56)/\
 ah 82 #[p56] cF (Rs λmV mR=>Kp w6 cF mR/\
 (0:Int)<=(if 2000<((mV.n:Nat):Int) then 2000 else ((mV.n:Nat):Int))/\(if 2000<((mV.n:Nat):Int) then 2000 else ((mV.n:Nat):Int))<=((mV.c:Nat):Int)/\Aw mR #[.int .u8 (fi (((((((if 2000<((mV.n:Nat):Int) then 2000 else ((mV.n:Nat):Int)):Int).toNat-0):Nat):Int):Int).fdiv (2 ^(min (8:Int).toNat 64)))),.int .u8 (fi (((((if 2000<((mV.n:Nat):Int) then 2000 else ((mV.n:Nat):Int)):Int).toNat-0):Nat):Int))] 5 λyO=>
 ba 1 1 yO lZ 2 [.int .u8 (fi (((((((if 2000<((mV.n:Nat):Int) then 2000 else ((mV.n:Nat):Int)):Int).toNat-0):Nat):Int):Int).fdiv (2 ^(min (8:Int).toNat 64)))),.int .u8 (fi (((((if 2000<((mV.n:Nat):Int) then 2000 else ((mV.n:Nat):Int)):Int).toNat-0):Nat):Int))]/\∀(Uq:Sl)(px:World),aY 5 1 yO lZ 2 [.int .u8 (fi (((((((if 2000<((mV.n:Nat):Int) then 2000 else ((mV.n:Nat):Int)):Int).toNat-0):Nat):Int):Int).fdiv (2 ^(min (8:Int).toNat 64)))),.int .u8 (fi (((((if 2000<((mV.n:Nat):Int) then 2000 else ((mV.n:Nat):Int)):Int).toNat-0):Nat):Int))] Uq px->K2 w6 mR yO px (
 ∃I62:Nat->Int->Sl->World->Prop,
 (∃n63,aO [.int .u8 (fi ((s1.n:Nat):Int))]/\aO [.int .u8 (fi (((((((if 2000<((mV.n:Nat):Int) then 2000 else ((mV.n:Nat):Int)):Int).toNat-0):Nat):Int):Int).fdiv (2 ^(min (8:Int).toNat 64)))),.int .u8 (fi (((((if 2000<((mV.n:Nat):Int) then 2000 else ((mV.n:Nat):Int)):Int).toNat-0):Nat):Int))]/\I62 n63 (0) Uq px)/\
 ∀(n63:Nat)(as3:Nat->Value)(rW:Int)(s66:Sl)(jH:World),I62 n63 rW s66 jH->
 Br (decide (rW<(((((if 2000<((mV.n:Nat):Int) then 2000 else ((mV.n:Nat):Int)):Int).toNat-0):Nat):Int)))
 (eA (aJ mV.a (0) (mV.c) 4) rW (((if 2000<((mV.n:Nat):Int) then 2000 else ((mV.n:Nat):Int)):Int).toNat-0)/\∃(qN py oq nL:Int),af jH (ae (aJ mV.a (0) (mV.c) 4) ((rW:Int).toNat*4)) 0 [qN,py,oq,nL]/\
 Aw jH #[aa,aa,aa,aa] 157 λKy=>
 Sw Ky jH #[qN,py,oq,nL] λmU=>
 Aw mU #[qN,py,oq,nL] 3 λsY=>
 ah 81 #[s66,.slice (aB mU) 4 4] sY (Rs λs77 j6=>K3 w6 mR jH sY j6 (
 ∃n68,n68<n63/\aO [.int .u8 (fi ((s1.n:Nat):Int))]/\aO [.int .u8 (fi (((((((if 2000<((mV.n:Nat):Int) then 2000 else ((mV.n:Nat):Int)):Int).toNat-0):Nat):Int):Int).fdiv (2 ^(min (8:Int).toNat 64)))),.int .u8 (fi (((((if 2000<((mV.n:Nat):Int) then 2000 else ((mV.n:Nat):Int)):Int).toNat-0):Nat):Int))]/\I62 n68 ((ao (rW+1))) s77 j6)))
 (R s66 jH)))))))):ah 26 #[a0] w R:=
 cq ⟨[(16,⟨[(124,.int .i64),(4,.slice)],[],[]⟩),(4,⟨[(27,.int .i64),(4,.slice)],[],[]⟩)],[(8,⟨[(4,.slice)],[],[]⟩)],[]⟩ Tryz.func26 h
def yw.vc{a0:Addr}(h:
 ∃(p0:Option Addr),ld w (ae (some a0) 0)=some (.pointer p0)/\
 ah 18 #[p0] w (λe w1=>∃(p2:Option Addr),e=p2/\
 ah 19 #[p2] w1 (λe w3=>∃(p4:Option Addr),e=p4/\
 ah 26 #[a0] w3 (λe w5=>∃(s6:Sl),e=s6/\
 ah 61 #[p4,s6] w5 (λe w7=>∃(x8:Int),e=x8/\
 R x8 w7))))):ah 35 #[a0] w R:=
 cq bU Tryz.func35 h
def Tn.vc(h:
 Aw w #[aA,ar,au] 41 λw0=>
 Aw w0 #[aa,aa,aa] 41 λw1=>
 ah 10 #[aA,(10:Int)] w1.drew (Ri λx3 w2=>K2 w w0 w1.drew w2 (
 af w2 (dC w 2) 0 [au]/\af w2 (dC w 1) 0 [ar]/\ah 10 #[ar,(14:Int)] w2 (Ri λx5 w4=>K2 w w0 w2 w4 (
 af w4 (dC w 2) 0 [au]/\ah 10 #[au,(10:Int)] w4 (Ri λx7 w6=>K2 w w0 w4 w6 (
 Sw w6 w0 #[(ao (3+x3)),(ao (6+x5)),(ao (3+x7))] λw8=>
 R (Value.agg #[(ao (3+x3)),(ao (6+x5)),(ao (3+x7))]) w8))))))):ah 28 #[.agg #[aA,ar,au]] w R:=
 cq bU Tryz.func28 h
def XX.vc(h:
 Br (a0>140737488355328)
 (R (140737488355328:Int) w)
 (Br (a0<(-140737488355328))
 (R (Value.int .i64 (-140737488355328)) w)
 (R a0 w))):ah 141 #[a0] w R:=
 cq bU Tryz.func141 h
def PH.vc(h:
 ah 141 #[a0] w (λe w0=>∃(x1:Int),e=x1/\
 ah 86 #[x1,(65536:Int)] w0 (λe w2=>∃(x3:Int),e=x3/\
 R x3 w2))):ah 84 #[a0] w R:=
 cq bU Tryz.func84 h
def abP.vc(h:
 Aw w #[aA,ar,au] 28 λw0=>
 Aw w0 #[aa,aa,aa] 41 λw1=>
 ah 84 #[aA] w1.drew (Ri λx3 w2=>K2 w w0 w1.drew w2 (
 af w2 (dC w 2) 0 [au]/\af w2 (dC w 1) 0 [ar]/\ah 84 #[ar] w2 (Ri λx5 w4=>K2 w w0 w2 w4 (
 af w4 (dC w 2) 0 [au]/\ah 84 #[au] w4 (Ri λx7 w6=>K2 w w0 w4 w6 (
 Sw w6 w0 #[x3,x5,x7] λw8=>
 R (Value.agg #[x3,x5,x7]) w8))))))):ah 30 #[.agg #[aA,ar,au]] w R:=
 cq bU Tryz.func30 h
def XY.vc(h:
 ah 141 #[a0] w (λe w0=>∃(x1:Int),e=x1/\
 ah 141 #[a1] w0 (λe w2=>∃(x3:Int),e=x3/\
 ah 141 #[(ao (x1+x3))] w2 (λe w4=>∃(x5:Int),e=x5/\
 R x5 w4)))):ah 142 #[a0,a1] w R:=
 cq bU Tryz.func142 h
def X1.vc(h:
 Aw w #[aA,ar,au] 28 λw0=>
 Aw w0 #[aj,aq,aw] 28 λw1=>
 Aw w1 #[aa,aa,aa] 28 λw2=>
 ah 142 #[aA,aj] w2.drew (Ri λx4 w3=>K3 w w0 w1 w2.drew w3 (
 af w3 (dC w0 2) 0 [aw]/\af w3 (dC w 2) 0 [au]/\af w3 (dC w0 1) 0 [aq]/\af w3 (dC w 1) 0 [ar]/\ah 142 #[ar,aq] w3 (Ri λx6 w5=>K3 w w0 w1 w3 w5 (
 af w5 (dC w0 2) 0 [aw]/\af w5 (dC w 2) 0 [au]/\ah 142 #[au,aw] w5 (Ri λx8 w7=>K3 w w0 w1 w5 w7 (
 Sw w7 w1 #[x4,x6,x8] λw9=>
 R (Value.agg #[x4,x6,x8]) w9))))))):ah 85 #[.agg #[aA,ar,au],.agg #[aj,aq,aw]] w R:=
 cq bU Tryz.func85 h
def X0.vc(h:
 ah 141 #[a0] w (λe w0=>∃(x1:Int),e=x1/\
 ah 141 #[a1] w0 (λe w2=>∃(x3:Int),e=x3/\
 ah 141 #[(ao (x1-x3))] w2 (λe w4=>∃(x5:Int),e=x5/\
 R x5 w4)))):ah 181 #[a0,a1] w R:=
 cq bU Tryz.func181 h
def Tk.vc(h:
 Aw w #[aA,ar,au] 28 λw0=>
 Br (a1==0)
 (R aA w0)
 (Br (a1==1)
 (R ar w0)
 (Br (a1==2)
 (R au w0)
 (R (0:Int) w0)))):ah 180 #[.agg #[aA,ar,au],a1] w R:=
 cq bU Tryz.func180 h
def Ir.vc(h:
 Aw w #[aA,ar,au,aU,aV,aZ] 107 λw0=>
 Aw w0 #[aj,aq,aw,bt,bR,bH] 107 λw1=>
 Br (aA<bt)
 (Br (ar<bR)
 (Br (au<bH)
 (Br (aj<aU)
 (Br (aq<aV)
 (R (Value.bool (decide (aw<aZ))) w1)
 (R false w1))
 (R false w1))
 (Br (aj<aU)
 (Br (aq<aV)
 (R false w1)
 (R false w1))
 (R false w1)))
 (Br (au<bH)
 (Br (aj<aU)
 (R false w1)
 (R false w1))
 (Br (aj<aU)
 (R false w1)
 (R false w1))))
 (Br (ar<bR)
 (Br (au<bH)
 (R false w1)
 (R false w1))
 (Br (au<bH)
 (R false w1)
 (R false w1)))):ah 179 #[.agg #[aA,ar,au,aU,aV,aZ],.agg #[aj,aq,aw,bt,bR,bH]] w R:=
 cq bU Tryz.func179 h
def PJ.vc(h:
 Aw w #[aA,ar,au] 28 λw0=>
 Aw w0 #[aa,aa,aa,aa,aa,aa] 107 λw1=>
 ah 181 #[aA,(ao (Int.tdiv (if 0>a1 then 0 else a1) 2))] w1.drew (Ri λx3 w2=>K2 w w0 w1.drew w2 (
 af w2 (dC w 2) 0 [au]/\af w2 (dC w 1) 0 [ar]/\af w2 w 0 [aA]/\af w2 (dC w 2) 0 [au]/\af w2 (dC w 1) 0 [ar]/\ah 141 #[ar] w2 (Ri λx5 w4=>K2 w w0 w2 w4 (
 af w4 (dC w 2) 0 [au]/\af w4 (dC w 1) 0 [ar]/\af w4 w 0 [aA]/\af w4 (dC w 2) 0 [au]/\ah 181 #[au,(ao (Int.tdiv (if 0>a1 then 0 else a1) 2))] w4 (Ri λx7 w6=>K2 w w0 w4 w6 (
 af w6 (dC w 2) 0 [au]/\af w6 (dC w 1) 0 [ar]/\af w6 w 0 [aA]/\(ah 142 #[aA,(ao (Int.tdiv (if 0>a1 then 0 else a1) 2))] w6 (Ri λx9 w8=>K2 w w0 w6 w8 (
 af w8 (dC w 2) 0 [au]/\af w8 (dC w 1) 0 [ar]/\ah 142 #[ar,.int .i64 (if 0>a2 then 0 else a2)] w8 (Ri λbu bP=>K2 w w0 w8 bP (
 af bP (dC w 2) 0 [au]/\ah 142 #[au,(ao (Int.tdiv (if 0>a1 then 0 else a1) 2))] bP (Ri λcn dj=>K2 w w0 bP dj (
 Sw dj w0 #[x3,x5,x7,x9,bu,cn] λbO=>
 R (Value.agg #[x3,x5,x7,x9,bu,cn]) bO)))))))/\(ah 142 #[aA,(ao (Int.tdiv (if 0>a1 then 0 else a1) 2))] w6 (Ri λcH dB=>K2 w w0 w6 dB (
 af dB (dC w 2) 0 [au]/\af dB (dC w 1) 0 [ar]/\(ah 142 #[ar,.int .i64 (if 0>a2 then 0 else a2)] dB (Ri λcA cL=>K2 w w0 dB cL (
 af cL (dC w 2) 0 [au]/\ah 142 #[au,(ao (Int.tdiv (if 0>a1 then 0 else a1) 2))] cL (Ri λdi gg=>K2 w w0 cL gg (
 Sw gg w0 #[x3,x5,x7,cH,cA,di] λeZ=>
 R (Value.agg #[x3,x5,x7,cH,cA,di]) eZ)))))/\(ah 142 #[ar,.int .i64 (if 0>a2 then 0 else a2)] dB (Ri λdG dP=>K2 w w0 dB dP (
 af dP (dC w 2) 0 [au]/\(ah 142 #[au,(ao (Int.tdiv (if 0>a1 then 0 else a1) 2))] dP (Ri λdY gl=>K2 w w0 dP gl (
 Sw gl w0 #[x3,x5,x7,cH,dG,dY] λfx=>
 R (Value.agg #[x3,x5,x7,cH,dG,dY]) fx)))/\(ah 142 #[au,(ao (Int.tdiv (if 0>a1 then 0 else a1) 2))] dP (Ri λgm dX=>K2 w w0 dP dX (
 (Sw dX w0 #[x3,x5,x7,cH,dG,gm] λdW=>
 R (Value.agg #[x3,x5,x7,cH,dG,gm]) dW)/\(Sw dX w0 #[x3,x5,x7,cH,dG,gm] λfE=>
 R (Value.agg #[x3,x5,x7,cH,dG,gm]) fE))))))))))))))))):ah 128 #[.agg #[aA,ar,au],a1,a2] w R:=
 cq bU Tryz.func128 h
def X2.vc{bD:Bool}(h:
 Aw w #[aA,ar,au,aU,aV,aZ,bG,bC,bD] 75 λw0=>
 Aw w0 #[aa,aa,aa] 28 λw1=>
 ah 86 #[(ao (bC*4)),(5:Int)] w1.drew (Ri λx3 w2=>K2 w w0 w1.drew w2 (
 af w2 (dC w 7) 0 [bC]/\af w2 w 0 [aA,ar,au]/\ah 85 #[.agg #[aA,ar,au],.agg #[aa,x3,aa]] w2 (iF λx5 x6 x7 w4=>K2 w w0 w2 w4 (
 af w4 (dC w 7) 0 [bC]/\Sw w4 w0 #[x5,x6,x7] λw8=>
 R (Value.agg #[x5,x6,x7]) w8))))):ah 31 #[.agg #[aA,ar,au,aU,aV,aZ,bG,bC,bD]] w R:=
 cq bU Tryz.func31 h
def X3.vc{bD:Bool}(h:
 Aw w #[aA,ar,au,aU,aV,aZ,bG,bC,bD] 75 λw0=>
 Aw w0 #[aa,aa,aa,aa,aa,aa] 107 λw1=>
 ah 128 #[.agg #[aA,ar,au],bG,bC] w1 (xF λx3 x4 x5 x6 x7 x8 w2=>K2 w w0 w1 w2 (
 Sw w2 w0 #[x3,x4,x5,x6,x7,x8] λw9=>
 R (Value.agg #[x3,x4,x5,x6,x7,x8]) w9))):ah 70 #[.agg #[aA,ar,au,aU,aV,aZ,bG,bC,bD]] w R:=
 cq bU Tryz.func70 h
def LB.vc(h:
 Aw w #[aA,ar,au] 28 λw0=>
 ∃I1:Nat->Int->World->Prop,
 (∃n2,aO [aA,ar,au]/\I1 n2 (0) w0)/\
 ∀(n2:Nat)(us3:Nat->Value)(x4:Int)(w5:World),I1 n2 x4 w5->
 Br (x4<3)
 (ah 180 #[.agg #[aA,ar,au],x4] w5 (Ri λx8 w7=>Kp w w5 w7/\
 Br (decide (x8<(ao (0-a1))))
 (R false w7)
 (Br (x8>a1)
 (R false w7)
 (∃n6,n6<n2/\aO [aA,ar,au]/\I1 n6 ((ao (x4+1))) w7))))
 (R true w5)):ah 157 #[.agg #[aA,ar,au],a1] w R:=
 cq ⟨[(2,⟨[(5,.int .i64)],[],[]⟩)],[],[]⟩ Tryz.func157 h
def Xx.vc{bD:Bool}(h:
 Aw w #[aA,ar,au,aU,aV,aZ,bG,bC,bD] 75 λw0=>
 ah 157 #[.agg #[aA,ar,au],(70368744177664:Int)] w0 (Rb λb2 w1=>Kp w w0 w1/\
 ah 157 #[.agg #[aU,aV,aZ],(262144:Int)] w1 (Rb λb4 w3=>Kp w w1 w3/\
 Br b2
 (Br b4
 (Br (bG>=2)
 (Br (bG<=131072)
 (Br (bC>=1)
 (R (Value.bool (decide (bC<=262144))) w3)
 (R false w3))
 (R false w3))
 (R false w3))
 (R false w3))
 (R false w3)))):ah 106 #[.agg #[aA,ar,au,aU,aV,aZ,bG,bC,bD]] w R:=
 cq bU Tryz.func106 h
def Yp.vc(h:
 Aw w #[aA,ar,au] 41 λw0=>
 Aw w0 #[aa,aa,aa] 41 λw1=>
 Sw w1 w0 #[.int .i64 (if 2147483648<(if (-2147483648)>aA then (-2147483648) else aA) then 2147483648 else (if (-2147483648)>aA then (-2147483648) else aA)),.int .i64 (if 2147483648<(if (-2147483648)>ar then (-2147483648) else ar) then 2147483648 else (if (-2147483648)>ar then (-2147483648) else ar)),.int .i64 (if 2147483648<(if (-2147483648)>au then (-2147483648) else au) then 2147483648 else (if (-2147483648)>au then (-2147483648) else au))] λw2=>
 R (Value.agg #[.int .i64 (if 2147483648<(if (-2147483648)>aA then (-2147483648) else aA) then 2147483648 else (if (-2147483648)>aA then (-2147483648) else aA)),.int .i64 (if 2147483648<(if (-2147483648)>ar then (-2147483648) else ar) then 2147483648 else (if (-2147483648)>ar then (-2147483648) else ar)),.int .i64 (if 2147483648<(if (-2147483648)>au then (-2147483648) else au) then 2147483648 else (if (-2147483648)>au then (-2147483648) else au))]) w2):ah 160 #[.agg #[aA,ar,au]] w R:=
 cq bU Tryz.func160 h
def TE.vc(h:
 Aw w #[aA,ar,au] 41 λw0=>
 Aw w0 #[aa,aa,aa,aa,aa,aa,aa,aa,aa,aa,aa,aa,aa,aa,aa,aa,aa,aa] 186 λw1=>
 Aw w1 #[aa,aa,aa,aa,aa,aa,aa,aa,aa,aa,aa,aa,aa,aa,aa,aa,aa,aa] 186 λw2=>
 ∃I3:Nat->Int->World->Prop,
 (∃n4,aO [aA,ar,au]/\I3 n4 (0) w2)/\
 ∀(n4:Nat)(us5:Nat->Value)(x6:Int)(w7:World),I3 n4 x6 w7->
 Br (x6<6)
 (ah 160 #[.agg #[aA,ar,au]] w7 (iF λbj bu bV w9=>Kp w w7 w9/\
 Aw w9 #[aa,aa,aa] 41 λbK=>
 Sw bK w9 #[bj,bu,bV] λbO=>
 Br (((ao (Int.tdiv x6 2)):Int)==0)
 (Sw bO w9 #[(ao (bj+(ao ((ao (2*(Int.tmod x6 2)))-1)))),bu,bV] λdB=>
 Br (((ao (Int.tdiv x6 2)):Int)==1)
 (Sw dB w9 #[(ao (bj+(ao ((ao (2*(Int.tmod x6 2)))-1)))),(ao (bu+(ao ((ao (2*(Int.tmod x6 2)))-1)))),bV] λcF=>
 Br (((ao (Int.tdiv x6 2)):Int)==2)
 (Sw cF w9 #[(ao (bj+(ao ((ao (2*(Int.tmod x6 2)))-1)))),(ao (bu+(ao ((ao (2*(Int.tmod x6 2)))-1)))),(ao (bV+(ao ((ao (2*(Int.tmod x6 2)))-1))))] λcL=>
 ah 160 #[.agg #[(ao (bj+(ao ((ao (2*(Int.tmod x6 2)))-1)))),(ao (bu+(ao ((ao (2*(Int.tmod x6 2)))-1)))),(ao (bV+(ao ((ao (2*(Int.tmod x6 2)))-1))))]] cL (iF λcu di db dH=>K2 w w9 cL dH (
 (0:Int)<=x6/\x6<((6:Nat):Int)/\(true=true/\Wr dH (ae (aB w1) ((x6:Int).toNat*3)) 3)/\bz (ae (aB w1) ((x6:Int).toNat*3))≠some w.heap.size/\bz (ae (aB w1) ((x6:Int).toNat*3))≠some w9.heap.size/\(∀dP,dP=aL dH (ae (aB w1) ((x6:Int).toNat*3)) [cu,di,db]->
 ∃n8,n8<n4/\aO [aA,ar,au]/\I3 n8 ((ao (x6+1))) dP))))
 (ah 160 #[.agg #[(ao (bj+(ao ((ao (2*(Int.tmod x6 2)))-1)))),(ao (bu+(ao ((ao (2*(Int.tmod x6 2)))-1)))),bV]] cF (iF λeU dY fg eP=>K2 w w9 cF eP (
 (0:Int)<=x6/\x6<((6:Nat):Int)/\(true=true/\Wr eP (ae (aB w1) ((x6:Int).toNat*3)) 3)/\bz (ae (aB w1) ((x6:Int).toNat*3))≠some w.heap.size/\bz (ae (aB w1) ((x6:Int).toNat*3))≠some w9.heap.size/\(∀dX,dX=aL eP (ae (aB w1) ((x6:Int).toNat*3)) [eU,dY,fg]->
 ∃n8,n8<n4/\aO [aA,ar,au]/\I3 n8 ((ao (x6+1))) dX)))))
 (Br (((ao (Int.tdiv x6 2)):Int)==2)
 (Sw dB w9 #[(ao (bj+(ao ((ao (2*(Int.tmod x6 2)))-1)))),bu,(ao (bV+(ao ((ao (2*(Int.tmod x6 2)))-1))))] λiw=>
 ah 160 #[.agg #[(ao (bj+(ao ((ao (2*(Int.tmod x6 2)))-1)))),bu,(ao (bV+(ao ((ao (2*(Int.tmod x6 2)))-1))))]] iw (iF λjN iD ic dW=>K2 w w9 iw dW (
 (0:Int)<=x6/\x6<((6:Nat):Int)/\(true=true/\Wr dW (ae (aB w1) ((x6:Int).toNat*3)) 3)/\bz (ae (aB w1) ((x6:Int).toNat*3))≠some w.heap.size/\bz (ae (aB w1) ((x6:Int).toNat*3))≠some w9.heap.size/\(∀eT,eT=aL dW (ae (aB w1) ((x6:Int).toNat*3)) [jN,iD,ic]->
 ∃n8,n8<n4/\aO [aA,ar,au]/\I3 n8 ((ao (x6+1))) eT))))
 (ah 160 #[.agg #[(ao (bj+(ao ((ao (2*(Int.tmod x6 2)))-1)))),bu,bV]] dB (iF λkI nh gI jf=>K2 w w9 dB jf (
 (0:Int)<=x6/\x6<((6:Nat):Int)/\(true=true/\Wr jf (ae (aB w1) ((x6:Int).toNat*3)) 3)/\bz (ae (aB w1) ((x6:Int).toNat*3))≠some w.heap.size/\bz (ae (aB w1) ((x6:Int).toNat*3))≠some w9.heap.size/\(∀oD,oD=aL jf (ae (aB w1) ((x6:Int).toNat*3)) [kI,nh,gI]->
 ∃n8,n8<n4/\aO [aA,ar,au]/\I3 n8 ((ao (x6+1))) oD))))))
 (Br (((ao (Int.tdiv x6 2)):Int)==1)
 (Sw bO w9 #[bj,(ao (bu+(ao ((ao (2*(Int.tmod x6 2)))-1)))),bV] λkx=>
 Br (((ao (Int.tdiv x6 2)):Int)==2)
 (Sw kx w9 #[bj,(ao (bu+(ao ((ao (2*(Int.tmod x6 2)))-1)))),(ao (bV+(ao ((ao (2*(Int.tmod x6 2)))-1))))] λjP=>
 ah 160 #[.agg #[bj,(ao (bu+(ao ((ao (2*(Int.tmod x6 2)))-1)))),(ao (bV+(ao ((ao (2*(Int.tmod x6 2)))-1))))]] jP (iF λnj rU lD jw=>K2 w w9 jP jw (
 (0:Int)<=x6/\x6<((6:Nat):Int)/\(true=true/\Wr jw (ae (aB w1) ((x6:Int).toNat*3)) 3)/\bz (ae (aB w1) ((x6:Int).toNat*3))≠some w.heap.size/\bz (ae (aB w1) ((x6:Int).toNat*3))≠some w9.heap.size/\(∀Cy,Cy=aL jw (ae (aB w1) ((x6:Int).toNat*3)) [nj,rU,lD]->
 ∃n8,n8<n4/\aO [aA,ar,au]/\I3 n8 ((ao (x6+1))) Cy))))
 (ah 160 #[.agg #[bj,(ao (bu+(ao ((ao (2*(Int.tmod x6 2)))-1)))),bV]] kx (iF λsW yL HV qo=>K2 w w9 kx qo (
 (0:Int)<=x6/\x6<((6:Nat):Int)/\(true=true/\Wr qo (ae (aB w1) ((x6:Int).toNat*3)) 3)/\bz (ae (aB w1) ((x6:Int).toNat*3))≠some w.heap.size/\bz (ae (aB w1) ((x6:Int).toNat*3))≠some w9.heap.size/\(∀mT,mT=aL qo (ae (aB w1) ((x6:Int).toNat*3)) [sW,yL,HV]->
 ∃n8,n8<n4/\aO [aA,ar,au]/\I3 n8 ((ao (x6+1))) mT)))))
 (Br (((ao (Int.tdiv x6 2)):Int)==2)
 (Sw bO w9 #[bj,bu,(ao (bV+(ao ((ao (2*(Int.tmod x6 2)))-1))))] λtH=>
 ah 160 #[.agg #[bj,bu,(ao (bV+(ao ((ao (2*(Int.tmod x6 2)))-1))))]] tH (iF λjA qp lY Q4=>K2 w w9 tH Q4 (
 (0:Int)<=x6/\x6<((6:Nat):Int)/\(true=true/\Wr Q4 (ae (aB w1) ((x6:Int).toNat*3)) 3)/\bz (ae (aB w1) ((x6:Int).toNat*3))≠some w.heap.size/\bz (ae (aB w1) ((x6:Int).toNat*3))≠some w9.heap.size/\(∀qH,qH=aL Q4 (ae (aB w1) ((x6:Int).toNat*3)) [jA,qp,lY]->
 ∃n8,n8<n4/\aO [aA,ar,au]/\I3 n8 ((ao (x6+1))) qH))))
 (ah 160 #[.agg #[bj,bu,bV]] bO (iF λwy qq lX mR=>K2 w w9 bO mR (
 (0:Int)<=x6/\x6<((6:Nat):Int)/\(true=true/\Wr mR (ae (aB w1) ((x6:Int).toNat*3)) 3)/\bz (ae (aB w1) ((x6:Int).toNat*3))≠some w.heap.size/\bz (ae (aB w1) ((x6:Int).toNat*3))≠some w9.heap.size/\(∀px,px=aL mR (ae (aB w1) ((x6:Int).toNat*3)) [wy,qq,lX]->
 ∃n8,n8<n4/\aO [aA,ar,au]/\I3 n8 ((ao (x6+1))) px))))))))
 (∃(om uf wD rW mg pd mS qN py oq nL nM vi ve yB Ho D8 AM:Int),af w7 (aB w1) 0 [om,uf,wD,rW,mg,pd,mS,qN,py,oq,nL,nM,vi,ve,yB,Ho,D8,AM]/\
 Wt w7 ⟨w0,0,none⟩ 18/\Nb w0 w/\(∀vL,vL=aL w7 (aB w0) [om,uf,wD,rW,mg,pd,mS,qN,py,oq,nL,nM,vi,ve,yB,Ho,D8,AM]->
 ∃(rP qt rV vJ vK Hs qO QR IQ MI yP xl tJ Kx yE EK EM MH:Int),af vL (aB w0) 0 [rP,qt,rV,vJ,vK,Hs,qO,QR,IQ,MI,yP,xl,tJ,Kx,yE,EK,EM,MH]/\
 R (Value.agg #[rP,qt,rV,vJ,vK,Hs,qO,QR,IQ,MI,yP,xl,tJ,Kx,yE,EK,EM,MH]) vL))):ah 112 #[.agg #[aA,ar,au]] w R:=
 cq ⟨[(3,⟨[(4,.int .i64)],[],[]⟩)],[],[]⟩ Tryz.func112 h
def Yq.vc(h:
 Aw w #[aA,ar,au] 41 λw0=>
 Aw w0 #[aa,aa,aa,aa,aa,aa] 107 λw1=>
 ah 160 #[.agg #[aA,ar,au]] w1 (iF λx3 x4 x5 w2=>K2 w w0 w1 w2 (
 Aw w2 #[aa,aa,aa] 41 λw6=>
 Sw w6 w2 #[x3,x4,x5] λw7=>
 Aw w7 #[aa,aa,aa] 28 λw8=>
 Sw w8 w7 #[(ao (x3*65536)),(ao (x4*65536)),(ao (x5*65536))] λw9=>
 ah 85 #[.agg #[(ao (x3*65536)),(ao (x4*65536)),(ao (x5*65536))],.agg #[(65536:Int),(65536:Int),(65536:Int)]] w9.drew (iF λbu bV cn bP=>K4 w w0 w2 w7 w9.drew bP (
 af bP (aB w7) 0 [(ao (x3*65536)),(ao (x4*65536)),(ao (x5*65536))]/\Sw bP w0 #[(ao (x3*65536)),(ao (x4*65536)),(ao (x5*65536)),bu,bV,cn] λbO=>
 R (Value.agg #[(ao (x3*65536)),(ao (x4*65536)),(ao (x5*65536)),bu,bV,cn]) bO))))):ah 126 #[.agg #[aA,ar,au]] w R:=
 cq bU Tryz.func126 h
def PL.vc(h:
 Aw w #[aA,ar,au,aU,aV,aZ] 107 λw0=>
 Aw w0 #[aj,aq,aw,bt,bR,bH] 107 λw1=>
 ah 179 #[.agg #[aA,ar,au,aU,aV,aZ],.agg #[aj,aq,aw,bt,bR,bH]] w1 (Rb λb3 w2=>K2 w w0 w1 w2 (
 R b3 w2))):ah 125 #[.agg #[aA,ar,au,aU,aV,aZ],.agg #[aj,aq,aw,bt,bR,bH]] w R:=
 cq bU Tryz.func125 h
def To.vc(h:
 Aw w #[aA,ar,au] 28 λw0=>
 Aw w0 #[aa,aa,aa] 28 λw1=>
 ah 10 #[aA,(589825:Int)] w1.drew (Ri λx3 w2=>K2 w w0 w1.drew w2 (
 af w2 (dC w 2) 0 [au]/\af w2 (dC w 1) 0 [ar]/\ah 10 #[ar,(589825:Int)] w2 (Ri λx5 w4=>K2 w w0 w2 w4 (
 af w4 (dC w 2) 0 [au]/\ah 10 #[au,(589825:Int)] w4 (Ri λx7 w6=>K2 w w0 w4 w6 (
 Sw w6 w0 #[(ao (196608+x3)),(ao (589824+x5)),(ao (196608+x7))] λw8=>
 R (Value.agg #[(ao (196608+x3)),(ao (589824+x5)),(ao (196608+x7))]) w8))))))):ah 52 #[.agg #[aA,ar,au]] w R:=
 cq bU Tryz.func52 h
def PM.vc(h:
 Br (a0<0)
 (R a0 w)
 (ah 110 #[a0] w (λe w0=>∃(x1:Int),e=x1/\
 R x1 w0))):ah 56 #[a0] w R:=
 cq bU Tryz.func56 h
def L5.vc(h:
 Br (a0<0)
 (∃I0:Nat->Int->Sl->Int->World->Prop,
 (∃n1,I0 n1 (0) ⟨none,0,0⟩ (1099511627776) w)/\
 ∀(n1:Nat)(yI:Nat->Value)(x3:Int)(s4:Sl)(x5:Int)(w6:World),I0 n1 x3 s4 x5 w6->
 Br (x3<6)
 (aP (Mt x5) (Aw w6 #[.int .u8 (fi (Int.tmod (ao (Int.tdiv (ao (a0+281474976710656)) x5)) 256))] 5 λw8=>
 ba 1 1 w8 s4 1 [.int .u8 (fi (Int.tmod (ao (Int.tdiv (ao (a0+281474976710656)) x5)) 256))]/\∀(s9:Sl)(bP:World),aY 5 1 w8 s4 1 [.int .u8 (fi (Int.tmod (ao (Int.tdiv (ao (a0+281474976710656)) x5)) 256))] s9 bP->Kp w6 w8 bP/\
 ∃n7,n7<n1/\I0 n7 ((ao (x3+1))) s9 ((ao (Int.tdiv x5 256))) bP))
 (R s4 w6))
 (∃I11:Nat->Int->Sl->Int->World->Prop,
 (∃EO,I11 EO (0) ⟨none,0,0⟩ (1099511627776) w)/\
 ∀(EO:Nat)(apd:Nat->Value)(bI:Int)(lZ:Sl)(cH:Int)(cL:World),I11 EO bI lZ cH cL->
 Br (bI<6)
 (aP (Mt cH) (Aw cL #[.int .u8 (fi (Int.tmod (ao (Int.tdiv a0 cH)) 256))] 5 λgg=>
 ba 1 1 gg lZ 1 [.int .u8 (fi (Int.tmod (ao (Int.tdiv a0 cH)) 256))]/\∀(vM:Sl)(eZ:World),aY 5 1 gg lZ 1 [.int .u8 (fi (Int.tmod (ao (Int.tdiv a0 cH)) 256))] vM eZ->Kp cL gg eZ/\
 ∃n18,n18<EO/\I11 n18 ((ao (bI+1))) vM ((ao (Int.tdiv cH 256))) eZ))
 (R lZ cL))):ah 89 #[a0] w R:=
 cq ⟨[(6,⟨[(5,.int .i64),(3,.slice),(4,.int .i64)],[],[]⟩),(6,⟨[(5,.int .i64),(3,.slice),(4,.int .i64)],[],[]⟩)],[],[]⟩ Tryz.func89 h
def Iv.vc{a0:Sl}(h:
 ∃I0:Nat->Int->Sl->World->Prop,
 (∃n1,I0 n1 (0) ⟨none,0,0⟩ w)/\
 ∀(n1:Nat)(yI:Nat->Value)(x3:Int)(s4:Sl)(w5:World),I0 n1 x3 s4 w5->
 Br (decide (x3<((a0.n:Nat):Int)))
 (eA a0.a x3 a0.n/\∃(x7:Int),ld w5 (ae a0.a ((x3:Int).toNat*1))=some (.int .i64 x7)/\
 ah 89 #[x7] w5 (λe w8=>∃(s9:Sl),e=s9/\
 ∃l10:LV,Rd w8 s9.a l10/\ba 1 1 w8 s4 s9.n l10/\∀(Ct:Sl)(dj:World),aY 5 1 w8 s4 s9.n l10 Ct dj->
 ∃n6,n6<n1/\I0 n6 ((ao (x3+1))) Ct dj))
 (R s4 w5)):ah 90 #[a0] w R:=
 cq ⟨[(3,⟨[(4,.int .i64),(3,.slice)],[],[]⟩)],[],[]⟩ Tryz.func90 h
def P8.vc{ar:Sl}{au:Sl}(h:
 Aw w #[aA,ar,au] 86 λw0=>
 ah 89 #[aA] w0 (Rs λs2 w1=>Kp w w0 w1/\
 Aw w1 #[.int .u8 (fi ((ar.n:Nat):Int))] 5 λw3=>
 ba 1 1 w3 s2 1 [.int .u8 (fi ((ar.n:Nat):Int))]/\∀(s4:Sl)(w5:World),aY 5 1 w3 s2 1 [.int .u8 (fi ((ar.n:Nat):Int))] s4 w5->K2 w w1 w3 w5 (
 ∃I6:Nat->Int->Sl->World->Prop,
 (∃n7,aO [aA,ar,au]/\aO [.int .u8 (fi ((ar.n:Nat):Int))]/\I6 n7 (0) s4 w5)/\
 ∀(n7:Nat)(us8:Nat->Value)(x9:Int)(yN:Sl)(bg:World),I6 n7 x9 yN bg->
 Br (decide (x9<((ar.n:Nat):Int)))
 (eA ar.a x9 ar.n/\aP (dq (ae ar.a ((x9:Int).toNat*10))) (∃(cn bI cw cH dh cA cu di:Int)(MC:Bool),af bg (ae (ae ar.a ((x9:Int).toNat*10)) 1) 0 [cn,bI,cw,cH,dh,cA,cu,di,MC]/\
 Aw bg #[aa,aa,aa,aa,aa,aa,aa,aa,false] 75 λdP=>
 Sw dP bg #[cn,bI,cw,cH,dh,cA,cu,di,MC] λeP=>
 eA ar.a x9 ar.n/\aP (dq (ae ar.a ((x9:Int).toNat*10))) (∃(eU:Int),ld eP (ae (ae ar.a ((x9:Int).toNat*10)) 0)=some (.int .i64 eU)/\
 Aw eP #[.int .u8 (fi eU)] 5 λcW=>
 ba 1 1 cW yN 1 [.int .u8 (fi eU)]/\∀(Ra:Sl)(dX:World),aY 5 1 cW yN 1 [.int .u8 (fi eU)] Ra dX->K4 w w1 bg eP cW dX (
 Aw dX #[cn,bI,cw,cH,dh,cA,cu,di] 3 λiw=>
 ah 90 #[.slice (aB dX) 8 8] iw (Rs λug dW=>K4 w w1 bg eP iw dW (
 ∃l31:LV,Rd dW ug.a l31/\ba 1 1 dW Ra ug.n l31/\∀(wA:Sl)(eT:World),aY 5 1 dW Ra ug.n l31 wA eT->K4 w w1 bg eP dW eT (
 Br MC
 (Aw eT #[.int .u8 (fi 1)] 5 λjf=>
 ba 1 1 jf wA 1 [.int .u8 (fi 1)]/\∀(s35:Sl)(kG:World),aY 5 1 jf wA 1 [.int .u8 (fi 1)] s35 kG->K5 w w1 bg eP eT jf kG (
 ∃EO,EO<n7/\aO [aA,ar,au]/\aO [.int .u8 (fi ((ar.n:Nat):Int))]/\I6 EO ((ao (x9+1))) s35 kG))
 (Aw eT #[.int .u8 (fi 0)] 5 λgw=>
 ba 1 1 gw wA 1 [.int .u8 (fi 0)]/\∀(s38:Sl)(kx:World),aY 5 1 gw wA 1 [.int .u8 (fi 0)] s38 kx->K5 w w1 bg eP eT gw kx (
 ∃EO,EO<n7/\aO [aA,ar,au]/\aO [.int .u8 (fi ((ar.n:Nat):Int))]/\I6 EO ((ao (x9+1))) s38 kx)))))))))
 (Aw bg #[.int .u8 (fi (ao (Int.tdiv (if 2000<((au.n:Nat):Int) then 2000 else ((au.n:Nat):Int)) 256))),.int .u8 (fi (Int.tmod (if 2000<((au.n:Nat):Int) then 2000 else ((au.n:Nat):Int)) 256))] 5 λjP=>
 ba 1 1 jP yN 2 [.int .u8 (fi (ao (Int.tdiv (if 2000<((au.n:Nat):Int) then 2000 else ((au.n:Nat):Int)) 256))),.int .u8 (fi (Int.tmod (if 2000<((au.n:Nat):Int) then 2000 else ((au.n:Nat):Int)) 256))]/\∀(MB:Sl)(lj:World),aY 5 1 jP yN 2 [.int .u8 (fi (ao (Int.tdiv (if 2000<((au.n:Nat):Int) then 2000 else ((au.n:Nat):Int)) 256))),.int .u8 (fi (Int.tmod (if 2000<((au.n:Nat):Int) then 2000 else ((au.n:Nat):Int)) 256))] MB lj->K3 w w1 bg jP lj (
 ∃I43:Nat->Int->Sl->World->Prop,
 (∃n44,aO [aA,ar,au]/\aO [.int .u8 (fi ((ar.n:Nat):Int))]/\aO [.int .u8 (fi (ao (Int.tdiv (if 2000<((au.n:Nat):Int) then 2000 else ((au.n:Nat):Int)) 256))),.int .u8 (fi (Int.tmod (if 2000<((au.n:Nat):Int) then 2000 else ((au.n:Nat):Int)) 256))]/\I43 n44 (0) MB lj)/\
 ∀(n44:Nat)(aDb:Nat->Value)(iz:Int)(EN:Sl)(gj:World),I43 n44 iz EN gj->
 Br (decide (iz<(if 2000<((au.n:Nat):Int) then 2000 else ((au.n:Nat):Int))))
 (eA au.a iz au.n/\aP (dq (ae au.a ((iz:Int).toNat*4))) (∃(tc nk lh:Int),af gj (ae (ae au.a ((iz:Int).toNat*4)) 1) 0 [tc,nk,lh]/\
 Aw gj #[aa,aa,aa] 41 λUh=>
 Sw Uh gj #[tc,nk,lh] λHy=>
 eA au.a iz au.n/\aP (dq (ae au.a ((iz:Int).toNat*4))) (∃(lY:Int),ld Hy.drew (ae (ae au.a ((iz:Int).toNat*4)) 0)=some (.int .i64 lY)/\
 Aw Hy.drew #[lY,tc,nk,lh] 3 λqH=>
 ah 90 #[.slice (aB Hy.drew.heap.size) 4 4] qH (Rs λmV mR=>K4 w w1 bg gj qH mR (
 af mR (dC w 2) 0 [au]/\∃l59:LV,Rd mR mV.a l59/\ba 1 1 mR EN mV.n l59/\∀(Uq:Sl)(px:World),aY 5 1 mR EN mV.n l59 Uq px->K4 w w1 bg gj mR px (
 af px (dC w 2) 0 [au]/\∃n49,n49<n44/\aO [aA,ar,au]/\aO [.int .u8 (fi ((ar.n:Nat):Int))]/\aO [.int .u8 (fi (ao (Int.tdiv (if 2000<((au.n:Nat):Int) then 2000 else ((au.n:Nat):Int)) 256))),.int .u8 (fi (Int.tmod (if 2000<((au.n:Nat):Int) then 2000 else ((au.n:Nat):Int)) 256))]/\I43 n49 ((ao (iz+1))) Uq px))))))
 (R EN gj)))))):ah 34 #[.agg #[aA,ar,au]] w R:=
 cq ⟨[(16,⟨[(8,.int .i64),(3,.slice)],[],[]⟩),(4,⟨[(4,.int .i64),(3,.slice)],[],[]⟩)],[],[]⟩ Tryz.func34 h
def ub.vc{c0:Addr}(h:
 Br (!((none:Option Addr)).isNone)
 (aP (dq (none:Option Addr)) (aP (dq (none:Option Addr)) (∃(x0 x1 x2 x3 x4 x5 x6 x7:Int)(b8:Bool),af w.drew (ae (none:Option Addr) 0) 0 [x0,x1,x2,x3,x4,x5,x6,x7,b8]/\
 ∃(x9 bj bu bV cn bI:Int),af w.drew (some c0) 0 [x9,bj,bu,bV,cn,bI]/\
 ah 48 #[.agg #[x0,x1,x2,x3,x4,x5,x6,x7,b8]] w.drew (λe dB=>∃(cH dh cA cu di db:Int),e=Value.agg #[cH,dh,cA,cu,di,db]/\
 af dB (some c0) 0 [x9,bj,bu,bV,cn,bI]/\ah 124 #[.agg #[cH,dh,cA,cu,di,db],.agg #[x9,bj,bu,bV,cn,bI]] dB (λe dP=>∃(Kw:Bool),e=Kw/\
 R Kw dP)))))
 (R false w.drew)):ah 123 #[.pointer (none:Option Addr),c0] w R:=
 cq bU Tryz.func123 h
def zk(h:Tj):Ce × Bool:=if 0<=h.2.2.1/\h.2.2.1<6 then ((nX h.1).getD h.2.2.1.toNat (0,0,0),true) else ((0,0,0),false)
def P6(h:Tj)(hc:eQ h.1)(w:World):ah 109 #[XV h] w λe w'=>e=Value.tuple #[eE (zk h).1,.bool (zk h).2]/\Ext w w':=by
 obtain ⟨c,b,f,t⟩:=h;apply Si.vc;intro w0 e0 w1 e1;have x0:=aQ e0;have z0:=zA e0;have r0:∃τ,Row w0 w [c.1,c.2.1,c.2.2,b,f,t] τ:=⟨_,by rw [e0];exact Row.new w [_,_,_,_,_,_] _⟩;have x1:=aQ e1;have z1:=zA e1;have jQ:=x0.tr x1;have hd:=lE w1;obtain ⟨τ,r0⟩:=r0;unfold zk;simp only;refine Br.mk (λh=>λw2 e2=> ?_) (λh=>Br.mk (λh2=>λw3 e3=> ?_) (λh2=>(jn c hc w1.drew).mono ?_))
 ·have h:=cU h;rw [if_neg ab];exact ⟨rfl,jQ.ag e2 ab⟩
 ·have h2:=cU h2;rw [if_neg ab];exact ⟨rfl,jQ.ag e3 ab⟩
 ·have h:=cU h;have h2:=cU h2;obtain ⟨k,rfl⟩:∃k:Nat,f=k:=⟨f.toNat,by omega⟩;rw [if_pos ab,dQ];rintro e w4 ⟨rfl,x4⟩;have z4:=x4.size;refine ⟨_,_,_,_,_,_,_,_,_,_,_,_,_,_,_,_,_,_,rfl,x4.heap ab,x4.heap ab,m7 (r0.ext (x1.tr ((Ext.dr w1).tr x4))) rfl,⟨by omega,by omega⟩,((nX c).getD k (0,0,0)).1,((nX c).getD k (0,0,0)).2.1,((nX c).getD k (0,0,0)).2.2,?_,λfx A1=>⟨rfl,(jQ.tr ((Ext.dr w1).tr x4)).ag A1 ab⟩⟩;have:k=0\/k=1\/k=2\/k=3\/k=4\/k=5:=by omega
  rcases this with rfl|rfl|rfl|rfl|rfl|rfl<;>rfl
def iS(b:ee):Ce:=jW b.aD (0,Int.tdiv (b.ht*4) 5,0)
def G5(b:ee)(hh: -1000000000<=b.ht/\b.ht<=1000000000)(w:World):ah 88 #[Er b] w λe w'=>e=(eE (iS b))/\Ext w w':=by
 apply Ii.vc;intro w0 e0 w1 e1;have x0:=aQ e0;have z0:=zA e0;have x1:=aQ e1;have z1:=zA e1;have e4:ao (Int.tdiv (ao (b.ht*4)) 5)=Int.tdiv (b.ht*4) 5:=by
  have h5: -4000000000<=Int.tdiv (b.ht*4) 5/\Int.tdiv (b.ht*4) 5<=4000000000:=by
   rcases Int.le_total 0 (b.ht*4) with h|h
   ·rw [rj h];omega
   ·have e:b.ht*4= -(-(b.ht*4)):=by omega
    rw [e,Int.neg_tdiv,rj ab];omega
  rw [aK (n:=b.ht*4) (by unfold bN;omega),wI]
 rw [e4];refine (jr b.aD (0,Int.tdiv (b.ht*4) 5,0) w1).mono ?_;rintro e w2 ⟨rfl,x2⟩;have z2:=x2.size;exact ⟨_,_,_,rfl,x2.heap ab,x2.heap ab,λw6 e6=>⟨rfl,(x0.tr (x1.tr x2)).ag e6 ab⟩⟩
def wO(c:Ce):Bx:=((pD c.1,pD c.2.1,pD c.2.2),jW (pD c.1,pD c.2.1,pD c.2.2) (65536,65536,65536))
def Wn(c:Ce)(w:World):ah 121 #[eE c] w λe w'=>e=(su (wO c))/\Ext w w':=by
 apply aaR.vc;intro w0 e0 w1 e1;have x0:=aQ e0;have z0:=zA e0;have r0:∃τ,Row w0 w [c.1,c.2.1,c.2.2] τ:=⟨_,by rw [e0];exact Row.new w [_,_,_] _⟩;have x1:=aQ e1;have z1:=zA e1;have hd:=lE w1;obtain ⟨τ,r0⟩:=r0;have r1:=r0.ext (x1.tr (Ext.dr w1));have jQ:=x0.tr (x1.tr (Ext.dr w1));have last:∀v1 v2:World,v1=w1.drew.alloc (.cells #[aa,aa,aa] gS)->v2=v1.setRow w1.drew.heap.size #[(pD c.1),(pD c.2.1),(pD c.2.2)]->
   ah 145 #[eE (pD c.1,pD c.2.1,pD c.2.2),eE (65536,65536,65536)] v2.drew λe bP=>∃x y z:Int,e=Value.agg #[x,y,z]/\bP.heap[w.heap.size]? =v2.drew.heap[w.heap.size]?/\bP.heap[w0.heap.size]? =v2.drew.heap[w0.heap.size]?/\bP.heap[w1.drew.heap.size]? =v2.drew.heap[w1.drew.heap.size]?/\
    af bP (aB w1.drew.heap.size) 0 [(pD c.1),(pD c.2.1),(pD c.2.2)]/\∀bO:World,bO=bP.setRow w0 #[(pD c.1),(pD c.2.1),(pD c.2.2),x,y,z]->
    Ending.returned (.agg #[(pD c.1),(pD c.2.1),(pD c.2.2),x,y,z])=(su (wO c))/\Ext w bO:=by
  intro v1 v2 f1 f2;have y1:Ext w1.drew v2:=(aQ f1).ag f2 (aC _);have s2:v2.drew.heap.size=w1.heap.size+1:=by show v2.heap.size=_;rw [zR f2,zA f1];rfl
  have rv:Row v2 w1.drew.heap.size [(pD c.1),(pD c.2.1),(pD c.2.2)] gS:=by rw [f2,f1];exact Row.set (Row.new w1.drew [_,_,_] _) [_,_,_]
  refine (jr (pD c.1,pD c.2.1,pD c.2.2) (65536,65536,65536) v2.drew).mono ?_;rintro e bP ⟨rfl,bj⟩;exact ⟨_,_,_,rfl,bj.heap ab,bj.heap ab,bj.heap ab,Lo.wv (rv.ext ((Ext.dr v2).tr bj)),λbO vH=>⟨rfl,(jQ.tr (y1.tr ((Ext.dr v2).tr bj))).ag vH ab⟩⟩
 have of1:∀(n:Int) {u:World} {R:Ending->World->Prop},R (.returned (.int .i64 (pD n))) u->ah 174 #[.int .i64 n] u R:=λn u R h=>(sH n u).mono (by rintro e w' ⟨rfl,rfl⟩;exact h)
 have l2:af w1.drew (dC w.heap.size 2) 0 [c.2.2]:=m7 r1 rfl;have l1:af w1.drew (dC w.heap.size 1) 0 [c.2.1]:=m7 r1 rfl;refine ⟨of1 _ ⟨_,rfl,rfl,rfl,l2,l1,of1 _ ⟨_,rfl,rfl,rfl,l2,of1 _ ⟨_,rfl,rfl,rfl,λw8 e8 w9 e9=>last _ _ e8 e9,λw8 e8 w9 e9=>last _ _ e8 e9⟩,λdP HI=> ?_⟩,λgf e31=> ?_⟩,λlj e42=> ?_⟩
 ·exact of1 _ ⟨_,rfl,rfl,rfl,rfl,λcW yA=>last _ _ HI yA⟩
 ·have xa:=aQ e31;exact of1 _ ⟨_,rfl,rfl,rfl,rfl,m7 (r1.ext xa) rfl,of1 _ ⟨_,rfl,rfl,rfl,rfl,λkG e36=>last _ _ e31 e36⟩⟩
 ·have xa:=aQ e42;exact of1 _ ⟨_,rfl,rfl,rfl,rfl,m7 (r1.ext xa) rfl,m7 (r1.ext xa) rfl,of1 _ ⟨_,rfl,rfl,rfl,rfl,m7 (r1.ext xa) rfl,of1 _ ⟨_,rfl,rfl,rfl,rfl,λlq e49=>last _ _ e42 e49⟩⟩⟩
def FO(c:Ce)(x:Option dS):Bool:=match x with|some y=>jc y.1.box (wO c)|none=>false
def rf(L:List (Option dS))(c:Ce):Bool:=L.any (FO c)
set_option maxHeartbeats 1000000 in
def RV{w:World}{a:Option Nat}{x:Option dS}(ha:∀b,a=some b->∃y,x=some y/\Row w b (Mw y) lM/\bN y.1.wd)(hn:a=none->x=none){c:Ce}{g:Nat}{τ:TypeId}(hg:Row w g (pC (wO c)) τ):
  ah 123 #[pA a,g] w λe w'=>e=Value.bool (FO c x)/\Ext w w':=by
 cases a with
 |none=>
  rw [hn rfl];apply ub.vc;exact fP rfl ⟨rfl,Ext.dr w⟩
 |some b=>
  obtain ⟨y,rfl,hr,hw⟩:=ha b rfl;apply (uG.vc (a0:=⟨b,0,none⟩));refine ⟨_,_,_,_,_,_,_,_,_,(hr.ext (Ext.dr w)).bY (vs:=jO y.1) (o:=0) (λj hj=> ?_),_,_,_,_,_,_,Lo.wv (hg.ext (Ext.dr w)),(kA y.1 hw w.drew).mono ?_⟩
  ·have hj:j<9:=hj;have:j=0\/j=1\/j=2\/j=3\/j=4\/j=5\/j=6\/j=7\/j=8:=by omega
   rcases this with rfl|rfl|rfl|rfl|rfl|rfl|rfl|rfl|rfl<;>rfl
  rintro e dB ⟨rfl,cw⟩;refine ⟨_,_,_,_,_,_,rfl,Lo.wv (hg.ext ((Ext.dr w).tr cw)),(Az y.1.box (wO c) dB).mono ?_⟩;rintro e dP ⟨rfl,ef⟩;exact ⟨_,rfl,rfl,(Ext.dr w).tr (cw.tr ef)⟩
def q9(m:Int)(L:List (Option dS)):Prop:=∀y,some y ∈ L->okB m y.1
def q9.up{m n:Int}{L:List (Option dS)}(h:q9 m L)(hn:m<=n):q9 n L:=λy hy=>(h y hy).up hn
section
variable {F F':Nat->Prop} {w w':World} {g s o t:Nat} {M M':Sm} {occ:Value} {L:List (Option dS)}
def EL.held{av:List (Option Nat)}(he:EL w av L){m:Int}(hL:q9 m L){k:Nat}{a:Option Nat}(ha:av[k]? =some a):
  ∃x,L[k]? =some x/\(∀b,a=some b->∃y,x=some y/\Row w b (Mw y) lM/\bN y.1.wd)/\(a=none->x=none):=by
 cases a with
 |none=>exact ⟨none,he.z k ha,λb hb=>(by cases hb),λ_=>rfl⟩
 |some b=>
  obtain ⟨y,hy,hr⟩:=he.s k b ha;exact ⟨some y,hy,λb' hb=>by cases hb;exact ⟨y,rfl,hr,(hL y (aX hy)).wdi⟩,λq=>(by cases q)⟩
set_option maxHeartbeats 1000000 in
def Nv{p:Value}{av:List (Option Nat)}{τ τ':TypeId}(hr:Row w g (p::av.map pA) τ)(he:EL w av L){m:Int}(hL:q9 m L){c:Ce}{b:Nat}(hb:Row w b (pC (wO c)) τ'):
  ah 175 #[.slice (aJ (ae (some ⟨g,0,none⟩) 1) 0 16 1) (16-0) (16-0),.func (.func 123) #[] #[b]] w λe w'=>(∃n:Int,e=Value.int .i64 n/\decide (n>=0)=rf L c)/\Ext w w':=by
 apply (tX.vc (a0:=⟨aJ (ae (some ⟨g,0,none⟩) 1) 0 16 1,16-0,16-0⟩));rw [eF];refine ⟨λn x wr=>∃k:Nat,x=k/\k+n=16/\Ext w wr/\∀j,j<k->∀y,L[j]? =some y->FO c y=false,⟨16,0,rfl,rfl,Ext.cM _,λj hj=>by omega⟩,?_⟩;rintro n us x wr ⟨k,rfl,hk,xr,mO⟩;apply Br.mk<;>intro hq
 ·have hq:(k:Int)<((16-0:Nat):Int):=by simpa using hq
  obtain ⟨a,ha⟩:=bE (l:=av) (i:=k) (by have:=he.n;omega);obtain ⟨y,hy,h1,h2⟩:=he.held hL ha;refine ⟨⟨rfl,by omega,hq⟩,_,Lh (hr.ext xr) ha,cX (by kernel_rfl) rfl ((RV (a:=a) (x:=y) (λb' e=> ?_) h2 (hb.ext xr)).mono ?_)⟩
  ·obtain ⟨z,e1,e2,e3⟩:=h1 b' e;exact ⟨z,e1,e2.ext xr,e3⟩
  rintro e w7 ⟨rfl,x7⟩;refine ⟨_,rfl,Br.mk (λhm=>⟨⟨_,rfl,?_⟩,xr.tr x7⟩) (λhm=> ?_)⟩
  ·rw [decide_eq_true (by omega:(k:Int)>=0)];exact (List.any_eq_true.2 ⟨y,aX hy,hm⟩).symm
  ·have wk:=nS (j:=k);refine ⟨n-1,by omega,k+1,wk,by omega,xr.tr x7,λj hj z hz=> ?_⟩;by_cases q:j<k
   ·exact mO j q z hz
   ·rw [show j=k from by omega,hy] at hz;rw [<-Option.some.inj hz];exact hm
 ·have hq:¬(k:Int)<((16-0:Nat):Int):=by simpa using hq
  refine ⟨⟨_,rfl,?_⟩,xr⟩;rw [decide_eq_false aF];refine (List.any_eq_false.2 λy hy=> ?_).symm;obtain ⟨j,hj⟩:=List.mem_iff_getElem?.1 hy;have:=(cG.1 hj).1;have:=he.m;rw [mO j ab y hj];decide
def JE{p:Value}{av:List (Option Nat)}{τ:TypeId}(hr:Row w g (p::av.map pA) τ)(he:EL w av L){m:Int}(hL:q9 m L)(c:Ce):
  ah 66 #[g,eE c] w λe w'=>e=Value.bool (rf L c)/\Ext w w':=by
 apply xL.vc;intro w0 e0;have x0:=aQ e0;have z0:=zA e0;refine (Wn c w0).mono ?_;rintro e w1 ⟨rfl,x1⟩;have z1:=x1.size;refine ⟨_,_,_,_,_,_,rfl,x1.heap ab,λw8 e8 w9 e9=> ?_⟩;have x9:Ext w1 w9:=(aQ e8).ag e9 (aC _);have r9:∃τ',Row w9 w1 (pC (wO c)) τ':=⟨_,by rw [e9,e8];exact Row.set (Row.new w1 [_,_,_,_,_,_] _) [_,_,_,_,_,_]⟩;have z9:w9.heap.size=w1.heap.size+1:=by rw [zR e9,zA e8]
 obtain ⟨τ',r9⟩:=r9;have QK:=x0.tr (x1.tr x9);refine Calls.mono (qB.vc (a0:=⟨aJ (ae (aB g) 1) 0 16 1,16-0,16-0⟩) (R:=λe w'=>e=Value.bool (rf L c)/\Ext w9 w') ?_) ?_
 ·refine (Nv (hr.ext QK) (he.same λa ha=>QK.heap (he.lt ha)) hL r9).mono ?_;rintro e bP ⟨⟨n,rfl,hn⟩,bj⟩;exact ⟨n,rfl,by rw [hn],bj⟩
 ·rintro e bP ⟨rfl,bj⟩;exact ⟨_,rfl,bj.heap ab,rfl,QK.tr bj⟩
end
def Nw(a b:Ce)(n:Nat):Prop:=(-(n:Int)<=a.1-b.1/\a.1-b.1<=n)/\(-(n:Int)<=a.2.1-b.2.1/\a.2.1-b.2.1<=n)/\-(n:Int)<=a.2.2-b.2.2/\a.2.2-b.2.2<=n
def ai0(c:Ce)(i:Nat):Nw (nbN c i) c 1:=by unfold nbN Nw;split<;>(simp only;omega)
def aas{d c0:Ce}{r:Int}:∀{n:Nat} {s:S3} {h0 h:Hi},h ∈ goK d c0 r n s h0->me c0 h.1 r=true/\(h.2.1=h0.2.1\/0<=h.2.1/\h.2.1<6)/\Nw h.1 h0.1 n
 |0,s,h0,h,hm=>by cases hm
 |n+1,s,h0,h,hm=>by
  unfold goK at hm
  split at hm
  ·rename_i hw
   rcases cB.1 hm with rfl|hm
   ·exact ⟨hw,.inl rfl,by unfold Nw;omega⟩
   ·cases hq:gd d s h0 with
    |none=>rw [hq] at hm;cases hm
    |some q=>
     rw [hq] at hm
     obtain ⟨h1,h2,h3⟩:=aas hm
     unfold gd at hq
     split at hq
     ·cases hq
     injection hq with hq
     refine ⟨h1,.inr ?_,?_⟩
     ·rcases h2 with h2|h2
      ·rw [h2,<-hq]
       have:=at3 s
       simp only
       split<;>omega
      ·exact h2
     ·have hn:Nw q.2.1 h0.1 1:=by rw [<-hq];exact ai0 _ _
      unfold Nw at hn h3 ⊢;omega
  ·cases hm
def TD:Tj:=((0,0,0),0,0,0)
def cr(M:Sm)(L:List (Option dS))(n:Int)(c9:Ce):Tj × Int:=
 match cj L n with
 |none=>(TD,6)
 |some y=>if (fZ (fj M.T.2) (iS y.1) c9 5).2=false then (TD,13) else if (fZ (fj M.T.2) (iS y.1) c9 5).1.2.1= -1 then (TD,11) else ((fZ (fj M.T.2) (iS y.1) c9 5).1,0)
def G4{b:ee}{m:Int}(h:okB m b)(hm:m<=99970000000000):(-1600000000<=(bq (eI (iS b))).1/\(bq (eI (iS b))).1<=1600000000)/\(-1600000000<=(bq (eI (iS b))).2.1/\(bq (eI (iS b))).2.1<=1600000000)/\-1600000000<=(bq (eI (iS b))).2.2/\(bq (eI (iS b))).2.2<=1600000000:=by
 obtain ⟨⟨h1,h2,h3⟩,-,h5,-⟩:=h;have ht:0<=Int.tdiv (b.ht*4) 5/\Int.tdiv (b.ht*4) 5<=1000000:=by rw [rj ab];omega
 have e1:(bq (eI (iS b))).1=cc (cT (fK b.aD.1 0)):=rfl;have e2:(bq (eI (iS b))).2.1=cc (cT (fK b.aD.2.1 (Int.tdiv (b.ht*4) 5))):=rfl;have e3:(bq (eI (iS b))).2.2=cc (cT (fK b.aD.2.2 0)):=rfl;rw [e1,e2,e3];unfold cc fK cT;omega
def B9{a b r:Int}(h:sV a b r=true)(ha: -4000000000<=a/\a<=4000000000)(hb: -4000000000<=b/\b<=4000000000):a-b<=r/\b-a<=r:=by unfold sV at h;simp only [fk,cN] at h;rw [wI,wI] at h;exact h
def xC{f d:Ce}{r:Int}(hr:lp r<=5):∀h ∈ kq (eI f) (jU d) (lp r),(((bq (eI f)).1-h.1.1<=5/\h.1.1-(bq (eI f)).1<=5)/\((bq (eI f)).2.1-h.1.2.1<=5/\h.1.2.1-(bq (eI f)).2.1<=5)/\(bq (eI f)).2.2-h.1.2.2<=5/\h.1.2.2-(bq (eI f)).2.2<=5)/\(h.2.1= -1\/0<=h.2.1/\h.2.1<6):=by
 intro h hh;obtain ⟨h1,h2,h3⟩:=aas hh;replace h3:Nw h.1 (bq (eI f)) _:=h3;have hc:=vu (eI f);have hn:((3*(lp r).toNat+2:Nat):Int)<=17:=by omega
 unfold Nw at h3;unfold me at h1;simp only [fk] at h1;have q1:=B9 h1.1 ab ab;have q2:=B9 h1.2.1 ab ab;have q3:=B9 h1.2.2 ab ab;exact ⟨⟨by omega,by omega,by omega⟩,h2⟩
def Fo{V:Ce->Int}{f d:Ce}{r:Int}(hr:lp r<=5){h:Tj}(e:fZ V f d r=(h,true)):
  ((bq (eI f)).1-h.1.1<=5/\h.1.1-(bq (eI f)).1<=5)/\((bq (eI f)).2.1-h.1.2.1<=5/\h.1.2.1-(bq (eI f)).2.1<=5)/\((bq (eI f)).2.2-h.1.2.2<=5/\h.1.2.2-(bq (eI f)).2.2<=5)/\V h.1=h.2.1/\(h.2.2.1= -1\/0<=h.2.2.1/\h.2.2.1<6):=by
 unfold fZ at e;split at e
 ·rename_i x hx;obtain ⟨⟨h1,h2,h3⟩,h4⟩:=xC hr x (Ju hx);injection e with e1 e2;subst e1;exact ⟨h1,h2,h3,rfl,h4⟩
 ·injection e with e1 e2
  cases e2
def P4{f d:Ce}{r:Int}(hr:lp r<=5)(hf:(-1600000000<=(bq (eI f)).1/\(bq (eI f)).1<=1600000000)/\(-1600000000<=(bq (eI f)).2.1/\(bq (eI f)).2.1<=1600000000)/\-1600000000<=(bq (eI f)).2.2/\(bq (eI f)).2.2<=1600000000):
  ∀h ∈ kq (eI f) (jU d) (lp r),pW h.1:=by
 intro h hh;obtain ⟨h1,-⟩:=xC hr h hh;unfold pW bN;omega
def V3:lp 5=5:=by decide
section
variable {F F':Nat->Prop} {w w':World} {g s o t:Nat} {M M':Sm} {occ:Value} {L:List (Option dS)}
def EL.at{av:List (Option Nat)}(he:EL w av L){k b:Nat}(ha:av[k]? =some (some b)):∃y,cj L k=some y/\some y ∈ L/\Row w b (Mw y) lM:=by obtain ⟨y,hy,hr⟩:=he.s k b ha;refine ⟨y,?_,aX hy,hr⟩;unfold cj;rw [if_pos ab,dQ,hy];rfl
def EL.at0{av:List (Option Nat)}(he:EL w av L){k:Nat}(ha:av[k]? =some none):cj L k=none:=by unfold cj;rw [if_pos ab,dQ,he.z k ha];rfl
def aaM{b:Nat}{y:dS}(hr:Row w b (Mw y) lM):af w (ae (aB b) 0) 0 (jO y.1):=by
 rw [bh];refine hr.bY (o:=0) λj hj=> ?_
 have hj:j<9:=hj;have:j=0\/j=1\/j=2\/j=3\/j=4\/j=5\/j=6\/j=7\/j=8:=by omega
 rcases this with rfl|rfl|rfl|rfl|rfl|rfl|rfl|rfl|rfl<;>rfl
def amC{b:Nat}{y:dS}(hr:Row w b (Mw y) lM):af w (ae (aB b) 9) 0 [y.2.1,y.2.2.1,.bool y.2.2.2]:=by
 rw [bh];refine hr.bY (o:=9) λj hj=> ?_
 have hj:j<3:=hj;have:j=0\/j=1\/j=2:=by omega
 rcases this with rfl|rfl|rfl<;>rfl
set_option maxHeartbeats 2000000 in
def vk(h:EF F w g s o t M occ L){m:Int}(hL:q9 m L)(hm:m<=99970000000000)(n:Int)(c9:Ce):
  ah 32 #[g,n,eE c9] w λe w'=>e=Value.tuple #[XV (cr M L n c9).1,.int .i64 (cr M L n c9).2]/\Ext w w':=by
 apply xX.vc;intro w0 e0 w1 e1;have x0:=aQ e0;have z0:=zA e0;have r0:∃τ,Row w0 w (eg c9) τ:=⟨_,by rw [e0];exact Row.new w [_,_,_] _⟩;have x1:=aQ e1;have z1:=zA e1;obtain ⟨τ,r0⟩:=r0;have r1:=r0.ext x1;have jQ:=x0.tr x1;have h1:=h.ext jQ;obtain ⟨av,dy,kH,-,-,-⟩:=h1.row;refine (LA dy kH.n n).mono ?_;rintro e w2 ⟨a,rfl,Cu,hc⟩;subst Cu;refine ⟨_,rfl,rfl,rfl,?_⟩;rcases hc with ⟨k,rfl,hk,ha⟩|⟨AT,rfl⟩
 case inr=>
  refine yes rfl λw4 e4=>⟨?_,jQ.ag e4 ab⟩
  unfold cr;rw [vz kH.m AT];rfl
 cases a with
 |none=>
  refine yes rfl λw4 e4=>⟨?_,jQ.ag e4 ab⟩
  unfold cr;rw [kH.at0 ha];rfl
 |some b=>
  obtain ⟨y,hy,pk,Zi⟩:=kH.at ha;have oky:=hL y pk;refine fP rfl (fT rfl (fT rfl ?_));have xd:=Ext.dr w2;have hd:=lE w2;have eyn:=G4 oky hm;have hhb: -1000000000<=y.1.ht/\y.1.ht<=1000000000:=by have:=oky.2.2.1;omega
  have rR:cr M L k c9=if (fZ (fj M.T.2) (iS y.1) c9 5).2=false then (TD,13) else if (fZ (fj M.T.2) (iS y.1) c9 5).1.2.1= -1 then (TD,11) else ((fZ (fj M.T.2) (iS y.1) c9 5).1,0):=by unfold cr;rw [hy]
  have castS:∀{u:World},Ext w2.drew u->ah 87 #[.func (.func 83) #[t] #[],eE (iS y.1),eE c9,(5:Int)] u λe w'=>e=Value.tuple #[XV (fZ (fj M.T.2) (iS y.1) c9 5).1,.bool (fZ (fj M.T.2) (iS y.1) c9 5).2]/\Ext u w':=λ{u} xu=>
   Ko (h1.ext (xd.tr xu)).tl rfl (iS y.1) c9 5 ⟨by omega,by omega,by omega⟩ (P4 (by rw [V3];decide) eyn)
  generalize fZ (fj M.T.2) (iS y.1) c9 5=ck at rR castS;obtain ⟨⟨⟨cx,cy,cz⟩,cb,cf,ct⟩,cq⟩:=ck;have fin:∀{u:World},Ext w2.drew u->Br (!cq)
    (∀fE:World,fE=u.setRow w0 #[aa,aa,aa,aa,aa,aa]->Ending.returned (.tuple #[.agg #[aa,aa,aa,aa,aa,aa],(13:Int)])=Value.tuple #[XV (cr M L k c9).1,.int .i64 (cr M L k c9).2]/\Ext w fE)
    (Br (cb==(-1))
     (∀fE:World,fE=u.setRow w0 #[aa,aa,aa,aa,aa,aa]->Ending.returned (.tuple #[.agg #[aa,aa,aa,aa,aa,aa],(11:Int)])=Value.tuple #[XV (cr M L k c9).1,.int .i64 (cr M L k c9).2]/\Ext w fE)
     (∀fE:World,fE=u.setRow w0 #[cx,cy,cz,cb,cf,ct]->Ending.returned (.tuple #[.agg #[cx,cy,cz,cb,cf,ct],(0:Int)])=Value.tuple #[XV (cr M L k c9).1,.int .i64 (cr M L k c9).2]/\Ext w fE)):=by
   intro u xu;have xx:=jQ.tr (xd.tr xu);rw [rR];refine Br.mk (λhb=>λfE My=>⟨?_,xx.ag My ab⟩) (λhb=>Br.mk (λkE=>λfE My=>⟨?_,xx.ag My ab⟩) (λkE=>λfE My=>⟨?_,xx.ag My ab⟩))
   ·have hb:cq=false:=by simpa using hb
    rw [if_pos hb];rfl
   ·have hb:cq=true:=by simpa using hb
    have kE:cb= -1:=by simpa using kE
    rw [if_neg (by simp [hb]),if_pos kE];rfl
   ·have hb:cq=true:=by simpa using hb
    have kE:¬cb= -1:=by simpa using kE
    rw [if_neg (by simp [hb]),if_neg kE]
  have wayL:∀{u:World},Ext w2.drew u->af u (some ⟨w.heap.size,0,none⟩) 0 (eg c9):=λxu=>Lo.wv (r1.ext (xd.tr xu))
  have bdyL:∀{u:World},Ext w2.drew u->af u (ae (some ⟨b,0,none⟩) 0) 0 (jO y.1):=λxu=>aaM (Zi.ext (xd.tr xu))
  refine ⟨_,_,_,_,_,_,_,_,_,bdyL (Ext.cM _),?_,?_⟩
  ·refine (lO (h1.ext xd)).mono ?_;rintro e bO ⟨rfl,aly⟩;subst aly;refine ⟨_,rfl,rfl,rfl,wayL (Ext.cM _),bdyL (Ext.cM _),?_,λqo e46=> ?_⟩
   ·refine (G5 y.1 hhb w2.drew).mono ?_;rintro e cF ⟨rfl,cH⟩;have z16:=cH.size;refine ⟨_,_,_,rfl,cH.heap ab,cH.heap ab,wayL cH,?_,λeT YY=> ?_⟩
    ·refine (castS cH).mono ?_;rintro e eW ⟨rfl,di⟩;have z20:=di.size;refine ⟨_,_,_,_,_,_,_,rfl,di.heap ab,di.heap ab,λiw e28 dW Qm=> ?_⟩;exact fin ((cH.tr di).tr ((aQ e28).ag Qm (aC _)))
    ·have eL:=aQ YY;have z33:=zA YY;refine (castS (cH.tr eL)).mono ?_;rintro e jf ⟨rfl,ie⟩;have z34:=ie.size;refine ⟨_,_,_,_,_,_,_,rfl,ie.heap ab,ie.heap ab,ie.heap ab,λlj e42=> ?_⟩;exact fin (((cH.tr eL).tr ie).ag e42 ab)
   ·have iz:=aQ e46;have z46:=zA e46;refine (G5 y.1 hhb qo).mono ?_;rintro e lW ⟨rfl,sW⟩;have z47:=sW.size;refine ⟨_,_,_,rfl,sW.heap ab,sW.heap ab,sW.heap ab,wayL (iz.tr sW),(castS (iz.tr sW)).mono ?_⟩;rintro e tH ⟨rfl,nk⟩;have z51:=nk.size;refine ⟨_,_,_,_,_,_,_,rfl,nk.heap ab,nk.heap ab,nk.heap ab,λyO ZJ=> ?_⟩;exact fin (((iz.tr sW).tr nk).ag ZJ ab)
  ·intro Dq e63;have uf:=aQ e63;have z63:=zA e63;refine (lO (h1.ext (xd.tr uf))).mono ?_;rintro e ue ⟨rfl,awe⟩;subst awe;refine ⟨_,rfl,rfl,rfl,rfl,wayL uf,bdyL uf,(G5 y.1 hhb ue).mono ?_⟩;rintro e rT ⟨rfl,mg⟩;have z66:=mg.size;refine ⟨_,_,_,rfl,mg.heap ab,mg.heap ab,mg.heap ab,wayL (uf.tr mg),(castS (uf.tr mg)).mono ?_⟩;rintro e ou ⟨rfl,py⟩;have z70:=py.size;refine ⟨_,_,_,_,_,_,_,rfl,py.heap ab,py.heap ab,py.heap ab,λqu e78=> ?_⟩;exact fin (((uf.tr mg).tr py).ag e78 ab)
end
def mz{w:World}{g:Nat}{cs vs:LV}{E:TypeId}(hr:Row w g cs E){off:Nat}(hl:off+vs.length<=cs.length)(h1:One vs):
  Wr w (ae (aB g) off) vs.length/\∀w',w'=Vc.aL w (ae (aB g) off) vs->Row w' g (aS cs off vs) E/\Mod (λi=>i=g) w w':=by
 rw [bh,eK];refine ⟨hr.wr hl,λw' e=> ?_⟩;rw [hr.aL hl h1] at e;subst e;exact ⟨hr.set _,rfl,rfl,rfl,by rw [setRow_size];exact aC _,λi _ hn=>setRow_other _ _ _ _ hn⟩
section
variable {F F':Nat->Prop} {w w':World} {g s o t:Nat} {M M':Sm} {occ:Value} {L:List (Option dS)}
def EL.put{av:List (Option Nat)}(he:EL w av L){k b:Nat}(ha:av[k]? =some (some b)){y:dS}(hr:Row w' b (Mw y) lM)(hs:∀a,some a ∈ av->a≠b->w'.heap[a]? =w.heap[a]?):EL w' av (L.set k (some y)):=by
 have hk:k<16:=by rw [<-he.n];exact (cG.1 ha).1
 refine ⟨he.n,by rw [gW];exact he.m,λi a hi=> ?_,λi hi=> ?_,he.d⟩
 ·by_cases q:i=k
  ·subst q;rw [ha] at hi
   cases hi
   exact ⟨y,pR (by rw [he.m];exact hk),hr⟩
  ·obtain ⟨x,h1,h2⟩:=he.s i a hi;refine ⟨x,by rw [Aa (Ne.symm q)];exact h1,h2.same (hs a (aX hi) λe=> ?_)⟩;subst e;exact q (he.d i k a hi ha)
 ·have q:i≠k:=λe=>by subst e;rw [ha] at hi;cases hi
  rw [Aa (Ne.symm q)];exact he.z i hi
def gO.aH{w0:World}(x:Ext w w0)(h:gO F w0 g s o t M occ L w'):gO F w g s o t M occ L w':=by obtain ⟨F',h1,h2⟩:=h;exact ⟨F',h1,(aM.aH x).trans h2⟩
def nu(L:List (Option dS))(n:Int)(i:Int × Int × Bool):Int × List (Option dS):=match cj L n with|none=>(6,L)|some y=>(0,L.set n.toNat (some (y.1,i)))
def IZ(h:EF F w g s o t M occ L)(n:Int)(i:Int × Int × Bool):ah 54 #[g,n,.agg #[i.1,i.2.1,.bool i.2.2]] w λe w'=>e=Value.int .i64 (nu L n i).1/\gO F w g s o t M occ (nu L n i).2 w':=by
 apply xZ.vc;intro w0 e0;have x0:=aQ e0;have z0:=zA e0;have h0:=h.ext x0;obtain ⟨av,dy,kH,hFg,hFa,bk⟩:=h0.row;refine (LA dy kH.n n).mono ?_;rintro e w1 ⟨a,rfl,Zk,hc⟩;subst Zk;unfold nu;refine ⟨_,rfl,rfl,?_⟩;rcases hc with ⟨k,rfl,hk,ha⟩|⟨AT,rfl⟩
 case inr=>
  rw [vz kH.m AT];exact yes rfl ⟨rfl,gO.aH x0 (h0.res (Ext.cM _))⟩
 cases a with
 |none=>
  rw [kH.at0 ha];exact yes rfl ⟨rfl,gO.aH x0 (h0.res (Ext.cM _))⟩
 |some b=>
  obtain ⟨y,hy,pk,Zi⟩:=kH.at ha;have hb:=h.lt (i:=b);rw [hy];have we:One [i.1,i.2.1,.bool i.2.2]:=by intro u hu;simp at hu;rcases hu with rfl|rfl|rfl<;>rfl
  obtain ⟨p1,p2⟩:=mz Zi (off:=9) (vs:=[.int .i64 i.1,.int .i64 i.2.1,.bool i.2.2]) (by show 9+3<=12;decide) we;have hbw:b<w:=h.lt (hFa b (aX ha));refine fP rfl (fT rfl (fT rfl ⟨⟨rfl,p1⟩,?_,λw3 e3=> ?_⟩))
  ·intro q;have q:some b=some w.heap.size:=q;have q:b=w.heap.size:=Option.some.inj q;omega
  obtain ⟨q1,q2⟩:=p2 w3 e3;have q1:Row w3 b (Mw (y.1,i)) lM:=q1;have jh:b≠g:=λe=>dy.ne Zi pq.2.2 e.symm
  refine ⟨rfl,gO.aH x0 (bk (q2.mono λj _ hj=> .inr (by rw [hj];exact aX ha)) (dy.same (q2.same _ dy.lt λe=>jh e.symm)) ?_ λa ha=> .inl ha)⟩;show EL w3 av (L.set ((k:Nat):Int).toNat (some (y.1,i)));rw [dQ];exact kH.put ha q1 λa ha' hn=>q2.same _ (kH.lt ha') hn
def Ja:ee:=⟨(0,0,0),(0,0,0),0,0,false⟩
def dT(M:Sm)(L:List (Option dS))(c:Ce)(b:Int):Int × Sm:=if aG b=true/\rf L c=true then (12,M) else ((eM M.T.2 c b).2,tw M c b)
def se(h:EF F w g s o t M occ L){m:Int}(hL:q9 m L)(c:Ce)(hc:eQ c)(b:Int)(hk:qQ M 800000):ah 59 #[g,eE c,b] w λe w'=>e=Value.int .i64 (dT M L c b).1/\gO F w g s o t (dT M L c b).2 occ L w':=by
 apply xY.vc;intro w0 e0;have x0:=aQ e0;have z0:=zA e0;have inner:∀{u:World},Ext w0 u->¬(aG b=true/\rf L c=true)->∃p:Option Addr,Vc.ld u (ae (aB g) 0)=some (.pointer p)/\
   ah 113 #[p,eE c,b] u λe w6=>∃x7:Int,e=x7/\w6.heap[w.heap.size]? =u.heap[w.heap.size]?/\Ending.returned x7=Value.int .i64 (dT M L c b).1/\gO F w g s o t (dT M L c b).2 occ L w6:=by
  intro u xu hn;have hu:=h.ext (x0.tr xu);have zu:=xu.size;obtain ⟨Fs,hs,kf,eX,bk⟩:=hu.ud;refine ⟨_,kf,(yj hs c hc b hk).mono ?_⟩;rintro e w6 ⟨rfl,hr⟩;have hk6:w6.heap[w.heap.size]? =u.heap[w.heap.size]? :=by obtain ⟨F6,-,t6⟩:=hr;exact t6.mod.same _ ab λq=>by have:=h.lt (eX _ q);omega
  unfold dT;rw [if_neg hn];exact ⟨_,rfl,hk6,rfl,gO.aH (x0.tr xu) (bk hr)⟩
 refine (rD b w0).mono ?_;rintro e w1 ⟨rfl,Zk⟩;subst Zk;refine ⟨_,rfl,rfl,Br.mk (λhb=> ?_) (λhb=>inner (Ext.dr _) λq=>by rw [hb] at q;cases q.1)⟩;have h1:=h.ext x0;obtain ⟨av,dy,kH,-,-,-⟩:=h1.row;refine (JE dy kH hL c).mono ?_;rintro e w3 ⟨rfl,x3⟩;have z3:=x3.size;refine ⟨_,rfl,x3.heap ab,Br.mk (λhq=> ?_) (λhq=> ?_)⟩
 ·unfold dT;rw [if_pos ⟨hb,hq⟩];exact ⟨rfl,h.res (x0.tr x3)⟩
 ·exact inner (x3.tr (Ext.dr _)) λq=>by rw [hq] at q;cases q.2
end
def jZ(c:Ce)(m:Int):Prop:=(-m<=c.1/\c.1<=m)/\(-m<=c.2.1/\c.2.1<=m)/\-m<=c.2.2/\c.2.2<=m
def jZ.wide{c:Ce}{m:Int}(h:jZ c m)(hm:m<=2000000000):eQ c:=by unfold jZ at h;unfold eQ;omega
def Fl{M:Sm}{L:List (Option dS)}{n:Int}{c9:Ce}(e:(cr M L n c9).2=0):∃y,cj L n=some y/\some y ∈ L/\fZ (fj M.T.2) (iS y.1) c9 5=((cr M L n c9).1,true)/\(cr M L n c9).1.2.1≠-1:=by
 unfold cr at e ⊢
 cases hq:cj L n with
 |none=>rw [hq] at e;simp only at e;omega
 |some y=>
  rw [hq] at e;simp only at e ⊢;have hm:some y ∈ L:=by
   unfold cj at hq;split at hq
   ·rcases JM.1 hq with hq;exact aX hq
   ·cases hq
  refine ⟨y,rfl,hm,?_⟩;split at e
  ·simp only at e;omega
  split at e
  ·simp only at e;omega
  rename_i h1 h2;rw [if_neg h1,if_neg h2];exact ⟨Prod.ext rfl (by simpa using h1),h2⟩
def vw{M:Sm}{L:List (Option dS)}{m:Int}(hL:q9 m L)(hm:m<=99970000000000){n:Int}{c9:Ce}(e:(cr M L n c9).2=0):jZ (cr M L n c9).1.1 1600000005/\jZ (zk (cr M L n c9).1).1 1600000006:=by
 obtain ⟨y,h1,h2,h3,h4⟩:=Fl e;have hn:=Fo (by rw [V3];decide) h3;have he:=G4 (hL y h2) hm;have hc:jZ (cr M L n c9).1.1 1600000005:=by unfold jZ;omega
 refine ⟨hc,?_⟩;generalize (cr M L n c9).1=h at hc;obtain ⟨c,b,f,tt⟩:=h;unfold zk;split
 ·rename_i hf;simp only at hf ⊢;obtain ⟨k,rfl⟩:∃k:Nat,f=k:=⟨f.toNat,by omega⟩;rw [dQ];unfold jZ at hc;have:k=0\/k=1\/k=2\/k=3\/k=4\/k=5:=by omega
  rcases this with rfl|rfl|rfl|rfl|rfl|rfl
  ·show jZ (c.1-1,c.2.1,c.2.2) _;unfold jZ;simp only;simp only at hc;omega
  ·show jZ (c.1+1,c.2.1,c.2.2) _;unfold jZ;simp only;simp only at hc;omega
  ·show jZ (c.1,c.2.1-1,c.2.2) _;unfold jZ;simp only;simp only at hc;omega
  ·show jZ (c.1,c.2.1+1,c.2.2) _;unfold jZ;simp only;simp only at hc;omega
  ·show jZ (c.1,c.2.1,c.2.2-1) _;unfold jZ;simp only;simp only at hc;omega
  ·show jZ (c.1,c.2.1,c.2.2+1) _;unfold jZ;simp only;simp only at hc;omega
 ·unfold jZ;simp only;omega
def iK(M:Sm)(L:List (Option dS))(n:Int)(c9:Ce)(b:Int):Int × Sm:=
 if (cr M L n c9).2=6 then (6,M) else if cK b=false then (1,M) else if b=0 then (1,M) else if (cr M L n c9).2≠0 then ((cr M L n c9).2,M) else if (zk (cr M L n c9).1).2=false then (12,M) else dT M L (zk (cr M L n c9).1).1 b
def gN(M:Sm)(L:List (Option dS))(n:Int)(c9:Ce):(Int × Int) × Sm:=
 if (cr M L n c9).2≠0 then ((0,(cr M L n c9).2),M) else if (dT M L (cr M L n c9).1.1 0).1≠0 then ((0,(dT M L (cr M L n c9).1.1 0).1),(dT M L (cr M L n c9).1.1 0).2) else (((cr M L n c9).1.2.1,0),(dT M L (cr M L n c9).1.1 0).2)
section
variable {F F':Nat->Prop} {w w':World} {g s o t:Nat} {M M':Sm} {occ:Value} {L:List (Option dS)}
def gO.de{k:Nat}(h:EF F w g s o t M occ L){w0:World}(x:Ext w w0)(hk:w.heap.size<=k)(hk0:k<w0)(h0:∀i,F i->i<w.heap.size){M':Sm}{occ':Value}{L':List (Option dS)}(r:gO F w0 g s o t M' occ' L' w'):w'.heap[k]? =w0.heap[k]? :=by obtain ⟨F',-,h2⟩:=r;exact h2.mod.same _ hk0 λq=>by have:=h0 _ q;omega
set_option maxHeartbeats 1000000 in
def Cz(h:EF F w g s o t M occ L){m:Int}(hL:q9 m L)(hm:m<=99970000000000)(n:Int)(c9:Ce)(b:Int)(hk:qQ M 800000):
  ah 55 #[g,n,eE c9,b] w λe w'=>e=Value.int .i64 (iK M L n c9 b).1/\gO F w g s o t (iK M L n c9 b).2 occ L w':=by
 apply vU.vc;intro w0 e0;have x0:=aQ e0;have z0:=zA e0;refine (vk (h.ext x0) hL hm n c9).mono ?_;rintro e w1 ⟨rfl,x1⟩;have z1:=x1.size;refine ⟨_,_,_,_,_,_,_,rfl,x1.heap ab,λw9 e9 bP EP=> ?_⟩;have bj:Ext w1 bP:=(aQ e9).ag EP (aC _);have YS:bP.heap.size=w1.heap.size+1:=by rw [zR EP,zA e9]
 have pn:=x0.tr (x1.tr bj);unfold iK;refine Br.mk (λh6=> ?_) (λh6=>(gE b bP).mono ?_)
 ·rw [if_pos (by simpa using h6)];have h6:=cU h6;rw [h6];exact ⟨rfl,h.res pn⟩
 rw [if_neg (by simpa using h6)];rintro e bg ⟨rfl,bu⟩;have z11:=bu.size;have Zx:=pn.tr bu;refine ⟨_,rfl,bu.heap ab,bu.heap ab,Br.mk (λhb=> ?_) (λhb=>Br.mk (λVA=> ?_) (λVA=>Br.mk (λhn=> ?_) (λhn=> ?_)))⟩
 ·rw [if_pos (by simpa using hb)];exact ⟨rfl,h.res Zx⟩
 ·rw [if_neg (by simpa using hb),if_pos (by simpa using VA)];exact ⟨rfl,h.res Zx⟩
 ·rw [if_neg (by simpa using hb),if_neg (by simpa using VA),if_pos (by simpa using hn)];exact ⟨rfl,h.res Zx⟩
 rw [if_neg (by simpa using hb),if_neg (by simpa using VA),if_neg (by simpa using hn)];have Mk:=cU hn;obtain ⟨Ml,Vt⟩:=vw hL hm Mk;refine (P6 (cr M L n c9).1 (Ml.wide aF) bg).mono ?_;rintro e bK ⟨rfl,cn⟩;have z13:=cn.size;refine ⟨_,_,_,_,rfl,cn.heap ab,cn.heap ab,λdH YX gg e19=> ?_⟩;have cu:Ext bK gg:=(aQ YX).ag e19 (aC _);have z19:gg.heap.size=bK.heap.size+1:=by rw [zR e19,zA YX]
 have HP:=Zx.tr (cn.tr cu);apply Br.mk<;>intro hq
 ·rw [if_pos (by simpa using hq)];exact ⟨rfl,h.res HP⟩
 rw [if_neg (by simpa using hq)];refine (se (h.ext HP) hL (zk (cr M L n c9).1).1 (Vt.wide aF) b hk).mono ?_;rintro e eW ⟨rfl,r⟩;have hh:∀i,F i->i<w.heap.size:=λi=>h.lt
 exact ⟨_,rfl,gO.de h HP ab ab hh r,gO.de h HP ab ab hh r,gO.de h HP ab ab hh r,rfl,gO.aH HP r⟩
set_option maxHeartbeats 1000000 in
def CA(h:EF F w g s o t M occ L){m:Int}(hL:q9 m L)(hm:m<=99970000000000)(n:Int)(c9:Ce)(hk:qQ M 800000):
  ah 33 #[g,n,eE c9] w λe w'=>e=Value.tuple #[.int .i64 (gN M L n c9).1.1,.int .i64 (gN M L n c9).1.2]/\gO F w g s o t (gN M L n c9).2 occ L w':=by
 apply vV.vc;intro w0 e0;have x0:=aQ e0;have z0:=zA e0;refine (vk (h.ext x0) hL hm n c9).mono ?_;rintro e w1 ⟨rfl,x1⟩;have z1:=x1.size;refine ⟨_,_,_,_,_,_,_,rfl,x1.heap ab,λw9 e9 bP EP=> ?_⟩;have bj:Ext w1 bP:=(aQ e9).ag EP (aC _);have YS:bP.heap.size=w1.heap.size+1:=by rw [zR EP,zA e9]
 have pn:=x0.tr (x1.tr bj);unfold gN;refine Br.mk (λh0=> ?_) (λh0=>yes (by simpa using h0) ?_)
 ·have Mk:=cU h0;rw [if_neg (by simp [Mk])];obtain ⟨Ml,-⟩:=vw hL hm Mk;refine (se (h.ext pn) hL (cr M L n c9).1.1 (Ml.wide aF) 0 hk).mono ?_;rintro e bg ⟨rfl,r⟩;have hh:∀i,F i->i<w.heap.size:=λi=>h.lt
  refine ⟨_,rfl,gO.de h pn ab ab hh r,gO.de h pn ab ab hh r,Br.mk (λhq=> ?_) (λhq=> ?_)⟩
  ·rw [if_pos (by simpa using hq)];exact ⟨rfl,gO.aH pn r⟩
  ·rw [if_neg (by simpa using hq)];exact ⟨rfl,gO.aH pn r⟩
 ·rw [if_pos (by simpa using h0)];exact ⟨rfl,h.res pn⟩
end
def kz(M:Sm)(L:List (Option dS))(i:Nat):Bool:=match cj L i with|some y=>kT M y.1|none=>false
def ey(M:Sm)(L:List (Option dS)):List Nat:=(List.range 16).filter (kz M L)
def gP(M:Sm)(L:List (Option dS))(i:Nat):ee:=match cj L i with|some y=>oU (fj M.T.2) y.1 y.2|none=>Ja
def qx(M:Sm)(L:List (Option dS)):List ee:=lJ (fj M.T.2) ((ey M L).map (gP M L))
def uE(L:List (Option dS))(i:Nat)(b:ee):List (Option dS):=match cj L i with|some y=>L.set i (some (b,y.2))|none=>L
def wL(L:List (Option dS))(l:List (Nat × ee)):List (Option dS):=l.foldl (λL x=>uE L x.1 x.2) L
def jm(M:Sm)(L:List (Option dS)):List (Option dS):=wL L ((ey M L).zip (qx M L))
def kL(M:Sm)(L:List (Option dS)):Sm × List (Option dS):=(C6 (rf (jm M L)) M,jm M L)
abbrev tLp:TypeId:=53
def amB(p:Option Addr):One [.pointer p]:=by intro u hu;simp at hu;subst hu;rfl
def oF{L:List (Option dS)}{i:Nat}{y:dS}(h:cj L i=some y):some y ∈ L:=by unfold cj at h;rw [if_pos ab,dQ] at h;exact aX (JM.1 h)
def re{M:Sm}{L:List (Option dS)}{i:Nat}(h:i ∈ ey M L):i<16/\∃y,cj L i=some y:=by
 unfold ey at h;obtain ⟨h1,h2⟩:=iI.1 h;refine ⟨nt.1 h1,?_⟩;unfold kz at h2
 cases hq:cj L i with
 |none=>rw [hq] at h2;cases h2
 |some y=>exact ⟨y,rfl⟩
def acq{L:List (Option dS)}{i j:Nat}{b:ee}:(cj (uE L i b) j).isSome=(cj L j).isSome:=by
 unfold uE
 cases hq:cj L i with
 |none=>rfl
 |some y=>
  simp only;unfold cj at hq ⊢;rw [if_pos ab,dQ] at hq ⊢;rw [if_pos ab];by_cases e:i=j
  ·subst e;have hq:=JM.1 hq;rw [pR (cG.1 hq).1,hq];rfl
  ·rw [Aa e]
def JH{j:Nat}:∀(l:List (Nat × ee))(L:List (Option dS)),(cj (wL L l) j).isSome=(cj L j).isSome
 | [],L=>rfl
 |x::l,L=>(JH l (uE L x.1 x.2)).trans acq
def ajP{L:List (Option dS)}{i:Nat}{b:ee}{m:Int}(h:q9 m L)(hb:okB m b):q9 m (uE L i b):=by
 unfold uE
 cases hq:cj L i with
 |none=>exact h
 |some y=>
  intro z hz;rcases hX hz with hz|hz
  ·exact h z hz
  ·cases hz
   exact hb
def Et{m:Int}:∀(l:List (Nat × ee)) {L:List (Option dS)},q9 m L->(∀x ∈ l,okB m x.2)->q9 m (wL L l)
 | [],L,h,_=>h
 |x::l,L,h,hl=>Et l (ajP h (hl x cp)) λy hy=>hl y (by simp [hy])
def Ep(M:Sm)(L:List (Option dS)):(ey M L).length<=16:=by have:=wM (kz M L) (List.range 16);rw [C1] at this;exact this
def zi{M:Sm}{L:List (Option dS)}{m:Int}(h:q9 m L)(hm:m<=99970000000000):∀b ∈(ey M L).map (gP M L),okB (m+16777216) b:=by intro b hb;obtain ⟨i,hi,rfl⟩:=aW.1 hb;obtain ⟨-,y,hy⟩:=re hi;unfold gP;rw [hy];exact afu (h y (oF hy)) hm
section
variable {F F':Nat->Prop} {w w':World} {g s o t:Nat} {M M':Sm} {occ:Value} {L:List (Option dS)}
def EL.arZ{av:List (Option Nat)}(he:EL w av L){k b:Nat}(ha:av[k]? =some (some b)){y:dS}(hy:cj L k=some y)(x:ee){w':World}(hr:Row w' b (Mw (x,y.2)) lM)(hs:∀a,some a ∈ av->a≠b->w'.heap[a]? =w.heap[a]?):EL w' av (uE L k x):=by
 have e:uE L k x=L.set k (some (x,y.2)):=by unfold uE;rw [hy]
 rw [e];exact he.put ha hr hs
def EL.full{av:List (Option Nat)}(he:EL w av L){k:Nat}{y:dS}(hk:k<16)(hy:cj L k=some y):∃b,av[k]? =some (some b)/\Row w b (Mw y) lM:=by
 obtain ⟨a,ha⟩:=bE (l:=av) (i:=k) (by rw [he.n];exact hk)
 cases a with
 |none=>rw [he.at0 ha] at hy;cases hy
 |some b=>
  obtain ⟨z,h1,-,h3⟩:=he.at ha;rw [h1] at hy
  cases hy
  exact ⟨b,ha,h3⟩
def SF.oc{Fs:Nat->Prop}(h2:SF Fs w s o t M occ){p:Value}{av:List (Option Nat)}(h1:Row w g (p::av.map pA) tV)(h3:EL w av L){m:Int}(hL:q9 m L):Oc (.func (.func 66) #[g] #[]) (rf L) Fs w:=by
 have ng:¬Fs g:=h2.j9 h1 pq.1.1 pq.1.2.1 pq.1.2.2.1 pq.1.2.2.2.1 pq.1.2.2.2.2.1 pq.1.2.2.2.2.2.1 pq.1.2.2.2.2.2.2;have na:∀a,some a ∈ av->¬Fs a:=λa ha=>by obtain ⟨i,hi⟩:=qy ha;obtain ⟨x,-,hr⟩:=h3.s i a hi;exact h2.j9 hr pq.2.1.1 pq.2.1.2.1 pq.2.1.2.2.1 pq.2.1.2.2.2.1 pq.2.1.2.2.2.2.1 pq.2.1.2.2.2.2.2.1 pq.2.1.2.2.2.2.2.2
 refine ⟨λi=>i=g\/some i ∈ av,λi hi=> ?_,λw' hk c _=>cX (by kernel_rfl) rfl (JE (h1.same (hk _ (.inl rfl))) (h3.same λa ha=>hk a (.inr ha)) hL c)⟩;rcases hi with rfl|hi
 ·exact ⟨h1.lt,ng⟩
 ·exact ⟨h3.lt hi,na i hi⟩
end
section
variable {F F':Nat->Prop} {w w':World} {g s o t:Nat} {M M':Sm} {occ:Value} {L:List (Option dS)}
abbrev Og(M:Sm)(L:List (Option dS))(j:Nat):List (Option dS):=wL L (((ey M L).zip (qx M L)).take j)
def WR{j:Nat}{i:Nat}{b:ee}(hi:(ey M L)[j]? =some i)(hb:(qx M L)[j]? =some b):Og M L (j+1)=uE (Og M L j) i b:=by
 have e:((ey M L).zip (qx M L))[j]? =some (i,b):=by rw [List.getElem?_zip_eq_some];exact ⟨hi,hb⟩
 unfold Og wL;rw [dR,e,oT];rfl
def aaL(h:(qx M L).length=(ey M L).length):Og M L (ey M L).length=jm M L:=by unfold Og jm;rw [fN (by rw [List.length_zip,h];omega)]
set_option maxHeartbeats 4000000 in
def Jb(h:EF F w g s o t M occ L){m:Int}(hL:q9 m L)(hm0:0<=m)(hm:m<=99900000000000)(hd:CC (qR M))(hk:qQ M 600000)(akT:1<=M.dE/\M.dE<=64):
  ah 64 #[g] w λe w'=>e=Value.int .i64 (qR M).length/\gO F w g s o t (kL M L).1 (.func (.func 66) #[g] #[]) (kL M L).2 w'/\q9 (m+3300000000) (kL M L).2:=by
 apply xU.vc;obtain ⟨av,dy,kH,hFg,hFa,bk⟩:=h.row;have kf:af w (ae (aB g) 1) 0 (av.map pA):=by rw [bh];exact dy.bY λj hj=>by rw [show 0+1+j=j+1 from by omega,C2]
 obtain ⟨b0,b1,b2,b3,b4,b5,b6,b7,b8,b9,b10,ZH,b12,Hn,b14,Vu,hav⟩:=UR kH.n;have gu:∀k:Nat,k<16->∃a:Option Nat,(([b0,b1,b2,b3,b4,b5,b6,b7,b8,b9,b10,ZH,b12,Hn,b14,Vu]:List (Option Nat)).map pA)[((k:Nat):Int).toNat*1]? =some (pA a)/\av[k]? =some a:=λk hk=>by obtain ⟨a,ha⟩:=bE (l:=av) (i:=k) (by rw [kH.n];exact hk);exact ⟨a,by rw [<-hav,dQ,zh,aR,ha];rfl,ha⟩
 rw [hav] at kf;have atk:∀i:Nat,i ∈ ey M L->∃b y,av[i]? =some (some b)/\cj L i=some y/\Row w b (Mw y) lM:=λi hi=>by obtain ⟨h1,y,hy⟩:=re hi;obtain ⟨b,h2,h3⟩:=kH.full h1 hy;exact ⟨b,y,h2,hy,h3⟩
 have hwl:=Ep M L
 let ptr:Nat->LV:=λi=> [pA (av.getD i none)]
 have ptr_eq:∀{i:Nat} {a:Option Nat},av[i]? =some a->ptr i=[pA a]:=λ{i a} ha=>by show [pA (av.getD i none)]=_;rw [dZ,ha];rfl
 refine ⟨_,_,_,_,_,_,_,_,_,_,_,_,_,_,_,_,kf,λn x sl wr=>∃k:Nat,x=k/\k+n=16/\aE w tLp 1 wr sl (((List.range k).filter (kz M L)).map ptr)/\Ext w wr,⟨16,0,rfl,rfl,aE.nil,Ext.cM _⟩,?_⟩;rintro n us x sl wr ⟨k,rfl,hk',ho,xr⟩;have zr:=xr.size;apply Br.mk<;>intro hb
 ·have hb:=cU hb;obtain ⟨a,ha,ha'⟩:=gu k ab;have wk:=nS (j:=k);have dN:sl.n<=16:=by have h1:=(ho.rd (show 0<1 by decide)).n;have h2:=wM (kz M L) (List.range k);rw [aN] at h1;rw [C1] at h2;omega
  have skip:kz M L k=false->∀{u:World},Ext wr u->∃QP,QP<n/\∃k':Nat,ao ((k:Int)+1)=k'/\k'+QP=16/\aE w tLp 1 u ⟨sl.a,sl.n,sl.c⟩ (((List.range k').filter (kz M L)).map ptr)/\Ext w u:=λhq {u} xu=>by refine ⟨n-1,by omega,k+1,wk,by omega,?_,xr.tr xu⟩;rw [wQ,qc,bW,Jy (by rw [hq];decide)];simpa using ho.ext xu
  refine ⟨⟨by omega,by omega⟩,_,ha,?_⟩
  cases a with
  |none=>
   refine fP rfl (skip ?_ (Ext.cM _));unfold kz;rw [kH.at0 ha']
  |some b=>
   obtain ⟨y,hy,pk,Zi⟩:=kH.at ha';refine yes rfl (fT rfl (fT rfl ⟨_,_,_,_,_,_,_,_,_,aaM (Zi.ext xr),(C3 (h.ext xr) y.1).mono ?_⟩));rintro e eT ⟨rfl,eL⟩;have z33:=eL.size;have hwake:kz M L k=kT M y.1:=by unfold kz;rw [hy]
   refine ⟨_,rfl,Br.mk (λhq=>λkh e35=> ?_) (λhq=>skip (by rw [hwake];exact hq) eL)⟩;subst e35;obtain ⟨D7,hres8⟩:=(ho.ext eL).jk (bytes:=8) (news:=[pA (some b)]) (.cells #[pA (some b)] tLp) ab rfl (amB _) ab ab;refine ⟨D7,λs36 gw atV=> ?_⟩;obtain ⟨f8,yM,hn8,x8,Hj,-⟩:=hres8 s36 gw atV;refine ⟨f8,n-1,by omega,k+1,wk,by omega,?_,(Below.trans (xr.tr eL) x8:Below w w gw)⟩;rw [wQ,qc,bW,Jw (by rw [hwake];exact hq)];show aE _ _ _ _ _ (_++ [ptr k]);rw [ptr_eq ha'];exact yM
 have hb:=cU hb;have wg:k=16:=by omega
 subst wg;replace ho:aE w tLp 1 wr sl ((ey M L).map ptr):=ho;have u9:sl.n=(ey M L).length:=by rw [(ho.rd (show 0<1 by decide)).n,aN]
 have slk:∀b,sl.bf=some b->w.heap.size<=b/\b<wr.heap.size:=λb hb=>ho.own.lt hb
 refine ⟨λn x s2 jg=>∃j:Nat,x=j/\j+n=(ey M L).length/\aE wr AV 9 jg s2 ((((ey M L).take j).map (gP M L)).map jO)/\Ext wr jg,⟨(ey M L).length,0,rfl,by omega,aE.nil,Ext.cM _⟩,?_⟩;rintro n2 yI x s2 jg ⟨j,rfl,hj,AS,rU⟩;have z43:=rU.size;apply Br.mk<;>intro hb
 ·have hb:=cU hb;have hjw:j<(ey M L).length:=by omega
  obtain ⟨i,hi⟩:=bE (l:=ey M L) (i:=j) hjw;obtain ⟨b,y,hab,hy,Zi⟩:=atk i (aX hi);have HG:=(ho.ext rU).rd (show 0<1 by decide);have v8:((ey M L).map ptr)[j]? =some [pA (some b)]:=by rw [aR,hi];exact congrArg some (ptr_eq hab)
  have Mo:Vc.ld jg (ae sl.a ((j:Int).toNat*1))=some (pA (some b)):=by have:=HG.at v8 (j:=0) (v:=pA (some b)) rfl;rw [dn] at this;exact this
  have xd:=Ext.dr jg;have hbdL:∀{u:World},Ext jg u->af u (ae (aB b) 0) 0 (jO y.1):=λxu=>aaM (Zi.ext (xr.tr (rU.tr xu)))
  have hinL:∀{u:World},Ext jg u->af u (ae (aB b) 9) 0 [.int .i64 y.2.1,.int .i64 y.2.2.1,.bool y.2.2.2]:=λxu=>amC (Zi.ext (xr.tr (rU.tr xu)))
  refine ⟨HG.im aF ab ab,_,Mo,fT rfl (fT rfl ⟨_,_,_,_,_,_,_,_,_,hbdL xd,fT rfl (fT rfl ⟨_,_,_,hinL xd,(lO (h.ext (xr.tr (rU.tr xd)))).mono ?_⟩)⟩)⟩;rintro e Cx ⟨rfl,atX⟩;subst atX;have oky:=hL y (oF hy);refine ⟨_,rfl,hinL xd,hbdL xd,(F7 (h.ext (xr.tr (rU.tr xd))).tl rfl y.1 oky.wdi oky.2.2.2 (oky.nV ab) ab y.2).mono ?_⟩;rintro e mQ ⟨rfl,lX⟩;have z60:=lX.size;have zd:=lE jg;refine ⟨_,_,_,_,_,_,_,_,_,rfl,λou e70=> ?_⟩;subst e70;have dN:s2.n<=16:=by have h1:=(AS.rd (show 0<9 by decide)).n;rw [aN,aN,dK] at h1;omega
  obtain ⟨D7,hres8⟩:=(AS.ext (xd.tr lX)).jk (bytes:=72) (news:=jO (oU (fj M.T.2) y.1 y.2)) (.cells (jO (oU (fj M.T.2) y.1 y.2)).toArray AV) ab rfl (xN _) ab ab;refine ⟨D7,λs71 w72 atY=> ?_⟩;obtain ⟨f8,yM,hn8,x8,Hj,-⟩:=hres8 s71 w72 atY;have wk:=nS (j:=j);refine ⟨f8,n2-1,by omega,j+1,wk,by omega,?_,(Below.trans (rU.tr (xd.tr lX)) x8:Below wr wr w72)⟩;rw [dR,hi,bW,bW];have e1:gP M L i=oU (fj M.T.2) y.1 y.2:=by unfold gP;rw [hy]
  show aE _ _ _ _ _ (_++ [jO (gP M L i)]);rw [e1];exact yM
 have hb:=cU hb;have hjw:j=(ey M L).length:=by omega
 subst hjw;rw [iR] at AS;have h43:=h.ext (xr.tr rU);refine (lO h43).mono ?_;rintro e Ky ⟨rfl,atZ⟩;subst atZ;refine ⟨_,rfl,(F8 h43.tl rfl AS (by rw [aN];exact hwl) (zi hL ab) ab ab).mono ?_⟩;rintro e sY ⟨ID,rfl,adA,ve,bn,VB⟩;rw [aN] at VB;replace adA:aE Ky AV 9 sY ID ((qx M L).map jO):=adA;replace VB:(qx M L).length=(ey M L).length:=VB;replace bn:∀b ∈ qx M L,okB (m+16777216+16*16*12582912) b:=bn;have z75:=ve.size;have s76k:∀b,ID.bf=some b->Ky.heap.size<=b/\b<sY.heap.size:=λb hb=>adA.own.lt hb
 have aA0:ID.n=(ey M L).length:=by rw [(adA.rd (show 0<9 by decide)).n,aN,VB]
 have adB:=xr.tr (rU.tr ve);have avlt:∀a,some a ∈ av->a<w.heap.size:=λa ha=>kH.lt ha
 have jh:∀a,some a ∈ av->a≠g:=λa ha q=>by subst q;obtain ⟨i,hi⟩:=qy ha;obtain ⟨x,-,hr⟩:=kH.s i a hi;exact dy.ne hr pq.2.2 rfl
 refine ⟨ID,rfl,λn x wC=>∃j:Nat,x=j/\j+n=(ey M L).length/\EL wC av (Og M L j)/\Mod (λi=>some i ∈ av) sY wC,⟨(ey M L).length,0,rfl,by omega,(kH.same λa ha=>adB.heap (kH.lt ha)),Mod.refl _ _⟩,?_⟩;rintro n3 us3 x wC ⟨j,rfl,hj,agM,m81⟩;have z81:=m81.size;apply Br.mk<;>intro hb
 ·have hb:=cU hb;have hjw:j<(ey M L).length:=by omega
  obtain ⟨i,hi⟩:=bE (l:=ey M L) (i:=j) hjw;obtain ⟨x,hx⟩:=bE (l:=qx M L) (i:=j) ab;obtain ⟨b,y0,hab,hy0,-⟩:=atk i (aX hi);have HH:=(re (aX hi)).1;obtain ⟨y,hy⟩:∃y,cj (Og M L j) i=some y:=by
   have:=JH (j:=i) (((ey M L).zip (qx M L)).take j) L;rw [hy0] at this
   cases hq:cj (Og M L j) i with
   |none=>rw [hq] at this;cases this
   |some y=>exact ⟨y,rfl⟩
  obtain ⟨b',aoo,Zi⟩:=agM.full HH hy;rw [hab] at aoo
  cases aoo
  have hrd76:=(m81.iq adA λb hb hq=>by have:=s76k b hb;have:=avlt b hq;omega).rd (show 0<9 by decide);have hrx:((qx M L).map jO)[j]? =some (jO x):=by rw [aR,hx];rfl
  refine ⟨hrd76.im aF ab ab,_,_,_,_,_,_,_,_,_,hrd76.bY hrx,λw92 e92 IW e93=> ?_⟩;have tJ:Ext wC IW:=(aQ e92).ag e93 (aC _);have z93:IW.heap.size=wC.heap.size+1:=by rw [zR e93,zA e92]
  have xd:=tJ.tr (Ext.dr IW);have HG:=(((m81.iq ((ho.ext rU).ext ve) λb hb hq=>by have:=slk b hb;have:=avlt b hq;omega).ext tJ).ext (Ext.dr IW)).rd (show 0<1 by decide);have v8:((ey M L).map ptr)[j]? =some [pA (some b)]:=by rw [aR,hi];exact congrArg some (ptr_eq hab)
  have Mo:Vc.ld IW.drew (ae sl.a ((j:Int).toNat*1))=some (pA (some b)):=by have:=HG.at v8 (j:=0) (v:=pA (some b)) rfl;rw [dn] at this;exact this
  have aA2:=avlt b (aX hab);have hwz:=adB.size;obtain ⟨p1,p2⟩:=mz (Zi.ext xd) (off:=0) (vs:=jO x) (by show 0+9<=12;decide) (xN x);refine ⟨HG.im aF ab ab,_,Mo,fT rfl (fT rfl ⟨⟨rfl,p1⟩,?_,λw95 e95=> ?_⟩)⟩
  ·intro q;have q:some b=some wC.heap.size:=q;have q:b=wC.heap.size:=Option.some.inj q;omega
  obtain ⟨q1,q2⟩:=p2 w95 e95;have q1:Row w95 b (Mw (x,y.2)) lM:=q1;have wk:=nS (j:=j);refine ⟨n3-1,by omega,j+1,wk,by omega,?_,m81.trans ((Mod.aH xd).trans (q2.mono λi _ hi=>by rw [hi];exact aX hab))⟩;rw [WR hi hx];refine agM.arZ hab hy x q1 λa ha hn=> ?_
  have:=avlt a ha;exact (q2.same a (by have:=xd.size;omega) hn).trans (xd.heap ab)
 have hb:=cU hb;have hjw:j=(ey M L).length:=by omega
 subst hjw;rw [aaL VB] at agM;have at1:Mod (λi=>i=g\/some i ∈ av) w wC:=(Mod.aH adB).trans (m81.mono λi _ hi=> .inr hi);obtain ⟨F81,h81,t81⟩:=bk at1 (dy.ext adB|>.same (m81.same _ (by have:=adB.size;have:=dy.lt;omega) λq=>jh g q rfl)) agM λa ha=> .inl ha
 have hok2:q9 (m+3300000000) (jm M L):=Et _ (hL.up ab) λx hx=>(bn x.2 (List.of_mem_zip hx).2).up ab
 obtain ⟨Fs,hs,kf,eX,hresS⟩:=h81.ud;refine ⟨_,kf,(zT hs (.func 66) #[g] #[]).mono ?_⟩;rintro e w97 ⟨rfl,hr,-⟩;refine ⟨rfl,?_⟩;obtain ⟨F97,h97,t97⟩:=hresS hr;obtain ⟨Fs2,AU,hld2,hsub2,hresS2⟩:=h97.ud;obtain ⟨av2,hrow2,hel2,-,-,-⟩:=h97.row;refine ⟨_,hld2,(JI AU (AU.oc hrow2 hel2 hok2) hd hk akT).mono ?_⟩;rintro e Q8 ⟨rfl,qM⟩;obtain ⟨F99,h99,t99⟩:=hresS2 qM;exact ⟨_,rfl,rfl,⟨F99,h99,t81.trans (t97.trans t99)⟩,hok2⟩
end
structure Ap(B:Nat)(w0:World)(s0:Sl)(w:World)(s:Sl)(b:List Int):Prop where
 own:m4 B w s b
 bel:Below B w0 w
 Sx:∀j,s0.bf≠some j->j<w0.heap.size->w.heap[j]? =w0.heap[j]?
 bf:∀j,s.bf=some j->s0.bf=some j\/w0.heap.size<=j
 low:B<=w0
def Ap.refl{B:Nat}{w:World}{s:Sl}{b:List Int}(h:m4 B w s b)(hB:B<=w):Ap B w s w s b:=⟨h,Below.refl _ _,λ_ _ _=>rfl,λ_ hj=> .inl hj,hB⟩
def Ap.ext{B:Nat}{w0 w u:World}{s0 s:Sl}{b:List Int}(h:Ap B w0 s0 w s b)(x:Ext w u):Ap B w0 s0 u s b:=
 ⟨h.own.ext x,Below.trans h.bel (Below.mono x (gx h.low h.bel.size)),λj hj hl=>(x.heap (kM hl h.bel.size)).trans (h.Sx j hj hl),h.bf,h.low⟩
def Ap.n{B:Nat}{w0 w:World}{s0 s:Sl}{b:List Int}(h:Ap B w0 s0 w s b):s.n=b.length:=by rw [(h.own.rd aF).n,aN]
def Ap.app{B:Nat}{w0 w:World}{s0 s:Sl}{b:List Int}(h:Ap B w0 s0 w s b)(news:List Int)(hl:b.length+news.length<=1000000):
  ba 1 1 w s news.length (news.map yv).flatten/\∀s' w',aY iA 1 w s news.length (news.map yv).flatten s' w'->Ap B w0 s0 w' s' (b++news)/\(∀j,s.bf≠some j->j<w.heap.size->w'.heap[j]? =w.heap[j]?)/\(s'.bf=s.bf\/s'.bf=some w.heap.size)/\w.heap.size<=w'.heap.size:=by
 have hn:=h.n;have hlm:(news.map yv).length=news.length:=aN ..;have hB:B<=w:=gx h.low h.bel.size;obtain ⟨hp,hr⟩:=h.own.H2 (bytes:=1) (more:=news.map yv) hB (λr hr=>by obtain ⟨x,-,rfl⟩:=aW.1 hr;rfl) (λr hr=>by obtain ⟨x,-,rfl⟩:=aW.1 hr;exact uu _ _) ab ab;rw [hlm] at hp hr;refine ⟨hp,λs' w' bk=> ?_⟩;obtain ⟨h1,h2,h3,h4,h5⟩:=hr s' w' bk;have hz:=h3.size;have hz0:=h.bel.size;refine ⟨⟨by show aE _ _ _ _ _ ((b++news).map yv);rw [bW];exact h1,Below.trans h.bel h3,λj hj hl=> ?_,λj hj=> ?_,h.low⟩,h4,h5,h3.size⟩
 ·have:s.bf≠some j:=λe=>by
   rcases h.bf j e with q|q
   ·exact hj q
   ·omega
  exact (h4 j this ab).trans (h.Sx j hj hl)
 ·rcases h5 with q|q
  ·exact h.bf j (by rw [<-q];exact hj)
  ·rw [q] at hj;injection hj with hj;exact .inr ab
def Ap.ne{B:Nat}{w0 w:World}{s0 s:Sl}{b:List Int}(h:Ap B w0 s0 w s b){j:Nat}(hj:w.heap.size<=j):s.bf≠some j:=λe=>by have:=(h.own.own.lt e).2;omega
def Ap.jk{B:Nat}{w0 w v:World}{s0 s:Sl}{b:List Int}(h:Ap B w0 s0 w s b)(news:List Int)(hl:b.length+news.length<=1000000){o:Obj}(e:v=w.alloc o):
  ba 1 1 v s news.length (news.map yv).flatten/\∀s' w',aY iA 1 v s news.length (news.map yv).flatten s' w'->Ap B w0 s0 w' s' (b++news)/\w'.heap[w.heap.size]? =v.heap[w.heap.size]?/\(∀j,s.bf≠some j->j<v.heap.size->w'.heap[j]? =v.heap[j]?)/\(s'.bf=s.bf\/s'.bf=some v.heap.size)/\v.heap.size<=w'.heap.size:=by
 obtain ⟨hp,hr⟩:=(h.ext (aQ e)).app news hl;have z:=zA e;refine ⟨hp,λs' w' bk=> ?_⟩;obtain ⟨h1,h2,h3,h4⟩:=hr s' w' bk;exact ⟨h1,h2 _ (h.ne (aC _)) ab,h2,h3,h4⟩
def eV{s s':Sl}{n j:Nat}(hb:s'.bf=s.bf\/s'.bf=some n)(h1:s.bf≠some j)(h2:n≠j):s'.bf≠some j:=λe=>by
 rcases hb with q|q
 ·exact h1 (q.symm.trans e)
 ·rw [q] at e
  injection e with e
  exact h2 e
def Ap.off{B:Nat}{w0 w:World}{s0 s:Sl}{b:List Int}(h:Ap B w0 s0 w s b){j:Nat}(hj:s0.bf≠some j)(hl:j<w0):s.bf≠some j:=λe=>by
 rcases h.bf j e with q|q
 ·exact hj q
 ·omega
def Ap.trans{B:Nat}{w0 w w':World}{s0 s s':Sl}{b b':List Int}(h:Ap B w0 s0 w s b)(k:Ap B w s w' s' b'):Ap B w0 s0 w' s' b':=
 ⟨k.own,Below.trans h.bel k.bel,λj hj hl=>(k.Sx j (h.off hj hl) (kM hl h.bel.size)).trans (h.Sx j hj hl),λj hj=>(k.bf j hj).elim (λq=>h.bf j q) λq=> .inr (gx h.bel.size q),h.low⟩
def rdI{w v:World}{l:List Int}{o:TypeId}(e:v=w.alloc (.cells (l.map (Value.int .i64)).toArray o)):RdK v ⟨aB w.heap.size,l.length,l.length⟩ 1 (l.map iv):=by
 have hr:Row v w (l.map (Value.int .i64)) o:=by rw [e];exact Row.new w _ _
 have hf:∀l:List Int,(l.map iv).flatten=l.map (Value.int .i64):=λl=>by
  induction l with
  |nil=>rfl
  |cons a l ih=>rw [fu,kV,ih];rfl
 exact (aE.jI (B:=0) (k:=1) (g7 _) hr (by rw [aN];omega) (aC _) (by rw [hf,fN (by rw [aN];omega)]) λr hr=>by obtain ⟨x,-,rfl⟩:=aW.1 hr;rfl).rd aF
def U0(n:Int):Nat->Int
 |0=>n / 1099511627776 % 256
 |1=>n / 4294967296 % 256
 |2=>n / 16777216 % 256
 |3=>n / 65536 % 256
 |4=>n / 256 % 256
 |_=>n % 256
def DP(n:Int):List Int:=(List.range 6).map (U0 n)
def mG(l:List Int):List Int:=(l.map DP).flatten
def uK(n:Int):(DP n).length=6:=rfl
def rG(l:List Int):(mG l).length=6*l.length:=by
 unfold mG
 induction l with
 |nil=>rfl
 |cons a l ih=>rw [fu,kV,dv,ih,uK,du];omega
def JV{l:List Int}{k:Nat}{n:Int}(h:l[k]? =some n):mG (l.take (k+1))=mG (l.take k)++DP n:=by unfold mG;rw [dR,h,bW,CN];simp
def abd(n:Int)(q:Nat):0<=U0 n q/\U0 n q<256:=by unfold U0;split<;>omega
def JW{α:Type}(f:Nat->α)(q:Nat):(List.range (q+1)).map f=(List.range q).map f++ [f q]:=by rw [wQ,bW];rfl
def afC(n:Int)(q:Nat)(hq:q<6):fi (n.fdiv (2 ^(min (ao (8*(5-(q:Int)))).toNat 64)))=U0 n q:=by
 rw [wrap_u8];have:q=0\/q=1\/q=2\/q=3\/q=4\/q=5:=by omega
 rcases this with rfl|rfl|rfl|rfl|rfl|rfl
 all_goals
  rw [tq _ aF]
 ·show n / 1099511627776 % 256=_;rfl
 ·show n / 4294967296 % 256=_;rfl
 ·show n / 16777216 % 256=_;rfl
 ·show n / 65536 % 256=_;rfl
 ·show n / 256 % 256=_;rfl
 ·show n / 1 % 256=_;rw [Int.ediv_one];rfl
set_option maxHeartbeats 1000000 in
def rI{B:Nat}{w:World}{s:Sl}{b:List Int}(h:m4 B w s b)(hB:B<=w){s1:Sl}{l:List Int}(hl:RdK w s1 1 (l.map iv))(jh:l≠ []->∀j,s1.bf=some j->s.bf≠some j)(dN:b.length+6*l.length<=900000):
  ah 81 #[s,s1] w λe w'=>∃s':Sl,e=s'/\Ap B w s w' s' (b++mG l):=by
 apply Sy.vc;have Ml:s1.n=l.length:=by rw [hl.n,aN]
 refine ⟨λn x sl wr=>∃k:Nat,x=k/\k+n=l.length/\Ap B w s wr sl (b++mG (l.take k)),⟨l.length,0,rfl,by omega,by rw [CO];show Ap B w s w s (b++ []);rw [q8];exact Ap.refl h hB⟩,?_⟩;rintro n us x sl wr ⟨k,rfl,hk,ha⟩;apply Br.mk<;>intro hq
 ·have hq:=cU hq;have QQ:k<l.length:=by omega
  obtain ⟨y,hy⟩:=bE QQ;have auC:l≠ []:=λe=>by rw [e] at QQ;exact absurd QQ cp
  have kF:RdK wr s1 1 (l.map iv):=hl.ahv λhrn j hj=>ha.Sx j (jh auC j hj) (hl.Sr aF hrn hj)
  have hyi:(l.map iv)[k]? =some (iv y):=by rw [aR,hy];rfl
  have kf:=kF.at hyi (j:=0) (v:=.int .i64 y) rfl;rw [dn] at kf;have Uk:(mG (l.take k)).length=6*k:=by rw [rG,dK];omega
  have wk:=nS (j:=k);refine ⟨kF.im aF ab hq,y,kf,λn x kg bK=>∃q:Nat,x=5-(q:Int)/\q+n=6/\Ap B w s bK kg (b++mG (l.take k)++(List.range q).map (U0 y)),⟨6,0,rfl,rfl,by simpa using ha⟩,?_⟩;rintro n9 Zc x kg bK ⟨q,rfl,hq6,hA⟩;apply Br.mk<;>intro hc
  ·have hc:=cU hc;rw [afC y q ab];refine bB.2 ⟨Eh.2 (by rw [wI];omega),λdB pN=> ?_⟩;obtain ⟨hp,hr⟩:=hA.jk [U0 y q] (by simp only [dv,aN,C1,Uk,du,mH];omega) pN;refine ⟨hp,λZL cL h17=> ?_⟩;obtain ⟨h1,h2,-⟩:=hr ZL cL h17;refine ⟨h2,n9-1,by omega,q+1,by rw [wI];omega,by omega,?_⟩;rw [JW,<-gK];exact h1
  ·have hc:=cU hc;have:q=6:=by omega
   subst this;refine ⟨n-1,by omega,k+1,wk,by omega,?_⟩;rw [JV hy,<-gK];exact hA
 ·have hq:=cU hq;have:k=l.length:=by omega
  subst this;rw [iR] at ha;exact ⟨sl,rfl,ha⟩
def stB(b:Bool):Int:=if b then 1 else 0
abbrev kJ(b:ee):List Int:=[b.aD.1,b.aD.2.1,b.aD.2.2,b.speed.1,b.speed.2.1,b.speed.2.2,b.wd,b.ht]
def gC(i:Int)(b:ee):List Int:=i::(mG (kJ b)++ [stB b.ir])
def C0(L:List (Option dS))(i:Int):List Int:=match cj L i with|some y=>gC i y.1|none=> []
def fC(L:List (Option dS))(l:List Int):List Int:=(l.map (C0 L)).flatten
def iB(x:fh.It):List Int:=mG [x.1,x.2.1,x.2.2.1,x.2.2.2]
def vC(l:List fh.It):List Int:=[((min l.length 2000:Nat):Int) / 256 % 256,((min l.length 2000:Nat):Int) % 256]++((l.take 2000).map iB).flatten
def dJ(now:Int)(n:Nat):List Int:=DP now++ [(n:Int) % 256]
def mX(M:Sm)(L:List (Option dS)):List Int:=dJ M.now (cQ L).length++fC L (cQ L)++vC M.q.l
def yR(L:List (Option dS)):(cQ L).length<=16:=by unfold cQ;rw [aN];have:=wM (λi:Nat=>(cj L (i:Nat)).isSome) (List.range 16);rw [C1] at this;exact this
def PS{L:List (Option dS)}{x:Int}(h:x ∈ cQ L):∃i:Nat,x=i/\i<16/\∃y,cj L i=some y:=by unfold cQ at h;obtain ⟨i,hi,rfl⟩:=aW.1 h;obtain ⟨h1,h2⟩:=iI.1 hi;exact ⟨i,rfl,nt.1 h1,oE.1 h2⟩
def GV(i:Int)(b:ee):(gC i b).length=50:=by unfold gC;rw [du,dv,rG];rfl
def yp(L:List (Option dS)):∀l:List Int,(fC L l).length<=50*l.length
 | []=>aC _
 |x::l=>by
  have:=yp L l
  unfold fC at this ⊢
  rw [fu,kV,dv,du]
  have:(C0 L x).length<=50:=by
   unfold C0;split
   ·rw [GV];exact aC _
   ·exact g7 _
  omega
def Dg(x:fh.It):(iB x).length=24:=by unfold iB;rw [rG];rfl
def vD{α:Type}(f:α->List Int){l:List α}{k:Nat}{x:α}(h:l[k]? =some x):((l.take (k+1)).map f).flatten=((l.take k).map f).flatten++f x:=by rw [dR,h,bW,CN];simp
def LZ:∀l:List fh.It,(l.map iB).flatten.length=24*l.length
 | []=>rfl
 |x::l=>by rw [fu,kV,dv,Dg,LZ l,du];omega
def ajI{B E k:Nat}{w:World}{s:Sl}{xs:LV}(h:Vc.Own B E k w s xs):s.n<=s.c:=by
 cases h with
 |nil=>exact aC _
 |row g n c cs hg hr hc hn=>exact hn
def PT{w:World}{b:Nat}{y:dS}(hr:Row w b (Mw y) lM)(j:Nat){v:Value}(h:(Mw y)[j]? =some v):af w (ae (aB b) j) 0 [v]:=by rw [bh,eK];exact m7 hr h
def AA{w:World}{b:Nat}{y:dS}(hr:Row w b (Mw y) lM)(j:Nat){v:Value}(h:(Mw y)[j]? =some v):Vc.ld w (ae (aB b) j)=some v:=hr.at j h
section
variable {F F':Nat->Prop} {w w':World} {g s o t:Nat} {M M':Sm} {occ:Value} {L:List (Option dS)}
def JF(h:SF F w s o t M occ):ah 68 #[s] w λe w'=>e=(M.now)/\w'=w:=by obtain ⟨g,sd,h1,-⟩:=h.row;apply Nz.vc;exact ⟨_,h1.at 3 rfl,rfl,rfl⟩
set_option maxHeartbeats 4000000 in
def uT(h:EF F w g s o t M occ L):ah 26 #[g] w λe w'=>∃sl:Sl,e=Value.slice sl.a sl.n sl.c/\m4 w w' sl (mX M L)/\Ext w w':=by
 apply uW.vc;refine (Xw h).mono ?_;rintro e w1 ⟨s1,rfl,ho1,x1⟩;have z1:=x1.size;have h1:=h.ext x1;have Ml:s1.n=(cQ L).length:=by rw [(ho1.rd aF).n,aN]
 have hll:=yR L;obtain ⟨Fs,hs,kf,eX,-⟩:=h1.ud;refine ⟨s1,rfl,_,kf,(JF hs).mono ?_⟩;rintro e w3 ⟨rfl,Re⟩;subst Re;refine ⟨_,rfl,λw5 e5=> ?_⟩;have x5:=aQ e5;have z5:=zA e5;have hr5:=rdI (l:=[M.now]) e5;refine (rI (B:=w3.heap.size) (s:=⟨none,0,0⟩) (b:=[]) aE.nil x5.size hr5 (λ_ j _ q=>(by cases q)) cp).mono ?_;rintro e w6 ⟨s7,rfl,a6⟩;have e6:([]:List Int)++mG [M.now]=DP M.now:=by show DP M.now++ []=_;rw [q8]
 rw [e6] at a6;refine ⟨s7,rfl,λw8 e8=> ?_⟩;have ew:fi ((s1.n:Nat):Int)=((cQ L).length:Int) % 256:=by rw [wrap_u8,Ml]
 rw [ew] at e8 ⊢;obtain ⟨D7,hr8⟩:=a6.jk [((cQ L).length:Int) % 256] (by rw [uK];simp) e8;have z8:=zA e8;refine ⟨D7,λs9 bP r10=> ?_⟩;obtain ⟨a10,k10,-,b10,YS⟩:=hr8 s9 bP r10;replace a10:Ap w3 w5 ⟨none,0,0⟩ bP s9 (dJ M.now (cQ L).length):=a10;have z6:=a6.bel.size;have alm:Ext w3 bP:=x5.trans (Below.mono a10.bel (aC _));have n96:s9.bf≠some w6.heap.size:=eV b10 (a6.ne (aC _)) ab;have ht7:(dJ M.now (cQ L).length).length=7:=rfl;have A0:Ap w3 bP s9 bP s9 (dJ M.now (cQ L).length):=Ap.refl a10.own ab;refine ⟨k10,λn x sl wr=>∃k:Nat,x=k/\k+n=(cQ L).length/\Ap w3 bP s9 wr sl (dJ M.now (cQ L).length++fC L ((cQ L).take k)),⟨(cQ L).length,rfl,0,rfl,by omega,by rw [CO];show Ap _ _ _ _ _ (_++ []);rw [q8];exact A0⟩,?_⟩;rintro n us x lZ cF ⟨k,rfl,hk,Uo⟩;have alo:Ext w3 cF:=alm.trans (Below.mono Uo.bel (aC _));have z16:=Uo.bel.size;have lr:(dJ M.now (cQ L).length++fC L ((cQ L).take k)).length<=1000:=by have:=yp L ((cQ L).take k);rw [dK] at this;rw [dv,ht7];omega
 apply Br.mk<;>intro hq
 ·have hq:=cU hq;obtain ⟨v,hv⟩:=bE (l:=cQ L) (i:=k) ab;obtain ⟨i,rfl,HH,y,hy⟩:=PS (aX hv);have kF:=(ho1.ext alo).rd (show 0<1 by decide);have hvi:((cQ L).map λi=> [Value.int .i64 i])[k]? =some [.int .i64 (i:Int)]:=by rw [aR,hv];rfl
  have apj:=kF.at hvi (j:=0) (v:=.int .i64 i) rfl;rw [dn] at apj;obtain ⟨av,dy,kH,-,-,-⟩:=h1.row;obtain ⟨b,hab,Zi⟩:=kH.full HH hy;have rowU:∀{u:World} {c:Sl} {bs:List Int},Ap w3 bP s9 u c bs->Row u b (Mw y) lM:=λ{u c bs} ha=>Zi.ext (alm.trans (Below.mono ha.bel (aC _)))
  have avO:=rowU Uo;have xd:=Ext.dr cF;have rbd:=avO.ext xd;have zd:=lE cF;have ad:=Uo.ext xd;have wk:=nS (j:=k);have ei:fi ((i:Nat):Int)=(i:Int):=by rw [wrap_u8];omega
  refine ⟨kF.im aF ab hq,_,apj,by omega,by omega,_,Lh (dy.ext alo) hab,?_⟩;refine ⟨λc u=>Ap w3 bP s9 u c (dJ M.now (cQ L).length++fC L ((cQ L).take k)++((i:Int)::mG (kJ y.1))),?_,?_⟩
  ·refine fT rfl (fT rfl (fT rfl (fT rfl ⟨_,AA rbd 0 rfl,fT rfl (fT rfl (fT rfl (fT rfl ⟨_,AA rbd 1 rfl,fT rfl (fT rfl (fT rfl (fT rfl ⟨_,AA rbd 2 rfl,fT rfl (fT rfl (fT rfl (fT rfl ⟨_,AA rbd 3 rfl,fT rfl (fT rfl (fT rfl (fT rfl ⟨_,AA rbd 4 rfl,fT rfl (fT rfl (fT rfl (fT rfl ⟨_,AA rbd 5 rfl,fT rfl (fT rfl (fT rfl ⟨_,AA rbd 6 rfl,fT rfl (fT rfl (fT rfl ⟨_,AA rbd 7 rfl,?_⟩))⟩))⟩)))⟩)))⟩)))⟩)))⟩)))⟩)));rw [ei];have fin:∀{u u':World} {c c':Sl},Ap w3 bP s9 u c (dJ M.now (cQ L).length++fC L ((cQ L).take k)++ [(i:Int)])->Ap w3 u c u' c' (dJ M.now (cQ L).length++fC L ((cQ L).take k)++ [(i:Int)]++mG (kJ y.1))->Ap w3 bP s9 u' c' (dJ M.now (cQ L).length++fC L ((cQ L).take k)++((i:Int)::mG (kJ y.1))):=λh1 h2=>by have:=h1.trans h2;rw [gK,gK] at this;rw [gK];exact this
   have hlen1:((dJ M.now (cQ L).length++fC L ((cQ L).take k))++ [(i:Int)]).length+6*(kJ y.1).length<=900000:=by rw [dv];show _+1+6*8<=_;omega
   have Zu:lZ.bf≠some w6.heap.size:=Uo.off n96 ab;refine ⟨λdW Qm=>⟨?_,λkh e35=> ?_⟩,λjP TN jw e41=> ?_⟩
   ·obtain ⟨hp,hr⟩:=ad.jk [(i:Int)] (by rw [du,mH];omega) Qm;have z29:=zA Qm;refine ⟨hp,λug gf r31=> ?_⟩;obtain ⟨a31,k31,m31,ZG,z31⟩:=hr ug gf r31;have QT:=rowU a31;refine ⟨m31 _ Zu ab,k31,PT QT 7 rfl,PT QT 6 rfl,PT QT 5 rfl,PT QT 4 rfl,PT QT 3 rfl,PT QT 2 rfl,PT QT 1 rfl,PT QT 0 rfl,λni Ud=> ?_⟩;have a32:=a31.ext (aQ Ud);have z32:=zA Ud;have hrd32:=rdI (l:=kJ y.1) Ud;have nd:ug.bf≠some cF.drew.heap.size:=eV ZG (Uo.ne (aC _)) ab;refine (rI a32.own (by have:=a32.bel.size;omega) hrd32 (λ_ j hj q=> ?_) hlen1).mono ?_
    ·have hj:j=gf.heap.size:=(Option.some.inj hj).symm;subst hj;exact a31.ne (aC _) q
    rintro e eT ⟨s34,rfl,a33⟩;exact ⟨s34,rfl,a33.Sx _ (a31.off n96 ab) ab,a33.Sx _ nd ab,rfl,fin a32 a33⟩
   ·have gn:=aQ Qm;have z29:=zA Qm;obtain ⟨hp,hr⟩:=(ad.ext gn).jk [(i:Int)] (by rw [du,mH];omega) e35;have z35:=zA e35;have hrd35:=rdI (l:=kJ y.1) e35;refine ⟨hp,λs36 gw r37=> ?_⟩;obtain ⟨a37,k37,m37,b37,z37⟩:=hr s36 gw r37;have nd:lZ.bf≠some cF.drew.heap.size:=Uo.ne (aC _);have ZK:s36.bf≠some dW.heap.size:=eV b37 (Uo.ne ab) ab;refine ⟨m37 _ Zu ab,m37 _ nd ab,k37,(rI a37.own (by have:=a37.bel.size;omega) (hrd35.same λj hj=> ?_) (λ_ j hj q=> ?_) hlen1).mono ?_⟩
    ·have hj:j=dW.heap.size:=(Option.some.inj hj).symm;subst hj;exact k37
    ·have hj:j=dW.heap.size:=(Option.some.inj hj).symm;subst hj;exact ZK q
    rintro e oD ⟨Vw,rfl,a38⟩;exact ⟨Vw,rfl,a38.Sx _ (a37.off n96 ab) ab,a38.Sx _ (eV b37 nd ab) ab,rfl,fin a37 a38⟩
   ·have mP:=aQ TN;have z40:=zA TN;have hrd40:=rdI (l:=kJ y.1) TN;obtain ⟨hp,hr⟩:=(ad.ext mP).jk [(i:Int)] (by rw [du,mH];omega) e41;have z41:=zA e41;have lC:=aQ e41;refine ⟨hp,λs42 jg r43=> ?_⟩;obtain ⟨a43,k43,m43,Qp,z43⟩:=hr s42 jg r43;have nd:lZ.bf≠some cF.drew.heap.size:=Uo.ne (aC _);have n40:lZ.bf≠some jP.heap.size:=Uo.ne ab;refine ⟨m43 _ Zu ab,m43 _ nd ab,k43,(rI a43.own (by have:=a43.bel.size;omega) ((hrd40.ext lC).same λj hj=> ?_) (λ_ j hj q=> ?_) hlen1).mono ?_⟩
    ·have hj:j=cF.drew.heap.size:=(Option.some.inj hj).symm;subst hj;exact m43 _ nd ab
    ·have hj:j=cF.drew.heap.size:=(Option.some.inj hj).symm;subst hj;exact eV Qp nd ab q
    rintro e lg ⟨s45,rfl,a44⟩;exact ⟨s45,rfl,a44.Sx _ (a43.off n96 ab) ab,a44.Sx _ (eV Qp n40 ab) ab,rfl,fin a43 a44⟩
  ·intro apk EN gj QU;have avT:=rowU QU;have z48:=QU.bel.size;have avU:(dJ M.now (cQ L).length++fC L ((cQ L).take k)++((i:Int)::mG (kJ y.1))).length<=2000:=by rw [dv,du,rG];show _+(6*8+1)<=_;omega
   have endS:∀(st:Int),st=stB y.1.ir->∀{v:World} {c:Sl},Ap w3 bP s9 v c (dJ M.now (cQ L).length++fC L ((cQ L).take k)++((i:Int)::mG (kJ y.1))++ [st])->Ap w3 bP s9 v c (dJ M.now (cQ L).length++fC L ((cQ L).take (k+1))):=λst gM {v c} h=>by
    have e:fC L ((cQ L).take (k+1))=fC L ((cQ L).take k)++((i:Int)::(mG (kJ y.1)++ [st])):=by unfold fC;rw [vD (C0 L) hv];unfold C0 gC;rw [hy,gM]
    rw [e,<-gK];rw [gK] at h;exact h
   refine fT rfl (fT rfl (fT rfl ⟨_,AA avT 8 rfl,Br.mk (λhb=>λmT e50=> ?_) (λhb=>λUh e53=> ?_)⟩))
   ·obtain ⟨hp,hr⟩:=QU.jk [1] (by rw [du,mH];omega) e50;have z50:=zA e50;refine ⟨hp,λs51 Q4 r52=> ?_⟩;obtain ⟨a52,k52,m52,b52,z52⟩:=hr s51 Q4 r52;exact ⟨m52 _ (QU.off n96 ab) ab,k52,n-1,by omega,rfl,k+1,wk,by omega,endS 1 (by rw [hb];rfl) a52⟩
   ·obtain ⟨hp,hr⟩:=QU.jk [0] (by rw [du,mH];omega) e53;have z53:=zA e53;refine ⟨hp,λEH xk r55=> ?_⟩;obtain ⟨a55,k55,m55,b55,z55⟩:=hr EH xk r55;exact ⟨m55 _ (QU.off n96 ab) ab,k55,n-1,by omega,rfl,k+1,wk,by omega,endS 0 (by rw [hb];rfl) a55⟩
 ·have hq:=cU hq;have hk':k=(cQ L).length:=by omega
  subst hk';rw [iR] at Uo lr;obtain ⟨aCJ,apl,hld16,-,-⟩:=(h1.ext alo).ud;refine ⟨_,hld16,(wR apl).mono ?_⟩;rintro e mR ⟨mV,rfl,Up,oo⟩;have z57:=oo.size;obtain ⟨gq,mq,qs,-,uY,-⟩:=apl.queue;have hql:M.q.l.length<=4096:=by have:=uY.len;have:=uY.room;omega
  have ahb:mV.n=M.q.l.length:=by rw [(Up.rd (show 0<4 by decide)).n,aN]
  have avW:=(Up.rd (show 0<4 by decide));have Qn:mV.n<=mV.c:=ajI Up.own;have Zu:lZ.bf≠some w6.heap.size:=Uo.off n96 ab;have alp:(if 2000<((mV.n:Nat):Int) then 2000 else ((mV.n:Nat):Int))=((min M.q.l.length 2000:Nat):Int):=by rw [ahb];split<;>omega
  refine ⟨mV,rfl,oo.heap ab,?_⟩;rw [alp];refine ⟨by omega,by omega,λyO ZJ=> ?_⟩;rw [eF];have a57:=Uo.ext oo;have eb1:fi (((((((min M.q.l.length 2000:Nat):Int):Int).toNat-0:Nat):Int)).fdiv (2 ^(min (8:Int).toNat 64)))=((min M.q.l.length 2000:Nat):Int) / 256 % 256:=by rw [wrap_u8,tq _ aF];rfl
  have eb2:fi ((((((min M.q.l.length 2000:Nat):Int):Int).toNat-0:Nat):Int))=((min M.q.l.length 2000:Nat):Int) % 256:=by rw [wrap_u8];rfl
  rw [eb1,eb2] at ZJ ⊢;obtain ⟨hp,hr⟩:=a57.jk [((min M.q.l.length 2000:Nat):Int) / 256 % 256,((min M.q.l.length 2000:Nat):Int) % 256] (by rw [du,du,mH];omega) ZJ;have z59:=zA ZJ;refine ⟨hp,λUq px r61=> ?_⟩;obtain ⟨a61,k61,m61,b61,z61⟩:=hr Uq px r61;have qq:=aQ ZJ;have avZ:Uq.bf≠some w6.heap.size:=eV b61 Zu ab;have apm:Uq.bf≠some mR.heap.size:=eV b61 (a57.ne (aC _)) ab;have alr:∀j,mV.bf=some j->cF.heap.size<=j/\j<mR.heap.size:=λj hj=>Up.own.lt hj
  have apn:∀j,mV.bf=some j->Uq.bf≠some j:=λj hj=>by obtain ⟨q1,q2⟩:=alr j hj;exact eV b61 (Uo.ne q1) ab
  have hrd61:RdK px mV 4 (M.q.l.map fV):=avW.same λj hj=>by obtain ⟨q1,q2⟩:=alr j hj;exact (m61 j (Uo.ne q1) ab).trans (qq.heap q2)
  let W:=M.q.l.take 2000
  have hW:W.length=min M.q.l.length 2000:=by rw [dK,Nat.min_comm]
  have A61:Ap w3 px Uq px Uq (dJ M.now (cQ L).length++fC L (cQ L)++ [((min M.q.l.length 2000:Nat):Int) / 256 % 256,((min M.q.l.length 2000:Nat):Int) % 256]):=Ap.refl a61.own (by have:=a61.bel.size;omega);have ak4:((((min M.q.l.length 2000:Nat):Int)).toNat-0:Nat)=W.length:=by rw [hW];omega
  rw [ak4];refine ⟨m61 _ Zu ab,k61,λn x sl wr=>∃k:Nat,x=k/\k+n=W.length/\Ap w3 px Uq wr sl (dJ M.now (cQ L).length++fC L (cQ L)++ [((min M.q.l.length 2000:Nat):Int) / 256 % 256,((min M.q.l.length 2000:Nat):Int) % 256]++((W.take k).map iB).flatten),⟨W.length,rfl,rfl,0,rfl,by omega,by rw [CO];show Ap _ _ _ _ _ (_++ []);rw [q8];exact A61⟩,?_⟩;rintro n2 yI x s66 jH ⟨k,rfl,hk,a67⟩;have z67:=a67.bel.size;apply Br.mk<;>intro hq
  ·have hq:=cU hq;have hkW:k<W.length:=by omega
   obtain ⟨it,ZI⟩:=bE hkW;have ahc:M.q.l[k]? =some it:=by have h2:W[k]? =M.q.l[k]? :=List.getElem?_take_of_lt ab;rw [<-h2];exact ZI
   have dy:(M.q.l.map fV)[k]? =some (fV it):=by rw [aR,ahc];rfl
   have hrd67:RdK jH mV 4 (M.q.l.map fV):=hrd61.same λj hj=>a67.Sx j (apn j hj) (by have:=alr j hj;omega)
   have pc:eA mV.a (k:Int) W.length:=by obtain ⟨q1,q2,q3⟩:=hrd67.im (i:=(k:Int)) aF ab ab;exact ⟨q1,q2,hq⟩
   refine ⟨pc,_,_,_,_,hrd67.bY dy,λKy e73 mU e74 sY Zg=> ?_⟩;have vi:Ext jH mU:=(aQ e73).ag e74 (aC _);have z74:mU.heap.size=jH.heap.size+1:=by rw [zR e74,zA e73]
   have ve:=aQ Zg;have z75:=zA Zg;have hrd75:=rdI (l:=[it.1,it.2.1,it.2.2.1,it.2.2.2]) Zg;have a75:=a67.ext (vi.tr ve);have aCM:(dJ M.now (cQ L).length++fC L (cQ L)++ [((min M.q.l.length 2000:Nat):Int) / 256 % 256,((min M.q.l.length 2000:Nat):Int) % 256]++((W.take k).map iB).flatten).length<=100000:=by rw [dv,dv,LZ,dK];show _+2+_<=_;omega
   refine (rI a75.own (by have:=a75.bel.size;omega) hrd75 (λ_ j hj q=> ?_) (by show _+6*4<=_;omega)).mono ?_
   ·have hj:j=mU.heap.size:=(Option.some.inj hj).symm;subst hj;exact a67.ne ab q
   rintro e j6 ⟨s77,rfl,a76⟩;refine ⟨s77,rfl,a76.Sx _ (a67.off avZ ab) ab,a76.Sx _ (a67.off apm ab) ab,a76.Sx _ (a67.ne (aC _)) ab,n2-1,by omega,rfl,rfl,k+1,by rw [wI];omega,by omega,?_⟩;rw [vD iB ZI,<-gK];exact a75.trans a76
  ·have hq:=cU hq;have hk':k=W.length:=by omega
   subst hk';rw [iR] at a67;refine ⟨s66,rfl,?_,?_⟩
   ·have e:mX M L=dJ M.now (cQ L).length++fC L (cQ L)++ [((min M.q.l.length 2000:Nat):Int) / 256 % 256,((min M.q.l.length 2000:Nat):Int) % 256]++(W.map iB).flatten:=by unfold mX vC;rw [<-gK]
    rw [e];exact aE.low a67.own z1
   ·have b3:Below w3 w3 jH:=Below.trans alm (Below.trans a61.bel a67.bel);exact x1.tr b3
end
def uq:Nat->Int
 |0=>1099511627776
 |1=>4294967296
 |2=>16777216
 |3=>65536
 |4=>256
 |5=>1
 |_=>0
def af6(q:Nat)(hq:q<6):ao (Int.tdiv (uq q) 256)=uq (q+1):=by
 have:q=0\/q=1\/q=2\/q=3\/q=4\/q=5:=by omega
 rcases this with rfl|rfl|rfl|rfl|rfl|rfl<;>decide
def ajT{n:Int}(h0:0<=n)(h1:n<=4611686018427387904)(q:Nat)(hq:q<6):fi (Int.tmod (ao (Int.tdiv n (uq q))) 256)=U0 n q:=by
 have hu:0<uq q:=by
  have:q=0\/q=1\/q=2\/q=3\/q=4\/q=5:=by omega
  rcases this with rfl|rfl|rfl|rfl|rfl|rfl<;>decide
 have hd:0<=n / uq q/\n / uq q<=n:=⟨Int.ediv_nonneg h0 (Int.le_of_lt hu),Int.ediv_le_self _ h0⟩;rw [rj h0,wI,CT hd.1,wrap_u8,Int.emod_emod_of_dvd _ (Int.dvd_refl 256)];have:q=0\/q=1\/q=2\/q=3\/q=4\/q=5:=by omega
 rcases this with rfl|rfl|rfl|rfl|rfl|rfl
 ·rfl
 ·rfl
 ·rfl
 ·rfl
 ·rfl
 ·show n / 1 % 256=n % 256;rw [Int.ediv_one]
def acx(n:Int)(q:Nat)(hq:q<6):U0 (n+281474976710656) q=U0 n q:=by
 have:q=0\/q=1\/q=2\/q=3\/q=4\/q=5:=by omega
 rcases this with rfl|rfl|rfl|rfl|rfl|rfl
 ·show (n+281474976710656) / 1099511627776 % 256=n / 1099511627776 % 256;omega
 ·show (n+281474976710656) / 4294967296 % 256=n / 4294967296 % 256;omega
 ·show (n+281474976710656) / 16777216 % 256=n / 16777216 % 256;omega
 ·show (n+281474976710656) / 65536 % 256=n / 65536 % 256;omega
 ·show (n+281474976710656) / 256 % 256=n / 256 % 256;omega
 ·show (n+281474976710656) % 256=n % 256;omega
abbrev ER(n:Int):Prop:= -281474976710656<=n/\n<=4611686018427387904
def Dl(n:Int)(hn:ER n)(w:World):ah 89 #[n] w λe w'=>∃s:Sl,e=s/\m4 w w' s (DP n)/\Ext w w':=by
 apply L5.vc;have body:∀(n':Int),0<=n'->n'<=4611686018427387904->(∀q,q<6->U0 n' q=U0 n q)->∃I0:Nat->Int->Sl->Int->World->Prop,
   (∃n1,I0 n1 (0) ⟨none,0,0⟩ (1099511627776) w)/\
   ∀(n1:Nat)(yI:Nat->Value)(x3:Int)(s4:Sl)(x5:Int)(w6:World),I0 n1 x3 s4 x5 w6->
   Br (decide ((x3:Int)<6))
   (aP (Mt x5) (∀w8:World,w8=w6.alloc (.cells #[.int .u8 (fi (Int.tmod (ao (Int.tdiv n' x5)) 256))] iA)->
   ba 1 1 w8 ⟨s4.a,s4.n,s4.c⟩ 1 [.int .u8 (fi (Int.tmod (ao (Int.tdiv n' x5)) 256))]/\∀(s9:Sl)(bP:World),aY iA 1 w8 ⟨s4.a,s4.n,s4.c⟩ 1 [.int .u8 (fi (Int.tmod (ao (Int.tdiv n' x5)) 256))] s9 bP->bP.heap[w6.heap.size]? =w8.heap[w6.heap.size]?/\
   ∃n7,n7<n1/\I0 n7 ((ao (x3+1))) ⟨s9.a,s9.n,s9.c⟩ ((ao (Int.tdiv x5 256))) bP))
   (∃s:Sl,Ending.returned s4=s/\m4 w w6 s (DP n)/\Ext w w6):=by
  intro n' h0 h1 hq;refine ⟨λm x sl u wr=>∃q:Nat,x=q/\q+m=6/\u=uq q/\Ap w w ⟨none,0,0⟩ wr sl ((List.range q).map (U0 n)),⟨6,0,rfl,rfl,rfl,Ap.refl aE.nil (aC _)⟩,?_⟩;rintro m us x s4 x5 w6 ⟨q,rfl,hm,rfl,ha⟩;apply Br.mk<;>intro hc
  ·have hc:=cU hc;have hq6:q<6:=by omega
   rw [ajT h0 h1 q hq6,hq q hq6];refine bB.2 ⟨si.2 ?_,λw8 e8=> ?_⟩
   ·have:q=0\/q=1\/q=2\/q=3\/q=4\/q=5:=by omega
    rcases this with rfl|rfl|rfl|rfl|rfl|rfl<;>decide
   obtain ⟨hp,hr⟩:=ha.jk [U0 n q] (by simp only [aN,C1,du,mH];omega) e8;refine ⟨hp,λs9 bP r10=> ?_⟩;obtain ⟨h1,h2,-⟩:=hr s9 bP r10;refine ⟨h2,m-1,by omega,q+1,by rw [wI];omega,by omega,af6 q hq6,?_⟩;rw [JW];exact h1
  ·have hc:=cU hc;have:q=6:=by omega
   subst this;exact ⟨s4,rfl,ha.own,ha.bel⟩
 refine Br.mk (λh=> ?_) (λh=>body n (by simp at h;omega) hn.2 λ_ _=>rfl);have h:=cU h;have e:ao (n+281474976710656)=n+281474976710656:=wI;rw [e];exact body _ ab ab λq hq=>acx n q hq
def AF{w:World}{s1:Sl}{l:List Int}(hl:RdK w s1 1 (l.map iv))(hn:∀x ∈ l,ER x)(dN:l.length<=10000):ah 90 #[s1] w λe w'=>∃s:Sl,e=s/\m4 w w' s (mG l)/\Ext w w':=by
 apply Iv.vc;have Ml:s1.n=l.length:=by rw [hl.n,aN]
 refine ⟨λn x sl wr=>∃k:Nat,x=k/\k+n=l.length/\Ap w w ⟨none,0,0⟩ wr sl (mG (l.take k)),⟨l.length,0,rfl,by omega,Ap.refl aE.nil (aC _)⟩,?_⟩;rintro n us x sl wr ⟨k,rfl,hk,ha⟩;apply Br.mk<;>intro hq
 ·have hq:=cU hq;obtain ⟨y,hy⟩:=bE (l:=l) (i:=k) ab;have kF:RdK wr s1 1 (l.map iv):=hl.ext ha.bel;have hyi:(l.map iv)[k]? =some (iv y):=by rw [aR,hy];rfl
  have kf:=kF.at hyi (j:=0) (v:=.int .i64 y) rfl;rw [dn] at kf;refine ⟨kF.im aF ab hq,y,kf,(Dl y (hn y (aX hy)) wr).mono ?_⟩;rintro e w8 ⟨s9,rfl,ho9,x8⟩;have hn9:s9.n=(DP y).length:=by rw [(ho9.rd aF).n,aN]
  obtain ⟨hp,hr⟩:=(ha.ext x8).app (DP y) (by rw [rG,dK,uK];omega);refine ⟨s9,rfl,_,(ho9.rd aF).flat aF,by rw [hn9];exact hp,λCt dj r12=> ?_⟩;rw [hn9] at r12;obtain ⟨h1,-⟩:=hr Ct dj r12;refine ⟨n-1,by omega,k+1,by rw [wI];omega,by omega,?_⟩;rw [JV hy];exact h1
 ·have hq:=cU hq;have:k=l.length:=by omega
  subst this;rw [iR] at ha;exact ⟨sl,rfl,ha.own,ha.bel⟩
abbrev Xr:=Int × ee
abbrev xrL(x:Xr):LV:=.int .i64 x.1::jO x.2
def FV(now:Int)(xs:List Xr)(ws:List fh.It):List Int:=dJ now xs.length++(xs.map λx=>gC x.1 x.2).flatten++vC ws
def kB{w:World}{s:Sl}{k:Nat}{rows:List (LV)}(h:RdK w s k rows){i:Nat}{r:LV}(hi:rows[i]? =some r){off:Nat}{vs:LV}(hv:∀j,j<vs.length->r[off+j]? =vs[j]?):af w (ae (ae s.a (i*k)) off) 0 vs:=
 mI λj hj=>by have e:=hv j hj;have hs:vs[j]? =some vs[j]:=dm hj;rw [hs] at e ⊢;have:=h.at hi (j:=off+j) e;rw [dn,eK];exact this
def amY:∀l:List Xr,(l.map λx=>gC x.1 x.2).flatten.length=50*l.length
 | []=>rfl
 |x::l=>by rw [fu,kV,dv,GV,amY l,du];omega
set_option maxHeartbeats 4000000 in
def Rj{now:Int}{sx sw:Sl}{xs:List Xr}{ws:List fh.It}{w:World}(hx:RdK w sx 10 (xs.map xrL))(hw:RdK w sw 4 (ws.map fV))(agT:ER now)(hxn:xs.length<=16)(hwn:ws.length<=4096)
  (hxb:∀x ∈ xs,(0<=x.1/\x.1<16)/\∀n ∈ kJ x.2,ER n)(hwb:∀x ∈ ws,∀n ∈ [x.1,x.2.1,x.2.2.1,x.2.2.2],ER n):
  ah 34 #[.agg #[now,sx,sw]] w λe w'=>∃sl:Sl,e=Value.slice sl.a sl.n sl.c/\m4 w w' sl (FV now xs ws)/\Ext w w':=by
 apply (P8.vc (ar:=sx) (au:=sw));have hnx:sx.n=xs.length:=by rw [hx.n,aN]
 have hnw:sw.n=ws.length:=by rw [hw.n,aN]
 intro w0 e0;have x0:=aQ e0;have z0:=zA e0;have r0:∃τ,Row w0 w [now,sx,sw] τ:=⟨_,by rw [e0];exact Row.new w [_,_,_] _⟩;obtain ⟨τ,r0⟩:=r0;refine (Dl now agT w0).mono ?_;rintro e w1 ⟨s2,rfl,AS,x1⟩;have z1:=x1.size;refine ⟨s2,rfl,x1.heap ab,λw3 e3=> ?_⟩;have ew:fi ((sx.n:Nat):Int)=(xs.length:Int) % 256:=by rw [wrap_u8,hnx]
 rw [ew] at e3 ⊢;have a1:Ap w0 w1 s2 w1 s2 (DP now):=Ap.refl AS x1.size;obtain ⟨hp3,hr3⟩:=a1.jk [(xs.length:Int) % 256] (by rw [uK];simp) e3;have z3:=zA e3;have n2w:s2.bf≠some w.heap.size:=λq=>by have:=(AS.own.lt q).1;omega
 refine ⟨hp3,λs4 w5 r5=> ?_⟩;obtain ⟨a5,k5,m5,b5,z5⟩:=hr3 s4 w5 r5;replace a5:Ap w0 w1 s2 w5 s4 (dJ now xs.length):=a5;have QL:Ext w0 w5:=x1.trans a5.bel;have n4w:s4.bf≠some w.heap.size:=eV b5 n2w ab;have n41:s4.bf≠some w1.heap.size:=eV b5 (a1.ne (aC _)) ab;have ht7:(dJ now xs.length).length=7:=rfl;have A5:Ap w0 w5 s4 w5 s4 (dJ now xs.length):=Ap.refl a5.own ab;refine ⟨m5 _ n2w ab,k5,?_⟩;refine ⟨λn x sl wr=>∃k:Nat,x=k/\k+n=xs.length/\Ap w0 w5 s4 wr sl (dJ now xs.length++((xs.take k).map λx=>gC x.1 x.2).flatten),⟨xs.length,rfl,rfl,0,rfl,by omega,by rw [CO];show Ap _ _ _ _ _ (_++ []);rw [q8];exact A5⟩,?_⟩;rintro n us x yN bg ⟨k,rfl,hk,a11⟩;have z11:=a11.bel.size;have Zx:Ext w0 bg:=QL.trans a11.bel;have lr:(dJ now xs.length++((xs.take k).map λx=>gC x.1 x.2).flatten).length<=1000:=by rw [dv,amY,dK,ht7];omega
 have n10w:=a11.off n4w ab;have ahg:=a11.off n41 ab;apply Br.mk<;>intro hq
 ·have hq:=cU hq;obtain ⟨v,hv⟩:=bE (l:=xs) (i:=k) ab;obtain ⟨⟨hv0,aDt⟩,hvb⟩:=hxb v (aX hv);have hvr:(xs.map xrL)[k]? =some (xrL v):=by rw [aR,hv];rfl
  have hrd11:=hx.ext (x0.tr Zx);have eX:∀j,j<(jO v.2).length->(xrL v)[1+j]? =(jO v.2)[j]? :=λj _=>by rw [um,C2]
  have pc:=hrd11.im (i:=(k:Int)) aF ab hq;refine ⟨pc,bB.2 ⟨jj.2 (by rw [gL];exact pc.1),_,_,_,_,_,_,_,_,_,kB hrd11 hvr eX,λdP HI eP VC=> ?_⟩⟩;have dG:Ext bg eP:=(aQ HI).ag VC (aC _);have z23:eP.heap.size=bg.heap.size+1:=by rw [zR VC,zA HI]
  have hrd23:=hrd11.ext dG;have hin2:=hrd23.im (i:=(k:Int)) aF ab hq;refine ⟨hin2,bB.2 ⟨jj.2 (by rw [gL];exact hin2.1),_,hrd23.at hvr (j:=0) (v:=.int .i64 v.1) rfl,λcW yA=> ?_⟩⟩;have ei:fi v.1=v.1:=by rw [wrap_u8];omega
  rw [ei] at yA ⊢;obtain ⟨hp,hr⟩:=(a11.ext dG).jk [v.1] (by rw [du,mH];omega) yA;have z25:=zA yA;refine ⟨hp,λRa dX r27=> ?_⟩;obtain ⟨a27,k27,m27,EI,z27⟩:=hr Ra dX r27;have aiC:yN.bf≠some bg.heap.size:=a11.ne (aC _);have apV:yN.bf≠some eP.heap.size:=a11.ne ab;refine ⟨m27 _ n10w ab,m27 _ ahg ab,m27 _ aiC ab,k27,λiw e28=> ?_⟩;have gm:=aQ e28;have z28:=zA e28;have hrd28:=rdI (l:=kJ v.2) e28;refine (AF hrd28 hvb (by show 8<=10000;decide)).mono ?_;rintro e dW ⟨ug,rfl,apW,gn⟩;have z29:=gn.size;have alu:ug.n=(mG (kJ v.2)).length:=by rw [(apW.rd aF).n,aN]
  have Uk:(mG (kJ v.2)).length=48:=by rw [rG];rfl
  obtain ⟨hp,hr⟩:=(a27.ext (gm.tr gn)).app (mG (kJ v.2)) (by rw [dv,Uk,du,mH];omega);refine ⟨ug,rfl,gn.heap ab,gn.heap ab,gn.heap ab,gn.heap ab,_,(apW.rd aF).flat aF,by rw [alu];exact hp,λwA eT r33=> ?_⟩;rw [alu] at r33;obtain ⟨a33,m33,b33,z33⟩:=hr wA eT r33;have n26w:Ra.bf≠some w.heap.size:=eV EI n10w ab;have alF:Ra.bf≠some w1.heap.size:=eV EI ahg ab;have ad6:Ra.bf≠some bg.heap.size:=eV EI aiC ab;have ad7:Ra.bf≠some eP.heap.size:=eV EI apV ab;have aDx:(dJ now xs.length++((xs.take k).map λx=>gC x.1 x.2).flatten++ [v.1]++mG (kJ v.2)).length<=2000:=by rw [dv,Uk,dv,du,mH];omega
  have wk:=nS (j:=k);have endS:∀(st:Int),st=stB v.2.ir->∀{v':World} {c:Sl},Ap w0 w5 s4 v' c (dJ now xs.length++((xs.take k).map λx=>gC x.1 x.2).flatten++ [v.1]++mG (kJ v.2)++ [st])->Ap w0 w5 s4 v' c (dJ now xs.length++((xs.take (k+1)).map λx=>gC x.1 x.2).flatten):=λst gM {v' c} h=>by rw [vD (λx:Xr=>gC x.1 x.2) hv];unfold gC;rw [gM] at h;simp only [gK,List.cons_append,aac] at h ⊢;exact h
  have q1:fi 1=1:=by decide
  have q0:fi 0=0:=by decide
  refine ⟨m33 _ n26w ab,m33 _ alF ab,m33 _ ad6 ab,m33 _ ad7 ab,Br.mk (λhb=> ?_) (λhb=> ?_)⟩
  ·rw [q1];intro jf e34;obtain ⟨hp,hr⟩:=a33.jk [1] (by rw [du,mH];omega) e34;have z34:=zA e34;refine ⟨hp,λs35 kG r36=> ?_⟩;obtain ⟨a36,k36,m36,b36,z36⟩:=hr s35 kG r36;exact ⟨m36 _ (eV b33 n26w ab) ab,m36 _ (eV b33 alF ab) ab,m36 _ (eV b33 ad6 ab) ab,m36 _ (eV b33 ad7 ab) ab,k36,n-1,by omega,rfl,rfl,k+1,wk,by omega,endS 1 (by rw [hb];rfl) a36⟩
  ·rw [q0];intro gw ZE;obtain ⟨hp,hr⟩:=a33.jk [0] (by rw [du,mH];omega) ZE;have z37:=zA ZE;refine ⟨hp,λs38 kx r39=> ?_⟩;obtain ⟨a39,k39,m39,b39,z39⟩:=hr s38 kx r39;exact ⟨m39 _ (eV b33 n26w ab) ab,m39 _ (eV b33 alF ab) ab,m39 _ (eV b33 ad6 ab) ab,m39 _ (eV b33 ad7 ab) ab,k39,n-1,by omega,rfl,rfl,k+1,wk,by omega,endS 0 (by rw [hb];rfl) a39⟩
 ·have hq:=cU hq;have hk':k=xs.length:=by omega
  subst hk';rw [iR] at a11 lr;have alp:(if 2000<((sw.n:Nat):Int) then 2000 else ((sw.n:Nat):Int))=((min ws.length 2000:Nat):Int):=by rw [hnw];split<;>omega
  rw [alp];have eb1:fi (ao (Int.tdiv ((min ws.length 2000:Nat):Int) 256))=((min ws.length 2000:Nat):Int) / 256 % 256:=by rw [rj ab,wI,wrap_u8]
  have eb2:fi (Int.tmod ((min ws.length 2000:Nat):Int) 256)=((min ws.length 2000:Nat):Int) % 256:=by rw [CT ab,wrap_u8];omega
  rw [eb1,eb2];intro jP TN;obtain ⟨hp,hr⟩:=a11.jk [((min ws.length 2000:Nat):Int) / 256 % 256,((min ws.length 2000:Nat):Int) % 256] (by rw [du,du,mH];omega) TN;have z40:=zA TN;refine ⟨hp,λMB lj r42=> ?_⟩;obtain ⟨a42,k42,m42,b42,z42⟩:=hr MB lj r42;have n41w:=eV b42 n10w ab;have awX:=eV b42 ahg ab;have apX:=eV b42 (a11.ne (aC _)) ab
  let W:=ws.take 2000
  have hW:W.length=min ws.length 2000:=by rw [dK,Nat.min_comm]
  have A42:Ap w0 lj MB lj MB (dJ now xs.length++(xs.map λx=>gC x.1 x.2).flatten++ [((min ws.length 2000:Nat):Int) / 256 % 256,((min ws.length 2000:Nat):Int) % 256]):=Ap.refl a42.own (by have:=a42.bel.size;omega);have QX:Ext w0 lj:=QL.trans a42.bel;rw [<-hW];rw [<-hW] at A42;refine ⟨m42 _ n10w ab,m42 _ ahg ab,k42,λn x sl wr=>∃k:Nat,x=k/\k+n=W.length/\Ap w0 lj MB wr sl (dJ now xs.length++(xs.map λx=>gC x.1 x.2).flatten++ [((W.length:Nat):Int) / 256 % 256,((W.length:Nat):Int) % 256]++((W.take k).map iB).flatten),⟨W.length,rfl,rfl,rfl,0,rfl,by omega,by rw [CO];show Ap _ _ _ _ _ (_++ []);rw [q8];exact A42⟩,?_⟩;rintro n2 yI x EN gj ⟨k,rfl,hk,QU⟩;have z48:=QU.bel.size;have IC:Ext w0 gj:=QX.trans QU.bel;apply Br.mk<;>intro hq
  ·have hq:=cU hq;have hkW:k<W.length:=by omega
   obtain ⟨it,ZI⟩:=bE hkW;have ahc:ws[k]? =some it:=by have h2:W[k]? =ws[k]? :=List.getElem?_take_of_lt ab;rw [<-h2];exact ZI
   have dy:(ws.map fV)[k]? =some (fV it):=by rw [aR,ahc];rfl
   have hrd48:=hw.ext (x0.tr IC);have pc:=hrd48.im (i:=(k:Int)) aF ab ab;refine ⟨pc,bB.2 ⟨jj.2 (by rw [gL];exact pc.1),_,_,_,kB hrd48 dy (off:=1) (vs:=[.int .i64 it.2.1,.int .i64 it.2.2.1,.int .i64 it.2.2.2]) (λj _=>by rw [um,C2]),λUh e53 Hy e54=> ?_⟩⟩;have qp:Ext gj Hy.drew:=((aQ e53).ag e54 (aC _)).drew;have z54:Hy.drew.heap.size=gj.heap.size+1:=by show Hy.heap.size=_;rw [zR e54,zA e53]
   have hrd54:=hrd48.ext qp;have awZ:Ext gj Hy:=(aQ e53).ag e54 (aC _);have hin2:=(hrd48.ext awZ).im (i:=(k:Int)) aF ab ab;refine ⟨hin2,bB.2 ⟨jj.2 (by rw [gL];exact hin2.1),_,hrd54.at dy (j:=0) (v:=.int .i64 it.1) rfl,λqH e56=> ?_⟩⟩;have sX:=aQ e56;have z56:=zA e56;have hrd56:=rdI (l:=[it.1,it.2.1,it.2.2.1,it.2.2.2]) e56;refine (AF hrd56 (hwb it (aX ahc)) cp).mono ?_;rintro e mR ⟨mV,rfl,Up,oo⟩;have z57:=oo.size;have ahb:mV.n=(iB it).length:=by rw [(Up.rd aF).n,aN];rfl
   have a57:=QU.ext (qp.tr (sX.tr oo));have avU:(dJ now xs.length++(xs.map λx=>gC x.1 x.2).flatten++ [((W.length:Nat):Int) / 256 % 256,((W.length:Nat):Int) % 256]++((W.take k).map iB).flatten).length+24<=100000:=by have QQ:(W.take k).length=k:=List.length_take_of_le ab;rw [dv,dv,LZ,QQ];show _+2+_+24<=_;omega
   obtain ⟨hp,hr⟩:=a57.app (iB it) (by rw [Dg];omega);have par:∀{u:World},Ext w0 u->af u (dC w.heap.size 2) 0 [sw]:=λxu=>m7 (r0.ext xu) rfl
   refine ⟨mV,rfl,oo.heap ab,oo.heap ab,oo.heap ab,oo.heap ab,par (IC.tr (qp.tr (sX.tr oo))),_,(Up.rd aF).flat aF,by rw [ahb];exact hp,λUq px r61=> ?_⟩;rw [ahb] at r61;obtain ⟨a61,m61,b61,z61⟩:=hr Uq px r61;refine ⟨m61 _ (QU.off n41w ab) ab,m61 _ (QU.off awX ab) ab,m61 _ (QU.off apX ab) ab,m61 _ (QU.ne (aC _)) ab,par (QX.trans a61.bel),n2-1,by omega,rfl,rfl,rfl,k+1,by rw [wI];omega,by omega,?_⟩;rw [vD iB ZI,<-gK];exact a61
  ·have hq:=cU hq;have hk':k=W.length:=by omega
   subst hk';rw [iR] at QU;refine ⟨EN,rfl,?_,x0.tr (QX.trans QU.bel)⟩;have e:FV now xs ws=dJ now xs.length++(xs.map λx=>gC x.1 x.2).flatten++ [((W.length:Nat):Int) / 256 % 256,((W.length:Nat):Int) % 256]++(W.map iB).flatten:=by unfold FV vC;rw [<-gK,hW]
   rw [e];exact aE.low QU.own ab
def jd(n:Int)(w:World):ah 141 #[n] w λe w'=>e=Value.int .i64 (cT n)/\w'=w:=by
 apply XX.vc;unfold cT;refine Br.mk (λh=> ?_) (λh=>Br.mk (λh2=> ?_) (λh2=> ?_))
 ·have h:=cU h;exact ⟨by rw [show min (max n (-140737488355328)) 140737488355328=140737488355328 from by omega],rfl⟩
 ·have h2:=cU h2;exact ⟨by rw [show min (max n (-140737488355328)) 140737488355328= -140737488355328 from by omega],rfl⟩
 ·have h:=cU h;have h2:=cU h2;exact ⟨by rw [show min (max n (-140737488355328)) 140737488355328=n from by omega],rfl⟩
def uU(n:Int)(w:World):ah 84 #[n] w λe w'=>e=Value.int .i64 (cc n)/\w'=w:=by apply PH.vc;refine (jd n w).mono ?_;rintro e w0 ⟨rfl,rfl⟩;refine ⟨_,rfl,(Fp (cT n) 65536 (by have:=ka n;unfold bN;omega) aF w0).mono ?_⟩;rintro e w2 ⟨rfl,rfl⟩;exact ⟨_,rfl,rfl,rfl⟩
def abO(v:Ce)(w:World):ah 30 #[eE v] w λe w'=>e=(eE (bq v))/\Ext w w':=by apply abP.vc;intro w0 e0 w1 e1;have x0:=aQ e0;have z0:=zA e0;have r0:∃τ,Row w0 w (eg v) τ:=⟨_,by rw [e0];exact Row.new w [_,_,_] _⟩;have x1:Ext w0 w1.drew:=(aQ e1).drew;obtain ⟨τ,r0⟩:=r0;have r1:=r0.ext x1;refine (uU v.1 w1.drew).mono ?_;rintro e w2 ⟨rfl,hw⟩;subst hw;refine ⟨_,rfl,rfl,rfl,m7 r1 rfl,m7 r1 rfl,(uU v.2.1 _).mono ?_⟩;rintro e w2 ⟨rfl,hw⟩;subst hw;refine ⟨_,rfl,rfl,rfl,m7 r1 rfl,(uU v.2.2 _).mono ?_⟩;rintro e w2 ⟨rfl,hw⟩;subst hw;exact ⟨_,rfl,rfl,rfl,λw8 e8=>⟨rfl,(x0.tr x1).ag e8 ab⟩⟩
def vB(a b:Int)(w:World):ah 142 #[a,b] w λe w'=>e=Value.int .i64 (fK a b)/\w'=w:=by apply XY.vc;refine (jd a w).mono ?_;rintro e w0 ⟨rfl,rfl⟩;refine ⟨_,rfl,(jd b _).mono ?_⟩;rintro e w0 ⟨rfl,rfl⟩;have ha:=ka a;have hb:=ka b;refine ⟨_,rfl,?_⟩;rw [aK (n:=cT a+cT b) (by unfold bN;omega)];refine (jd _ _).mono ?_;rintro e w0 ⟨rfl,rfl⟩;exact ⟨_,rfl,rfl,rfl⟩
def XZ(a b:Int)(w:World):ah 181 #[a,b] w λe w'=>e=Value.int .i64 (jV a b)/\w'=w:=by apply X0.vc;refine (jd a w).mono ?_;rintro e w0 ⟨rfl,rfl⟩;refine ⟨_,rfl,(jd b _).mono ?_⟩;rintro e w0 ⟨rfl,rfl⟩;have ha:=ka a;have hb:=ka b;refine ⟨_,rfl,?_⟩;rw [aK (n:=cT a-cT b) (by unfold bN;omega)];refine (jd _ _).mono ?_;rintro e w0 ⟨rfl,rfl⟩;exact ⟨_,rfl,rfl,rfl⟩
def Kd(a b:Ce)(w:World):ah 85 #[eE a,eE b] w λe w'=>e=(eE (jW a b))/\Ext w w':=by apply X1.vc;intro w0 e0 w1 e1 w2 e2;have x0:=aQ e0;have z0:=zA e0;have r0:∃τ,Row w0 w (eg a) τ:=⟨_,by rw [e0];exact Row.new w [_,_,_] _⟩;have x1:=aQ e1;have z1:=zA e1;have r1:∃τ,Row w1 w0 (eg b) τ:=⟨_,by rw [e1];exact Row.new w0 [_,_,_] _⟩;have x2:Ext w1 w2.drew:=(aQ e2).drew;obtain ⟨τ,r0⟩:=r0;obtain ⟨τ',r1⟩:=r1;have ra:=r0.ext (x1.tr x2);have rb:=r1.ext x2;refine (vB a.1 b.1 w2.drew).mono ?_;rintro e w3 ⟨rfl,hw⟩;subst hw;refine ⟨_,rfl,rfl,rfl,rfl,m7 rb rfl,m7 ra rfl,m7 rb rfl,m7 ra rfl,(vB a.2.1 b.2.1 _).mono ?_⟩;rintro e w3 ⟨rfl,hw⟩;subst hw;refine ⟨_,rfl,rfl,rfl,rfl,m7 rb rfl,m7 ra rfl,(vB a.2.2 b.2.2 _).mono ?_⟩;rintro e w3 ⟨rfl,hw⟩;subst hw;exact ⟨_,rfl,rfl,rfl,rfl,λw9 e9=>⟨rfl,(x0.tr (x1.tr x2)).ag e9 ab⟩⟩
def SZ(v:Ce)(i:Int)(w:World):ah 180 #[eE v,i] w λe w'=>e=Value.int .i64 (dA v i)/\Ext w w':=by
 apply Tk.vc;intro w0 e0;have x0:=aQ e0;unfold dA;refine Br.mk (λh=> ?_) (λh=>Br.mk (λh2=> ?_) (λh2=>Br.mk (λh3=> ?_) (λh3=> ?_)))
 ·rw [if_pos (by simpa using h)];exact ⟨rfl,x0⟩
 ·rw [if_neg (by simpa using h),if_pos (by simpa using h2)];exact ⟨rfl,x0⟩
 ·rw [if_neg (by simpa using h),if_neg (by simpa using h2),if_pos (by simpa using h3)];exact ⟨rfl,x0⟩
 ·rw [if_neg (by simpa using h),if_neg (by simpa using h2),if_neg (by simpa using h3)];exact ⟨rfl,x0⟩
def Tm(a b:Bx):jc a b=(decide (a.1.1<b.2.1) && decide (a.1.2.1<b.2.2.1) && decide (a.1.2.2<b.2.2.2) && decide (b.1.1<a.2.1) && decide (b.1.2.1<a.2.2.1) && decide (b.1.2.2<a.2.2.2)):=by
 unfold jc ovK;have e0:∀v:Ce,dA v 0=v.1:=λ_=>rfl
 have e1:∀v:Ce,dA v 1=v.2.1:=λ_=>rfl
 have e2:∀v:Ce,dA v 2=v.2.2:=λ_=>rfl
 simp only [e0,e1,e2]
 cases decide (a.1.1<b.2.1)<;>cases decide (a.1.2.1<b.2.2.1)<;>cases decide (a.1.2.2<b.2.2.2)<;>cases decide (b.1.1<a.2.1)<;>cases decide (b.1.2.1<a.2.2.1)<;>cases decide (b.1.2.2<a.2.2.2)<;>rfl
def Iq(a b:Bx)(w:World):ah 179 #[su a,su b] w λe w'=>e=Value.bool (jc a b)/\Ext w w':=by
 apply Ir.vc;intro w0 e0 w1 e1;have x1:Ext w w1:=(aQ e0).bF e1;rw [Tm];apply Br.mk<;>intro h1<;>apply Br.mk<;>intro h2<;>first|(apply Br.mk<;>intro h3)|skip
 all_goals (repeat' (first|(apply Br.mk<;>intro h<;>rw [h])))
 all_goals (first|rw [h1]|skip)
 all_goals (first|rw [h2]|skip)
 all_goals (first|rw [h3]|skip)
 all_goals exact ⟨by simp,x1⟩
def amT(n:Int):jV n 0=cT n:=by unfold jV cT;omega
set_option maxHeartbeats 2000000 in
def PI(aD:Ce)(wd h:Int)(hw:bN wd)(w:World):ah 128 #[eE aD,wd,.int .i64 h] w λe w'=>e=(su (xJ aD wd h))/\Ext w w':=by
 apply PJ.vc;intro w0 e0 w1 e1;have x0:=aQ e0;have z0:=zA e0;have r0:∃τ,Row w0 w (eg aD) τ:=⟨_,by rw [e0];exact Row.new w [_,_,_] _⟩;have x1:Ext w0 w1.drew:=(aQ e1).drew;obtain ⟨τ,r0⟩:=r0;have r1:=r0.ext x1;have jQ:=x0.tr x1;rw [ahn hw,amw h];have e:su (xJ aD wd h)=.agg #[(jV aD.1 (max wd 0 / 2)),(cT aD.2.1),(jV aD.2.2 (max wd 0 / 2)),(fK aD.1 (max wd 0 / 2)),.int .i64 (fK aD.2.1 (max h 0)),(fK aD.2.2 (max wd 0 / 2))]:=by rw [<-amT aD.2.1];rfl
 rw [e];have A:∀(a b:Int) {u:World} {R:Ending->World->Prop},R (.returned (.int .i64 (fK a b))) u->ah 142 #[.int .i64 a,.int .i64 b] u R:=λa b u R h=>(vB a b u).mono (by rintro e w' ⟨rfl,rfl⟩;exact h)
 have S:∀(a b:Int) {u:World} {R:Ending->World->Prop},R (.returned (.int .i64 (jV a b))) u->ah 181 #[.int .i64 a,.int .i64 b] u R:=λa b u R h=>(XZ a b u).mono (by rintro e w' ⟨rfl,rfl⟩;exact h)
 have C:∀(a:Int) {u:World} {R:Ending->World->Prop},R (.returned (.int .i64 (cT a))) u->ah 141 #[.int .i64 a] u R:=λa u R h=>(jd a u).mono (by rintro e w' ⟨rfl,rfl⟩;exact h)
 repeat' (first
  |refine A _ _ ?_
  |refine S _ _ ?_
  |refine C _ ?_
  |refine ⟨_,rfl,rfl,rfl,?_⟩
  |refine ⟨m7 r1 rfl,?_⟩
  |exact λw' e'=>⟨rfl,jQ.ag e' ab⟩
  |refine ⟨?_,?_⟩)
def B6(b:ee)(hh: -1000000000<=b.ht/\b.ht<=1000000000)(h0:0<=b.ht)(w:World):ah 31 #[Er b] w λe w'=>e=(eE (iS b))/\Ext w w':=by
 apply X2.vc;intro w0 e0 w1 e1;have x0:=aQ e0;have z0:=zA e0;have r0:∃τ,Row w0 w (jO b) τ:=⟨_,by rw [e0];exact Row.new w [_,_,_,_,_,_,_,_,_] _⟩;have x1:Ext w0 w1.drew:=(aQ e1).drew;have z1:w1.drew.heap.size=w0.heap.size+1:=by show w1.heap.size=_;exact zA e1
 obtain ⟨τ,r0⟩:=r0;have r1:=r0.ext x1;have jQ:=x0.tr x1;have e4:ao (b.ht*4)=b.ht*4:=wI;rw [e4];refine (Fp (b.ht*4) 5 (by unfold bN;omega) aF w1.drew).mono ?_;rintro e w2 ⟨rfl,hw⟩;subst hw;have e5:b.ht*4 / 5=Int.tdiv (b.ht*4) 5:=by rw [rj ab]
 rw [e5];refine ⟨_,rfl,rfl,rfl,m7 r1 rfl,sD r1 rfl rfl rfl,(Kd b.aD (0,Int.tdiv (b.ht*4) 5,0) _).mono ?_⟩;rintro e w4 ⟨rfl,x4⟩;have z4:=x4.size;exact ⟨_,_,_,rfl,x4.heap ab,x4.heap ab,m7 (r1.ext x4) rfl,λw8 e8=>⟨rfl,(jQ.tr x4).ag e8 ab⟩⟩
def Be(b:ee)(hw:bN b.wd)(w:World):ah 70 #[Er b] w λe w'=>e=(su b.box)/\Ext w w':=by apply X3.vc;intro w0 e0 w1 e1;have x0:=aQ e0;have z0:=zA e0;have x1:=aQ e1;have z1:=zA e1;refine (PI b.aD b.wd b.ht hw w1).mono ?_;rintro e w2 ⟨rfl,x2⟩;have z2:=x2.size;exact ⟨_,_,_,_,_,_,rfl,x2.heap ab,x2.heap ab,λw9 e9=>⟨rfl,(x0.tr (x1.tr x2)).ag e9 ab⟩⟩
def PK(a b:Bx)(w:World):ah 125 #[su a,su b] w λe w'=>e=Value.bool (jc a b)/\Ext w w':=by apply PL.vc;intro w0 e0 w1 e1;have x0:=aQ e0;have z0:=zA e0;have x1:=aQ e1;have z1:=zA e1;refine (Iq a b w1).mono ?_;rintro e w2 ⟨rfl,x2⟩;have z2:=x2.size;exact ⟨_,rfl,x2.heap ab,x2.heap ab,rfl,x0.tr (x1.tr x2)⟩
def iL(c:Ce):Ce:=(3+cm c.1 10,6+cm c.2.1 14,3+cm c.2.2 10)
def IX(c:Ce):Ce:=(196608+cm c.1 589825,589824+cm c.2.1 589825,196608+cm c.2.2 589825)
def tO(n:Int):Int:=if n<0 then n else abQ n
def r6(c:Ce)(hc:pW c)(w:World):ah 28 #[eE c] w λe w'=>e=(eE (iL c))/\Ext w w':=by
 apply Tn.vc;intro w0 e0 w1 e1;have x0:=aQ e0;have r0:∃τ,Row w0 w (eg c) τ:=⟨_,by rw [e0];exact Row.new w [_,_,_] _⟩;have z0:=zA e0;have x1:Ext w0 w1.drew:=(aQ e1).drew;obtain ⟨τ,r0⟩:=r0;have r1:=r0.ext x1;obtain ⟨h1,h2,h3⟩:=hc;have A:∀(a m:Int) {u:World} {R:Ending->World->Prop},bN a->0<m->bN m->R (.returned (.int .i64 (cm a m))) u->ah 10 #[.int .i64 a,.int .i64 m] u R:=λa m u R ha hm hi h=>(c8 a m u ha hm hi).mono (by rintro e w' ⟨rfl,rfl⟩;exact h)
 have b1:=bM c.1 10 aF;have b2:=bM c.2.1 14 aF;have b3:=bM c.2.2 10 aF;refine A _ _ h1 aF (by unfold bN;omega) ⟨_,rfl,rfl,rfl,m7 r1 rfl,m7 r1 rfl,A _ _ h2 aF (by unfold bN;omega) ⟨_,rfl,rfl,rfl,m7 r1 rfl,A _ _ h3 aF (by unfold bN;omega) ⟨_,rfl,rfl,rfl,λw8 e8=>⟨?_,(x0.tr x1).ag e8 ab⟩⟩⟩⟩;rw [aK (n:=3+cm c.1 10) (by unfold bN;omega),aK (n:=6+cm c.2.1 14) (by unfold bN;omega),aK (n:=3+cm c.2.2 10) (by unfold bN;omega)];rfl
def ES(c:Ce)(hc:pW c)(w:World):ah 52 #[eE c] w λe w'=>e=(eE (IX c))/\Ext w w':=by
 apply To.vc;intro w0 e0 w1 e1;have x0:=aQ e0;have r0:∃τ,Row w0 w (eg c) τ:=⟨_,by rw [e0];exact Row.new w [_,_,_] _⟩;have z0:=zA e0;have x1:Ext w0 w1.drew:=(aQ e1).drew;obtain ⟨τ,r0⟩:=r0;have r1:=r0.ext x1;obtain ⟨h1,h2,h3⟩:=hc;have A:∀(a m:Int) {u:World} {R:Ending->World->Prop},bN a->0<m->bN m->R (.returned (.int .i64 (cm a m))) u->ah 10 #[.int .i64 a,.int .i64 m] u R:=λa m u R ha hm hi h=>(c8 a m u ha hm hi).mono (by rintro e w' ⟨rfl,rfl⟩;exact h)
 have b1:=bM c.1 589825 aF;have b2:=bM c.2.1 589825 aF;have b3:=bM c.2.2 589825 aF;refine A _ _ h1 aF (by unfold bN;omega) ⟨_,rfl,rfl,rfl,m7 r1 rfl,m7 r1 rfl,A _ _ h2 aF (by unfold bN;omega) ⟨_,rfl,rfl,rfl,m7 r1 rfl,A _ _ h3 aF (by unfold bN;omega) ⟨_,rfl,rfl,rfl,λw8 e8=>⟨?_,(x0.tr x1).ag e8 ab⟩⟩⟩⟩;rw [aK (n:=196608+cm c.1 589825) (by unfold bN;omega),aK (n:=589824+cm c.2.1 589825) (by unfold bN;omega),aK (n:=196608+cm c.2.2 589825) (by unfold bN;omega)];rfl
def ky(n:Int)(hn:bN n)(w:World):ah 56 #[n] w λe w'=>e=Value.int .i64 (tO n)/\w'=w:=by
 apply PM.vc;unfold tO;apply Br.mk<;>intro h
 ·rw [if_pos (by simpa using h)];exact ⟨rfl,rfl⟩
 ·rw [if_neg (by simpa using h)];refine (DY n w hn).mono ?_;rintro e w0 ⟨rfl,rfl⟩;exact ⟨_,rfl,rfl,rfl⟩
end Go.Proofs.YtkkkfkopcfdmaaaGreatDoor
