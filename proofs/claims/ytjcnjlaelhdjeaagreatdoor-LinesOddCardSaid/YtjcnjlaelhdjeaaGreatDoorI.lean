import Derived.Test.YtjcnjlaelhdjeaaGreatDoorH
import Derived.Test.YtjcnjlaelhdjeaaGreatDoorD
import Derived.Test.YtjcnjlaelhdjeaaGreatDoorE
set_option linter.all false
namespace Go.Proofs.YtjcnjlaelhdjeaaGreatDoor
open Go Go.Vc Go.RowKit Go.Proofs Go.bW Go.aN Go.Code Go.dS Go.ej Go.fY
set_option maxRecDepth 100000
set_option maxHeartbeats 8000000
def eN(v:Ce):Ce:=Gl (λ_ n=>dD n) v
def aaU(v:Ce)(w:au):ed 310 #[fQ v] w ((fQ (eN v))):=by
 apply ain.B;intro w0 e0 w1 e1;have x0:=aU e0;have z0:=zA e0;have x1:=aU e1;have z1:=zA e1;refine(vO (λ_ n=>dD n) v (.func (.func 353) #[] #[]) w1 λw' x' i x _ _=>bR (by kernel_rfl) rfl (ZL.B ((gV x w').mono ?_))).mono ?_
 ·rintro e w2 ⟨rfl,rfl⟩;exact⟨_,rfl,rfl,Ext.M _⟩
 rintro e w2 ⟨rfl,x2⟩;have z2:=x2.size;exact⟨_,_,_,rfl,x2.k,x2.k,λw6 e6=>⟨rfl,(x0.A (x1.A x2)).L e6 U⟩⟩
def wZ(n:Int):Int:=min (max n (-1048576)) 1048576
def anh(n:Int):(if 1048576<(if(-1048576)>n then(-1048576)else n)then 1048576 else(if(-1048576)>n then(-1048576)else n))=wZ n:=by
 unfold wZ
 repeat' split
 all_goals omega
def yw(n:Int)(w:au):kh 354 #[n] w (S (wZ n)):=by apply ZM.B;exact⟨by rw[anh],rfl⟩
def j9(v:Ce):Ce:=(wZ v.1,wZ v.2.1,wZ v.2.2)
def aaV(v:Ce)(w:au):ed 311 #[fQ v] w ((fQ (j9 v))):=by apply aio.B;intro w0 e0 w1 e1;have x0:=aU e0;have z0:=zA e0;have r0:Row w0 w (eV v) iq:=Row.nw e0;have x1:Ext w0 w1.drew:=(aU e1).drew;have r1:=r0.ext x1;refine(yw v.1 w1.drew).V ?_;refine⟨_,rfl,rfl,rfl,xG r1 rfl,xG r1 rfl,(yw v.2.1 w1.drew).V ?_⟩;refine⟨_,rfl,rfl,rfl,xG r1 rfl,(yw v.2.2 w1.drew).V ?_⟩;exact⟨_,rfl,rfl,rfl,λw8 e8=>⟨rfl,(x0.A x1).L e8 U⟩⟩
abbrev Sd:=Int×Int
def RV(a b:Sd):aX:=if a.2=0\/b.2=0 then decide (0<a.2)else decide (I (a.1*b.2)<I (b.1*a.2))
def RW(a b:Sd)(w:au):ed 315 #[.agg #[a.1,a.2],.agg #[b.1,b.2]] w (eL (RV a b)):=by
 apply U1.B;intro w0 e0 w1 e1;have x1:Ext w w1:=(aU e0).aZ e1;unfold RV;refine Z.mk (λh=>⟨?_,x1⟩) (λh=>Z.mk (λh2=>⟨?_,x1⟩) (λh2=>⟨?_,x1⟩))
 ·rw[if_pos (Or.inl (ds h))]
 ·rw[if_pos (Or.inr (ds h2))]
 ·rw[if_neg (by
   have h1:=eK h;have h3:=eK h2;rintro(h|h)
   ·exact h1 h
   ·exact h3 h)]
def sS(a b r:Int):aX:=decide (I (a-b)<=r)&&decide (I (b-a)<=r)
def yx(a b r:Int){g:Nat}{τ:aB}{w:au}(hr:Row w g [r] τ):kh 356 #[a,b,g] w (eL (sS a b r)):=by apply M8.B;unfold sS;refine⟨r,hr.at 0 rfl,Z.mk (λh=>⟨r,hr.at 0 rfl,by rw[h,oU],rfl⟩) (λh=>⟨by rw[h,C9],rfl⟩)⟩
def mK(a b:Ce)(r:Int):aX:=sS a.1 b.1 r&&(sS a.2.1 b.2.1 r&&sS a.2.2 b.2.2 r)
def N2(a b:Ce)(r:Int)(w:au):ed 314 #[fQ a,fQ b,r] w (eL (mK a b r)):=by apply U2.B;intro w0 e0 w1 e1 w2 e2;have x2:Ext w w2:=((aU e0).aZ e1).aZ e2;have r2:∃τ,Row w2 w1 [r] τ:=⟨_,a1b⟩;have⟨τ,r2⟩:=r2;unfold mK;refine(yx a.1 b.1 r r2).V ?_;refine⟨_,rfl,rfl,rfl,Z.mk (λh=>(yx a.2.1 b.2.1 r r2).mono ?_) (λh=>⟨by rw[h,C9],x2⟩)⟩;rintro e w5 ⟨rfl,rfl⟩;refine⟨_,rfl,rfl,rfl,Z.mk (λh2=>(yx a.2.2 b.2.2 r r2).mono ?_) (λh2=>⟨by rw[h,h2];rfl,x2⟩)⟩;rintro e w7 ⟨rfl,rfl⟩;exact⟨_,rfl,rfl,rfl,by rw[h,h2,oU,oU],x2⟩
def aeU(a b:Int)(ha:0<=a/\a<=1000000000)(hb:0<b/\b<=1048576)(w:au):ed 316 #[a,b] w (bT #[.int .i64 (a*65536/b),J]):=by
 apply ZO.B;refine(vG a w).mono ?_;rintro e w0 ⟨rfl,rfl⟩;have ca:dD a=a:=oz U;have cb:dD b=b:=oz U;rw[ca];refine⟨_,_,rfl,(vG b w0).mono ?_⟩;rintro e w3 ⟨rfl,rfl⟩;rw[cb];have aBF:(2^(min (16:Int).toNat 64):Int)=65536:=by decide
 have ma:max a (-a)=a:=by omega
 have mb:max b (-b)=b:=by omega
 rw[ma,mb];have na:decide (a<0)=false:=by simpa using ha.1
 have nb:decide (b<0)=false:=by simpa using Int.le_of_lt hb.1
 refine⟨_,_,rfl,Z.mk (λh=>absurd (by simpa using h:b=0) U) (λh=>?_)⟩;have hn0:∀q∈WN b,q:=λq hq=>by
  unfold WN at hq;rw[if_neg U]at hq
  cases hq
 rw[aBF,xJ (n:=a*65536) U,na,nb];have hd:Int.tdiv (a*65536) b=a*65536/b:=uI U;have h1:0<=a*65536/b:=Int.ediv_nonneg U U;have h2:a*65536/b<=a*65536:=Int.ediv_le_self _ U;rw[hd,xJ (n:=a*65536/b) U];refine bO.2 ⟨hn0,bO.2 ⟨hn0,(Gn (a*65536/b) U _ _ w3.drew).mono ?_⟩⟩;rintro e w6 ⟨rfl,x6⟩;exact⟨_,rfl,rfl,(Ext.K _).A x6⟩
def aix{w:au}{g:Nat}{cs:LV}{E:aB}(hr:Row w g cs E){j:Nat}{a b:aC}(hj:j+2<=cs.length)(ha:a.oneCell'=true)(hb:b.oneCell'=true): Wr w (N (O g) j) 2/\∀w',w'=Vc.bB w (N (O g) j) [a,b]->Row w' g ((cs.set j a).set (j+1) b) E/\Mod (λi=>i=g) w w':=by
 rw[aF,eF];have h1:One [a,b]:=by
  intro u hu;simp at hu;rcases hu with rfl|rfl
  ·exact ha
  ·exact hb
 refine⟨hr.wr hj,λw' e=>?_⟩;rw[hr.bB (ds hj) h1]at e;subst e;exact⟨hr.set _,rfl,rfl,rfl,a05,λi _ hn=>setRow_other _ _ _ _ hn⟩
abbrev S3:=Sd×Sd×Sd
abbrev Ej(s:S3):LV:=[S s.1.1,S s.1.2,S s.2.1.1,S s.2.1.2,S s.2.2.1,S s.2.2.2]
abbrev TP:aB:=342
def aeT(s:S3):One (Ej s):=by intro v hv;simp at hv;rcases hv with rfl|rfl|rfl|rfl|rfl|rfl<;>rfl
def yP(f d:Ce)(i:Int):Sd:=if dj d i>0 then(I (65536-uL (dj f i)),dj d i)else(uL (dj f i),I (0-dj d i))
def y_(f d:Ce):Nat->S3
 |0=>((0,0),(0,0),(0,0))
 |1=>(yP f d 0,(0,0),(0,0))
 |2=>(yP f d 0,yP f d 1,(0,0))
 |_=>(yP f d 0,yP f d 1,yP f d 2)
def VG(f d:Ce)(w:au):ed 313 #[fQ f,fQ d] w (vI (Ej (y_ f d 3)).toArray):=by
 apply ZN.B;intro w0 e0 w1 e1 w2 e2 w3 e3;have x0:=aU e0;have z0:=zA e0;have x1:=aU e1;have z1:=zA e1;have r1:Row w1 w0 (eV d) iq:=Row.nw e1;have x2:=aU e2;have z2:=zA e2;have r2:Row w2 w1 (Ej ((0,0),(0,0),(0,0))) TP:=Row.nw e2;have x3:=aU e3;have z3:=zA e3;have r3:Row w3 w2 (Ej ((0,0),(0,0),(0,0))) TP:=Row.nw e3;have OL:=x0.A (x1.A (x2.A x3));refine⟨λn x wr=>∃k:Nat,x=k/\k+n=3/\Row wr w2 (Ej (y_ f d k)) TP/\Row wr w1 (Ej ((0,0),(0,0),(0,0))) TP/\Row wr w0 (eV d) iq/\Ext w wr,⟨3,rfl,rfl,0,rfl,rfl,r3,r2.ext x3,r1.ext (x2.A x3),OL⟩,?_⟩;rintro n us x w8 ⟨k,rfl,hk,rl,ro,rd,xr⟩;have zl:=rl.lt;apply Z.mk<;>intro hc
 ·have hc:=eK hc;have H6:k=0\/k=1\/k=2:=by omega
  have wk:=nE (j:=k);have xd:=Ext.K w8;have zd:=nV w8;refine(cW f k w8.drew).F λbr bL=>?_
  have z10:=bL.size;refine⟨_,rfl,bL.k,bL.k,Lo.wv (rd.ext (xd.A bL)),(cW d k br).F λbN cr=>?_⟩;have z12:=cr.size;have WI:=xd.A (bL.A cr);refine⟨_,rfl,cr.k,cr.k,(BH (dj f k) bN).V ?_⟩;have⟨p1,p2⟩:=aix (rl.ext WI) (j:=(k:Int).toNat*2) (a:=S (uL (dj f k))) (b:=S (I (0-dj d k))) (by show _<=6;omega) rfl rfl;refine⟨_,rfl,rfl,rfl,U,U,⟨rfl,p1⟩,qu U,qu U,λbZ CH=>?_⟩;have⟨q1,q2⟩:=p2 bZ CH;have z16:=q2.size;have aul:Ext w bZ:=q2.ext (xr.A WI) λi hi=>by omega
  have apK:=(ro.ext WI).same (q2.same _ (ro.ext WI).lt U);have ON:=(rd.ext WI).same (q2.same _ (rd.ext WI).lt U);refine Z.mk (λhq=>(BH (dj f k) bZ).mono ?_) (λhq=>⟨n-1,U,rfl,rfl,k+1,wk,U,?_,apK,ON,aul⟩)
  ·rintro e cP ⟨rfl,rfl⟩;have⟨p3,p4⟩:=aix q1 (j:=(k:Int).toNat*2) (a:=S (I (65536-uL (dj f k)))) (b:=S (dj d k)) (by rw[lO,lO];show _<=6;omega) rfl rfl;refine⟨_,rfl,rfl,rfl,U,U,⟨rfl,p3⟩,qu U,qu U,λfm Td=>?_⟩;have⟨q3,q4⟩:=p4 fm Td;have hq:=eK hq;have hs:yP f d k=(I (65536-uL (dj f k)),dj d k):=by unfold yP;rw[if_pos hq]
   refine⟨n-1,U,rfl,rfl,k+1,wk,U,?_,apK.same (q4.same _ apK.lt U),ON.same (q4.same _ ON.lt U),q4.ext aul λi hi=>by omega⟩;rcases H6 with rfl|rfl|rfl
   ·have hs:yP f d 0=_:=hs;show Row fm _ (Ej (yP f d 0,(0,0),(0,0))) TP;rw[hs];exact q3
   ·have hs:yP f d 1=_:=hs;show Row fm _ (Ej (yP f d 0,yP f d 1,(0,0))) TP;rw[hs];exact q3
   ·have hs:yP f d 2=_:=hs;show Row fm _ (Ej (yP f d 0,yP f d 1,yP f d 2)) TP;rw[hs];exact q3
  ·have hq:=eK hq;have hs:yP f d k=(uL (dj f k),I (0-dj d k)):=by unfold yP;rw[if_neg hq]
   rcases H6 with rfl|rfl|rfl
   ·have hs:yP f d 0=_:=hs;show Row bZ _ (Ej (yP f d 0,(0,0),(0,0))) TP;rw[hs];exact q1
   ·have hs:yP f d 1=_:=hs;show Row bZ _ (Ej (yP f d 0,yP f d 1,(0,0))) TP;rw[hs];exact q1
   ·have hs:yP f d 2=_:=hs;show Row bZ _ (Ej (yP f d 0,yP f d 1,yP f d 2)) TP;rw[hs];exact q1
 ·have hc:=eK hc;have H6:k=3:=by omega
  subst H6;refine⟨_,_,_,_,_,_,Lo.wv rl,⟨rfl,ro.wr bo⟩,pD U,pD U,λkN TB=>?_⟩;rw[ro.bB (vs:=Ej (y_ f d 3)) bo (aeT (y_ f d 3)),dC bo]at TB;have r26:Row kN w1 (Ej (y_ f d 3)) TP:=ro.st TB;exact⟨_,_,_,_,_,_,Lo.wv r26,rfl,xr.L TB U⟩
def iz(s:S3):Nat->Sd
 |0=>s.1
 |1=>s.2.1
 |_=>s.2.2
def KG(s:S3)(i:Nat)(x:Sd):S3:=
 match i with
 |0=>(x,s.2.1,s.2.2)
 |1=>(s.1,x,s.2.2)
 |_=>(s.1,s.2.1,x)
def eM(s:S3):Nat->Nat
 |0=>0
 |k+1=>if RV (iz s k) (iz s (eM s k))=true then k else eM s k
def NJ(s:S3):∀k:Nat,eM s k<k\/eM s k=0
 |0=>.inr rfl
 |k+1=>by
  unfold eM
  have:=NJ s k
  split<;>omega
def at3(s:S3):eM s 3=0\/eM s 3=1\/eM s 3=2:=a1N (NJ s 3)
abbrev Hi:=Ce×Int×Int
def H'(c:Ce):Nat->Ce
 |0=>(c.1-1,c.2.1,c.2.2)
 |1=>(c.1+1,c.2.1,c.2.2)
 |2=>(c.1,c.2.1-1,c.2.2)
 |3=>(c.1,c.2.1+1,c.2.2)
 |4=>(c.1,c.2.1,c.2.2-1)
 |_=>(c.1,c.2.1,c.2.2+1)
def iU(d:Ce)(s:S3)(h:Hi):Option (S3×Hi):=
 if(iz s (eM s 3)).2=0 then none
 else some (KG s (eM s 3) ((iz s (eM s 3)).1+65536,(iz s (eM s 3)).2),(H' h.1 (if dj d (eM s 3)>0 then 2*eM s 3+1 else 2*eM s 3),(if dj d (eM s 3)>0 then 2*(eM s 3:Int)else 2*(eM s 3:Int)+1),(iz s (eM s 3)).1*65536/(iz s (eM s 3)).2))
def H_(d c0:Ce)(r:Int):Nat->S3->Hi->List Hi
 |0,_,_=>[]
 |n+1,s,h=>if mK c0 h.1 r=true then h::(match iU d s h with|none=>[]|some q=>H_ d c0 r n q.1 q.2)else []
def yh(x:Int):Int:=max x (-x)
def N1(k:Nat)(x:Sd)(d o:Int):Prop:=x.2=yh d/\(0<=x.1/\x.1<=65536*(k+1))/\(0<d->0<=o)/\(d<=0->o<=0)
def wY(d c0:Ce)(k:Nat)(s:S3)(c:Ce):Prop:=
 (N1 k s.1 d.1 (c.1-c0.1)/\N1 k s.2.1 d.2.1 (c.2.1-c0.2.1)/\N1 k s.2.2 d.2.2 (c.2.2-c0.2.2))/\yh (c.1-c0.1)+yh (c.2.1-c0.2.1)+yh (c.2.2-c0.2.2)=k
def Rl{d c0:Ce}{k:Nat}{s:S3}{h:Hi}(hr:wY d c0 k s h.1){q:S3×Hi}(hq:iU d s h=some q):wY d c0 (k+1) q.1 q.2.1:=by
 have⟨⟨⟨h1,h2,h3,h4⟩,⟨g1,g2,g3,g4⟩,⟨f1,f2,f3,f4⟩⟩,hs⟩:=hr;have⟨⟨s1,s2⟩,⟨t1,t2⟩,⟨u1,u2⟩⟩:=s;have⟨⟨cx,cy,cz⟩,face,time⟩:=h;unfold iU at hq;split at hq
 ·cases hq
 rename_i gl;injection hq with hq;subst hq;rcases at3 ((s1,s2),(t1,t2),(u1,u2))with e|e|e
 ·rw[e]at gl⊢;have a0:dj d ((0:Nat):Int)=d.1:=rfl;rw[a0];simp only[iz,KG]at gl h1 h2 h3 h4 g1 g2 g3 g4 f1 f2 f3 f4 hs⊢;unfold wY N1 yh;unfold yh at h1 g1 f1 hs;split
  ·show(_/\_)/\_;simp only[H'];omega
  ·show(_/\_)/\_;simp only[H'];omega
 ·rw[e]at gl⊢;have a0:dj d ((1:Nat):Int)=d.2.1:=rfl;rw[a0];simp only[iz,KG]at gl h1 h2 h3 h4 g1 g2 g3 g4 f1 f2 f3 f4 hs⊢;unfold wY N1 yh;unfold yh at h1 g1 f1 hs;split
  ·simp only[H'];omega
  ·simp only[H'];omega
 ·rw[e]at gl⊢;have a0:dj d ((2:Nat):Int)=d.2.2:=rfl;rw[a0];simp only[iz,KG]at gl h1 h2 h3 h4 g1 g2 g3 g4 f1 f2 f3 f4 hs⊢;unfold wY N1 yh;unfold yh at h1 g1 f1 hs;split
  ·simp only[H'];omega
  ·simp only[H'];omega
def aaK{d c0 c:Ce}{k:Nat}{s:S3}{r:Int}(hr:wY d c0 k s c)(h0:(-2000000000<=c0.1/\c0.1<=2000000000)/\(-2000000000<=c0.2.1/\c0.2.1<=2000000000)/\-2000000000<=c0.2.2/\c0.2.2<=2000000000)(hk:k<=1000)(hw:mK c0 c r=true):(k:Int)<=3*r:=by obtain⟨-,hs⟩:=hr;unfold yh at hs;unfold mK sS at hw;simp only[fF,cC]at hw;rw[wI,wI,wI,wI,wI,wI]at hw;omega
abbrev Q'(h:Hi):aC:=.agg #[h.1.1,h.1.2.1,h.1.2.2,J,h.2.1,h.2.2]
def lj(f d:Ce)(r:Int):List Hi:=H_ d (ba f) r (3*r.toNat+2) (y_ f d 3) (ba f,-1,0)
abbrev V'(f d:Ce)(r:Int):List (LV):=(lj f d r).map λh=>[Q' h]
abbrev arh(g:Nat):aC:=.func (.func 312) #[] #[g,.pointer (some ⟨g+1,0,none⟩),.pointer (some ⟨g+2,0,none⟩)]
section
variable{w:au}{g a:Nat}{s:S3}{E:aB}(hr:Row w g (Ej s) E)
def pU(ha:a=0\/a=1\/a=2):ah w (N (O g) ((a:Int).toNat*2)) 0 [S (iz s a).1,S (iz s a).2]:=by
 rw[aF,eF];rcases ha with rfl|rfl|rfl
 all_goals
  refine hr.y λj hj=>?_
  match j,hj with
  |0,_=>rfl
  |1,_=>rfl
def ldA(hr:Row w g (Ej s) E)(ha:a=0\/a=1\/a=2):Vc.ld w (N (N (O g) ((a:Int).toNat*2)) 0)=some (S (iz s a).1):=a1H
def ldB(hr:Row w g (Ej s) E)(ha:a=0\/a=1\/a=2):Vc.ld w (N (N (O g) ((a:Int).toNat*2)) 1)=some (S (iz s a).2):=a1H
def amu(ha:a=0\/a=1\/a=2)(x:Int): Wr w (N (N (O g) ((a:Int).toNat*2)) 0) 1/\∀w',w'=Vc.bB w (N (N (O g) ((a:Int).toNat*2)) 0) [x]->Row w' g (Ej (KG s a (x,(iz s a).2))) E/\Mod (λi=>i=g) w w':=by
 have e:N (N (O g) ((a:Int).toNat*2)) 0=N (O g) ((a:Int).toNat*2):=by rw[aF,aF];rfl
 rw[e];have⟨p1,p2⟩:=hr.ft (j:=(a:Int).toNat*2) (v:=S x) (by show _<6;omega) rfl;refine⟨p1,λw' e'=>?_⟩;have⟨q1,q2⟩:=p2 w' e';refine⟨?_,q2⟩;rcases ha with rfl|rfl|rfl<;>exact q1
variable{c:ae}
def sT{w':au}(e:w'=w.setRow g c):Mod (λi=>i=g) w w':=by subst e;exact⟨rfl,rfl,rfl,a05,λi _ hn=>setRow_other _ _ _ _ hn⟩
def X3(c:Ce){j:Nat}(hj:j<6):((TN c).drop ((j:Int).toNat*3)).take 3=eV (H' c j):=by
 have:j=0\/j=1\/j=2\/j=3\/j=4\/j=5:=by omega
 rcases this with rfl|rfl|rfl|rfl|rfl|rfl<;>rfl
def axd(d:Ce):dj d ((0:Nat):Int)=d.1/\dj d ((1:Nat):Int)=d.2.1/\dj d ((2:Nat):Int)=d.2.2:=⟨rfl,rfl,rfl⟩
def Rm{d c0 c:Ce}{k:Nat}(hr:wY d c0 k s c)(ha:a=0\/a=1\/a=2):N1 k (iz s a) (dj d a) (dj c a-dj c0 a):=by
 obtain⟨⟨h1,h2,h3⟩,-⟩:=hr;rcases ha with rfl|rfl|rfl
 ·exact h1
 ·exact h2
 ·exact h3
def Kx(f d:Ce)(hd:∀i:Nat,i<3-> -1048576<=dj d i/\dj d i<=1048576):wY d (ba f) 0 (y_ f d 3) (ba f):=by
 have h0:=hd 0 X;have h1:=hd 1 X;have h2:=hd 2 X;have⟨a0,a1,a2⟩:=axd d;rw[a0]at h0;rw[a1]at h1;rw[a2]at h2;have key:∀(i:Int)(q:Int),dj d i=q-> -1048576<=q/\q<=1048576->N1 0 (yP f d i) q 0:=λi q hq hb=>by
  have hf:0<=uL (dj f i)/\uL (dj f i)<65536:=by unfold uL;omega
  unfold yP N1 yh;rw[hq];split
  ·rw[wI];simp only;omega
  ·rw[wI];simp only;omega
 refine⟨⟨?_,?_,?_⟩,?_⟩
 ·rw[Int.sub_self];exact key 0 d.1 a0 h0
 ·rw[Int.sub_self];exact key 1 d.2.1 a1 h1
 ·rw[Int.sub_self];exact key 2 d.2.2 a2 h2
 ·rw[Int.sub_self,Int.sub_self,Int.sub_self];rfl
def VF(f d:Ce)(r:Int)(hf:(-1900000000<=(ba f).1/\(ba f).1<=1900000000)/\(-1900000000<=(ba f).2.1/\(ba f).2.1<=1900000000)/\-1900000000<=(ba f).2.2/\(ba f).2.2<=1900000000)(hd:∀i:Nat,i<3-> -1048576<=dj d i/\dj d i<=1048576)(hr:0<=r/\r<=64) (g:Nat)(W0:au)(h0:Row W0 g (eV f) iq)(h1:Row W0 (g+1) (eV d) iq)(h2:Row W0 (g+2) [r] 3): Iter ka5 (arh g) W0 (λi=>i=g\/i=g+1\/i=g+2) (V' f d r):=by
 refine⟨⟨_,_,_,rfl,by kernel_rfl⟩,?_⟩;intro y B a_ Jx F0 W hB hsJ hsX yQ hRd hround hJ0;refine bR (by kernel_rfl) (by rfl) ?_;apply QI.B;have q0:=h0.same (hRd g (.inl rfl)).2.2;have q1:=h1.same (hRd (g+1) (.inr (.inl rfl))).2.2;have q2:=h2.same (hRd (g+2) (.inr (.inr rfl))).2.2;refine⟨_,_,_,Lo.wv q0,_,_,_,Lo.wv q1,(VG f d W).F λw6 x6=>?_⟩;have z6:=x6.size;refine⟨_,_,_,_,_,_,rfl,λbw Dz=>?_⟩;have z13:=zA Dz;have r13:Row bw w6 (Ej ((0,0),(0,0),(0,0))) TP:=Row.nw Dz;refine⟨⟨rfl,r13.wr bo⟩,λcp yF=>?_⟩;rw[r13.bB (vs:=Ej (y_ f d 3)) bo (aeT (y_ f d 3)),dC bo]at yF;have r14:Row cp w6 (Ej (y_ f d 3)) TP:=r13.st yF;have z14:=zR yF;have cY:Ext w6 cp:=(aU Dz).L yF (ak _);refine⟨_,_,_,Lo.wv (q0.ext (x6.A cY)),(zH f cp).F λdA dc=>?_⟩;have z18:=dc.size;refine⟨_,_,_,rfl,λdh Dy jE e23 ie Jq dL OX=>?_⟩;have z22:=zA Dy;have z23:=zR e23;have z24:=zA Jq;have z25:=zR OX;have gG:Ext dA dL:=(((aU Dy).L e23 (ak _)).aZ Jq).L OX U;have xW:=x6.A (cY.A (dc.A gG));obtain⟨K,hK⟩:∃K:Nat->Prop,K=λi=>i=g\/i=g+1\/i=g+2\/i=w6.heap.size\/i=dA.heap.size\/i=jE.heap.size:=⟨_,rfl⟩
 obtain⟨P,hP⟩:∃P:Nat->S3->k_,P=λk s wr=>(∃F,a_ k F wr/\∀i,K i->¬F i/\i<wr.heap.size)/\(Row wr g (eV f) iq/\Row wr (g+1) (eV d) iq/\Row wr (g+2) [r] 3)/\Row wr w6 (Ej s) TP/\dL.heap.size<=wr:=⟨_,rfl⟩
 have ext:∀{k:Nat}{s:S3}{wr wr':au},P k s wr->Ext wr wr'->P k s wr':=λ{k s wr wr'} h x=>by rw[hP]at h⊢;have⟨⟨F,hJ,hk⟩,⟨a0,a1,a2⟩,a3,a4⟩:=h;exact⟨⟨F,hsJ _ _ _ _ hJ (Below.mono x U) λi hi=>x.heap (yQ _ _ _ hJ i hi),λi hi=>⟨(hk i hi).1,gK (hk i hi).2 x.size⟩⟩,⟨a0.ext x,a1.ext x,a2.ext x⟩,a3.ext x,cV a4 x.size⟩
 have glt:g+2<W.heap.size:=q2.lt;have ub:∀{k:Nat}{s s':S3}{wr wr':au}{b:Nat},P k s wr->Mod (λi=>i=b) wr wr'->(b=w6.heap.size\/b=dA.heap.size)->Row wr' w6 (Ej s') TP->P k s' wr':=λ{k s s' wr wr' b} h hm hb de=>by rw[hP]at h⊢;have⟨⟨F,hJ,hk⟩,⟨a0,a1,a2⟩,a3,a4⟩:=h;have KW:¬F b:=(hk b (by rw[hK];rcases hb with rfl|rfl<;>simp)).1;refine⟨⟨F,hsJ _ _ _ _ hJ (hm.below U λi hi=>by rcases hb with rfl|rfl<;>omega) λi hi=>hm.same i (yQ _ _ _ hJ i hi) λq=>KW (q▸hi),λi hi=>⟨(hk i hi).1,gK (hk i hi).2 hm.size⟩⟩,⟨a0.same (hm.same _ a0.lt U),a1.same (hm.same _ a1.lt U),a2.same (hm.same _ a2.lt U)⟩,de,cV a4 hm.size⟩
 have init:P 0 (y_ f d 3) dL:=by
  rw[hP];refine⟨⟨F0,hsJ _ _ _ _ hJ0 (Below.mono xW U) λi hi=>xW.heap (yQ _ _ _ hJ0 i hi),λi hi=>?_⟩,⟨q0.ext xW,q1.ext xW,q2.ext xW⟩,r14.ext (dc.A gG),ak _⟩;rw[hK]at hi;have hF:∀i,F0 i->i<W.heap.size:=λi hi=>yQ _ _ _ hJ0 i hi
  rcases hi with hi|hi|hi|hi|hi|hi
  ·exact⟨(hRd i (.inl hi)).1,U⟩
  ·exact⟨(hRd i (.inr (.inl hi))).1,U⟩
  ·exact⟨(hRd i (.inr (.inr hi))).1,U⟩
  ·exact⟨λq=>a1N (hF i q),U⟩
  ·exact⟨λq=>a1N (hF i q),U⟩
  ·exact⟨λq=>a1N (hF i q),U⟩
 have round:∀{k:Nat}{s:S3}{wr:au}{x:LV},(V' f d r)[k]? =some x->P k s wr->bu ka5 y x wr λe w'=>((e=true/\P (k+1) s w')\/(e=false/\∃F',Jx () F' w'))/\w'.heap[dA.heap.size]? =wr.heap[dA.heap.size]?/\w'.heap[jE.heap.size]? =wr.heap[jE.heap.size]? :=λ{k s wr x} hx h=>by
  rw[hP]at h⊢;have⟨⟨F,hJ,hk⟩,⟨a0,a1,a2⟩,a3,a4⟩:=h;have kk:∀i,(i=g\/i=g+1\/i=g+2\/i=w6.heap.size\/i=dA.heap.size\/i=jE.heap.size)->K i:=λi hi=>by rw[hK];exact hi
  refine bJ (hround _ _ _ _ hx hJ) ?_;rintro e w' (⟨rfl,F2,WH,gm⟩|⟨rfl,F2,WH,gm⟩)
  ·have same:∀i,K i->w'.heap[i]? =wr.heap[i]? :=λi hi=>gm.same i (hk i hi).2 (hk i hi).1
   refine⟨.inl ⟨rfl,⟨F2,WH,λi hi=>⟨λhf=>?_,gK (hk i hi).2 gm.size⟩⟩,⟨a0.same (same _ (kk _ bo)),a1.same (same _ (kk _ bo)),a2.same (same _ (kk _ bo))⟩,a3.same (same _ (kk _ bo)),cV a4 gm.size⟩,same _ (kk _ bo),same _ (kk _ bo)⟩;rcases gm.sub i hf with hf|hf
   ·exact(hk i hi).1 hf
   ·have:=(hk i hi).2;omega
  ·have same:∀i,K i->w'.heap[i]? =wr.heap[i]? :=λi hi=>gm.same i (hk i hi).2 (hk i hi).1
   exact⟨.inr ⟨rfl,F2,WH⟩,same _ (kk _ bo),same _ (kk _ bo)⟩
 have fin:∀{s:S3}{wr:au},P (V' f d r).length s wr->∃F',a_ (V' f d r).length F' wr:=λh=>by rw[hP]at h;obtain⟨⟨F,hJ,-⟩,-⟩:=h;exact⟨F,hJ⟩
 have rowL:∀{k:Nat}{s:S3}{wr:au},P k s wr->Row wr w6 (Ej s) TP:=λh=>by rw[hP]at h;exact h.2.2.1
 have rowD:∀{k:Nat}{s:S3}{wr:au},P k s wr->Row wr (g+1) (eV d) iq:=λh=>by rw[hP]at h;exact h.2.1.2.1
 have rowR:∀{k:Nat}{s:S3}{wr:au},P k s wr->Row wr (g+2) [r] 3:=λh=>by rw[hP]at h;exact h.2.1.2.2
 have hz:∀{k:Nat}{s:S3}{wr:au},P k s wr->dL.heap.size<=wr:=λh=>by rw[hP]at h;exact h.2.2.2
 have hxs:V' f d r=(H_ d (ba f) r (3*r.toNat+2) (y_ f d 3) (ba f,-1,0)).map λh=>[Q' h]:=rfl
 generalize V' f d r=xs at*;have hbegin:=Kx f d hd;generalize Er:ba f=c0 at*;refine⟨λn a b c z fc tm wr=>∃(k:Nat)(s:S3),P k s wr/\k+n=3*r.toNat+2/\wY d c0 k s (a,b,c)/\z=0/\∃pre:List (LV),pre.length=k/\xs=pre++(H_ d c0 r n s ((a,b,c),fc,tm)).map λh=>[Q' h],⟨3*r.toNat+2,rfl,0,y_ f d 3,init,U,hbegin,rfl,[],rfl,hxs⟩,?_⟩;rintro n us a b c z fc tm wr ⟨k,s,hp,Wb,hro,rfl,pre,S7,hx⟩;have zr:=hz hp;refine⟨_,(rowR hp).at 0 rfl,(N2 c0 (a,b,c) r wr).F λtH nC=>?_⟩;have Te:=ext hp nC;refine⟨_,rfl,nC.k,nC.k,Z.mk (λhw=>?_) (λhw=>?_)⟩
 ·have H6:=aaK hro U U hw;obtain⟨n,rfl⟩:∃n',n=n'+1:=⟨n-1,U⟩;have hgo:H_ d c0 r (n+1) s ((a,b,c),fc,tm)=((a,b,c),fc,tm)::(match iU d s ((a,b,c),fc,tm)with|none=>[]|some q=>H_ d c0 r n q.1 q.2):=by
   show(if mK c0 (a,b,c) r=true then _ else _)=_;rw[if_pos hw]
   all_goals (cases iU d s ((a,b,c),fc,tm)<;>rfl)
  rw[hgo]at hx;have hxk:xs[k]? =some [Q' ((a,b,c),fc,tm)]:=by rw[hx,pO U,S7,Nat.sub_self];rfl
  refine bJ (round hxk Te) ?_;rintro e nT ⟨hcase,k1,k2⟩;rcases hcase with⟨rfl,atX⟩|⟨rfl,hJx⟩
  ·refine⟨true,rfl,k1,k2,Z.mk (λq=>by cases q) (λ_=>?_)⟩;have z40:=hz atX;refine⟨λm i at_ wr=>∃j:Nat,i=j/\j+m=3/\at_=eM s j/\P (k+1) s wr,⟨3,rfl,rfl,0,rfl,rfl,rfl,atX⟩,?_⟩;rintro m us i at_ Yi ⟨j,rfl,hjm,rfl,WG⟩;have z2:=hz WG;have haj:eM s j<j\/eM s j=0:=NJ s j;apply Z.mk<;>intro hc
   ·have hc:=eK hc;have hj3:j=0\/j=1\/j=2:=by omega
    have Ou:eM s j=0\/eM s j=1\/eM s j=2:=by omega
    have hpd:=ext WG (Ext.K Yi);have zd:=nV Yi;refine⟨U,U,_,_,pU (rowL hpd) hj3,U,U,_,_,pU (rowL hpd) Ou,(RW (iz s j) (iz s (eM s j)) Yi.drew).F λw53 lU=>?_⟩;have atY:=ext hpd lU;have wk:=nE (j:=j);refine⟨_,rfl,lU.k,lU.k,Z.mk (λq=>⟨m-1,U,rfl,rfl,j+1,wk,U,?_,atY⟩) (λq=>⟨m-1,U,rfl,rfl,j+1,wk,U,?_,atY⟩)⟩
    ·show((j:Nat):Int)=((if RV (iz s j) (iz s (eM s j))=true then j else eM s j:Nat):Int);rw[if_pos q]
    ·show((eM s j:Nat):Int)=((if RV (iz s j) (iz s (eM s j))=true then j else eM s j:Nat):Int);rw[if_neg (by rw[q];decide)]
   ·have hc:=eK hc;have:j=3:=by omega
    subst this;have Ou:=at3 s;have hside:=Rm hro Ou;have hnx:iU d s ((a,b,c),fc,tm)=if(iz s (eM s 3)).2=0 then none else some (KG s (eM s 3) ((iz s (eM s 3)).1+65536,(iz s (eM s 3)).2),(H' (a,b,c) (if dj d (eM s 3)>0 then 2*eM s 3+1 else 2*eM s 3),(if dj d (eM s 3)>0 then 2*(eM s 3:Int)else 2*(eM s 3:Int)+1),(iz s (eM s 3)).1*65536/(iz s (eM s 3)).2)):=rfl;have ab9:=λq (h:iU d s ((a,b,c),fc,tm)=some q)=>Rl hro h
    have hdd:=hd (eM s 3) U;generalize eM s 3=A at*;refine⟨U,U,_,ldB (rowL WG) Ou,Z.mk (λq=>?_) (λq=>?_)⟩
    ·have q:=eK q;rw[hnx,if_pos q]at hx;have:xs.length=k+1:=by rw[hx];simp[S7]
     rw[<-this]at WG;exact⟨⟨_,rfl⟩,.inl (fin WG)⟩
    ·have q:=eK q;rw[if_neg q]at hnx;rw[hnx]at hx;have ab9:=ab9 _ hnx;have⟨s1,s2,s3,s4⟩:=hside;have s2':0<=(iz s A).1/\(iz s A).1<=20000000:=by omega
     have hsp:0<(iz s A).2/\(iz s A).2<=1048576:=by unfold yh at s1;omega
     have hpd:=ext WG (Ext.K Yi);have zd:=nV Yi;refine⟨U,U,_,ldA (rowL hpd) Ou,U,U,_,ldB (rowL hpd) Ou,(aeU _ _ U hsp Yi.drew).F λvQ Fa=>?_⟩;have akj:=ext hpd Fa;have z58:=hz akj;have⟨p1,p2⟩:=amu (rowL akj) Ou (I ((iz s A).1+65536));refine⟨_,_,rfl,Fa.k,Fa.k,U,U,_,ldA (rowL akj) Ou,U,U,⟨rfl,p1⟩,?_,?_,λjU e62=>?_⟩
     ·rw[cB];exact qu U
     ·rw[cB];exact qu U
     have⟨q1,q2⟩:=p2 jU e62;rw[aL (n:=(iz s A).1+65536) j_]at q1;have apt:=ub akj q2 (.inl rfl) q1;have z62:=hz apt;refine⟨_,_,_,Lo.wv (rowD apt),(cW d A jU).F λvR rG=>?_⟩;have apu:=ext apt rG;have z66:=hz apu;have hwide:fh (a,b,c):=by unfold mK sS at hw;obtain⟨-,Ik⟩:=hro;unfold yh at Ik;unfold fh;simp only at Ik⊢;omega
     have w1:I (2*(A:Int))=2*(A:Int):=wI;have w2:I (2*(A:Int)+1)=((2*A+1:Nat):Int):=by rw[wI];omega
     have w3:I (2*(A:Int)+0)=((2*A:Nat):Int):=by rw[wI];omega
     have w4:I (((2*A+1:Nat):Int)-1)=2*(A:Int):=by rw[wI];omega
     have w5:I (((2*A+1:Nat):Int)-0)=2*(A:Int)+1:=by rw[wI];omega
     rw[w1,w2,w3,w4,w5];have hxx:∀y:List Hi,xs=pre++(((a,b,c),fc,tm)::y).map (λh=>[Q' h])->xs=(pre++[[Q' ((a,b,c),fc,tm)]])++y.map λh=>[Q' h]:=λy h=>by rw[h];simp
     refine⟨_,rfl,rG.k,rG.k,Z.mk (λhq=>(jt (a,b,c) hwide vR).mono ?_) (λhq=>(jt (a,b,c) hwide vR).mono ?_)⟩
     ·have hq:=eK hq;rw[if_pos hq,if_pos hq]at hx ab9;rintro e E8 ⟨rfl,vT⟩;have OP:=ext apu vT;have z68:=hz OP;refine⟨_,_,_,_,_,_,_,_,_,_,_,_,_,_,_,_,_,_,rfl,vT.k,vT.k,⟨U,U⟩,_,_,_,X3 (a,b,c) (j:=2*A+1) U,λrF e90=>?_⟩;have hm:=sT e90;refine⟨n,U,rfl,k+1,_,ub OP hm (.inr rfl) ((rowL OP).same (hm.same _ (rowL OP).lt U)),U,ab9,rfl,pre++[[Q' ((a,b,c),fc,tm)]],by simp[S7],hxx _ hx⟩
     ·have hq:=eK hq;rw[if_neg hq,if_neg hq]at hx ab9;rintro e E8 ⟨rfl,vT⟩;have OP:=ext apu vT;have z68:=hz OP;refine⟨_,_,_,_,_,_,_,_,_,_,_,_,_,_,_,_,_,_,rfl,vT.k,vT.k,⟨U,U⟩,_,_,_,X3 (a,b,c) (j:=2*A) U,λrF e90=>?_⟩;have hm:=sT e90;refine⟨n,U,rfl,k+1,_,ub OP hm (.inr rfl) ((rowL OP).same (hm.same _ (rowL OP).lt U)),U,ab9,rfl,pre++[[Q' ((a,b,c),fc,tm)]],by simp[S7],hxx _ hx⟩
  ·exact⟨false,rfl,k1,k2,Z.mk (λ_=>⟨⟨_,rfl⟩,.inr hJx⟩) (λq=>by cases q)⟩
 ·have hgo:H_ d c0 r n s ((a,b,c),fc,tm)=[]:=by
   cases n with
   |zero=>rfl
   |succ n=>
    show(if mK c0 (a,b,c) r=true then _ else _)=_;rw[if_neg (by rw[hw];decide)]
  rw[hgo]at hx;have:xs.length=k:=by rw[hx];simp[S7]
  rw[<-this]at Te;exact⟨⟨_,rfl⟩,.inl (fin Te)⟩
end
def X9{α:Type}(p:α->aX):∀(l:List α)(n:Nat)(x:α),l[n]? =some x->(∀y∈l.take n,p y=false)->p x=true->l.find? p=some x
 | [],n,x,h,_,_=>by simp at h
 |a::l,0,x,h,_,hp=>by
  have h:a=x:=by simpa using h
  subst h;rw[List.find?_cons_of_pos hp]
 |a::l,n+1,x,h,hn,hp=>by have ha:p a=false:=hn a bo;rw[List.find?_cons_of_neg (by rw[ha];decide)];exact X9 p l n x (ds h) (λy hy=>hn y (by simp[hy])) hp
def nt(r:Int):Int:=min (max r 0) 64
def VM(f d:Ce)(r:Int)(w:au):Y 252 #[fQ f,fQ d,r] w λe w'=>e=(arh w)/\Row w' w (eV (eN f)) iq/\Row w' (w+1) (eV (j9 d)) iq/\Row w' (w+2) [(nt r)] 3/\Ext w w':=by
 apply ZP.B;intro w0 e0 w1 e1 w2 e2;have x0:=aU e0;have z0:=zA e0;have r0:Row w0 w (eV f) iq:=Row.nw e0;have x1:=aU e1;have z1:=zA e1;have r1:Row w1 w0 (eV d) iq:=Row.nw e1;have x2:=aU e2;have z2:=zA e2;have r2:Row w2 w1 [r] 3:=Row.nw e2;have xd:=Ext.K w2;have zd:=nV w2;refine(aaU f w2.drew).F λw3 x3=>?_
 have z3:=x3.size;refine⟨_,_,_,rfl,x3.k,x3.k,x3.k,Lo.wv (r2.ext (xd.A x3)),Lo.wv (r1.ext (x2.A (xd.A x3))),(aaV d w3).F λw7 x7=>?_⟩;have z7:=x7.size;have y7:=xd.A (x3.A x7);have r27:=r2.ext y7;refine⟨_,_,_,rfl,x7.k,x7.k,x7.k,Lo.wv r27,λbE A8=>?_⟩;have r0':Row bE w (eV (eN f)) iq:=by rw[A8];exact Row.set (r0.ext (x1.A (x2.A y7))) [_,_,_]
 have r1':Row bE w0 (eV d) iq:=(r1.ext (x2.A y7)).same (by rw[A8];exact setRow_other _ _ _ _ U);have r2':Row bE w1 [r] 3:=r27.same (by rw[A8];exact setRow_other _ _ _ _ U);have bS:Ext w bE:=(x0.A (x1.A (x2.A y7))).L A8 (ak _);refine⟨Lo.wv r2',λbN ui=>?_⟩;have s1:Row bN w0 (eV (j9 d)) iq:=by rw[ui];exact Row.set r1' [_,_,_]
 have s0:=r0'.so ui;have s2:=r2'.so ui;have cr:Ext w bN:=bS.L ui U;refine⟨Lo.wv s2,λbw Dz=>?_⟩;have er:(if 64<(if 0>r then 0 else r)then 64 else(if 0>r then 0 else r))=nt r:=by
  unfold nt
  repeat' split
  all_goals omega
 rw[er]at Dz;have t2:Row bw w1 [(nt r)] 3:=s2.st Dz;have t0:=s0.so Dz;have t1:=s1.so Dz;rw[z0]at t1;rw[z1,z0]at t2;exact⟨by rw[z1,z0],t0,t1,t2,cr.L Dz U⟩
abbrev Rr:=Ce×Int×Int×Int
abbrev W_(h:Rr):aC:=.agg #[h.1.1,h.1.2.1,h.1.2.2,h.2.1,h.2.2.1,h.2.2.2]
def lh(V:Ce->Int)(f d:Ce)(r:Int):Rr×aX:=
 match (lj (eN f) (j9 d) (nt r)).find? (λh=> !mN (V h.1))with
 |some h=>((h.1,V h.1,h.2.1,h.2.2),true)
 |none=>(((0,0,0),0,0,0),false)
def abl{v:aC}{V:Ce->Int}{w:au}(hV:Tl v V w)(hv:kq v=[])(f d:Ce)(r:Int)(hf:(-1900000000<=(ba (eN f)).1/\(ba (eN f)).1<=1900000000)/\(-1900000000<=(ba (eN f)).2.1/\(ba (eN f)).2.1<=1900000000)/\-1900000000<=(ba (eN f)).2.2/\(ba (eN f)).2.2<=1900000000) (hok:∀h∈lj (eN f) (j9 d) (nt r),pQ h.1): ed 191 #[v,fQ f,fQ d,r] w (bT #[W_ (lh V f d r).1,.bool (lh V f d r).2]):=by
 apply ad1.B;rw[hv,uj];intro w0 e0 w1 e1 w2 e2 w3 e3 w4 e4;have x0:=aU e0;have z0:=zA e0;have x1:=aU e1;have z1:=zA e1;have x2:=aU e2;have z2:=zA e2;have x3:=aU e3;have z3:=zA e3;have x4:=aU e4;have z4:=zA e4;have E9:=x0.A (x1.A (x2.A (x3.A x4)));refine(VM f d r w4).mono ?_;rintro e w5 ⟨rfl,t0,t1,t2,x5⟩;have z5:=x5.size;have l5:=t2.lt;have Yt:=E9.A x5;have hdd:∀i:Nat,i<3-> -1048576<=dj (j9 d) i/\dj (j9 d) i<=1048576:=λi hi=>by
  have hc:∀n,-1048576<=wZ n/\wZ n<=1048576:=λn=>by unfold wZ;omega
  have:i=0\/i=1\/i=2:=by omega
  rcases this with rfl|rfl|rfl<;>exact hc _
 have hrr:0<=nt r/\nt r<=64:=by unfold nt;omega
 have hcast:lh V f d r=match (lj (eN f) (j9 d) (nt r)).find? (λh=> !mN (V h.1))with
  |some h=>((h.1,V h.1,h.2.1,h.2.2),true)
  |none=>(((0,0,0),0,0,0),false):=rfl
 have last:∀{w6 w7:au},Mod (λi=>i=w2.heap.size\/i=w3.heap.size\/w5.heap.size<=i) w5 w6->Rec w5 w6 w7->Ext w w7:=λhm hr=>by
  have hx:=hm.ext Yt λi hi=>a1k
  exact(Mod.oX hr).ext hx λi hi=>a1k
 refine⟨_,rfl,x5.k,x5.k,x5.k,x5.k,x5.k,V' (eN f) (j9 d) (nt r),λi=>i=w4.heap.size\/i=w4.heap.size+1\/i=w4.heap.size+2,λ_=>False,
  λn F a b c q s t bb w'=>(∀i,¬F i)/\(∀h∈(lj (eN f) (j9 d) (nt r)).take n,(!mN (V h.1))=false)/\Mod (λi=>w5.heap.size<=i) w5 w',
  λo F a b c q s t bb w'=>(∀i,¬F i)/\lh V f d r=(((a,b,c),q,s,t),bb)/\Mod (λi=>i=w2.heap.size\/i=w3.heap.size\/w5.heap.size<=i) w5 w',?_,?_,?_,λn F a b c q s t bb w' h i hi=>(h.1 i hi).elim,λo F a b c q s t bb w' h i hi=>(h.1 i hi).elim,λi hi=>?_,λue vt=>?_,?_,?_,?_⟩
 ·intro x hx;obtain⟨c,-,rfl⟩:=bc.1 hx;exact⟨_,_,_,_,_,_,rfl⟩
 ·rintro n F a b c q s t bb di dh ⟨h1,h2,h3⟩ kQ -;exact⟨h1,h2,h3.A ⟨kQ.os,kQ.tape,kQ.output,kQ.size,λi hi hn=>kQ.block i (C6 hn)⟩ λi hi=>.inl hi⟩
 ·rintro o F a b c q s t bb di dh ⟨h1,h2,h3⟩ kQ -;exact⟨h1,h2,h3.A ⟨kQ.os,kQ.tape,kQ.output,kQ.size,λi hi hn=>kQ.block i (C6 hn)⟩ λi hi=>.inl (.inr (.inr hi))⟩
 ·exact⟨U,id,U,U,U,U,U,trivial⟩
 ·exact⟨VF _ _ _ hf hdd hrr _ ue (t0.same (vt.ext.block _ U)) (t1.same (vt.ext.block _ U)) (t2.same (vt.ext.block _ U)),rfl,rfl,rfl,λi h=>h,λc hc=>by simp at hc,Mod.P vt.ext⟩
 ·rintro n F us a0 b0 c0 q0 s0 t0' bb a b c q s t yC hx hI vQ e58 pH TX;have Iv:Ext yC pH:=(aU e58).L TX (ak _);have z59:pH.heap.size=yC.heap.size+1:=by rw[zR TX,zA e58]
  have z56:=hI.2.2.size;refine⟨Iv,λnv fL agC=>?_⟩;have⟨hF,lp,hM⟩:=agC;have zr:=fL.size;obtain⟨h,hh,hval⟩:∃h:Hi,(lj (eN f) (j9 d) (nt r))[n]? =some h/\(a,b,c)=h.1/\q=0/\s=h.2.1/\t=h.2.2:=by
   rw[aW]at hx
   cases hg:(lj (eN f) (j9 d) (nt r))[n]? with
   |none=>rw[hg]at hx;cases hx
   |some h=>
    rw[hg]at hx;simp at hx;have⟨g1,g2,g3,g4,g5,g6⟩:=hx;exact⟨h,rfl,by rw[<-g1,<-g2,<-g3],g4.symm,g5.symm,g6.symm⟩
  obtain⟨hc,rfl,rfl,rfl⟩:=hval;have pL:=aQ hh;have aBu:pQ (a,b,c):=by rw[hc];exact hok h pL
  have z57:=hM.size;have ht:(lj (eN f) (j9 d) (nt r)).take (n+1)=(lj (eN f) (j9 d) (nt r)).take n++[h]:=by rw[dq,hh];rfl
  have⟨D,hD1,hD2⟩:=hV;refine bJ (hD2 nv (λi hi=>?_) (a,b,c) aBu) ?_
  ·exact a1M
  rintro e lV ⟨rfl,qF⟩;have z60:=qF.size;refine⟨_,rfl,qF.k,qF.k,qF.k,qF.k,qF.k,qF.k,(Du (V (a,b,c)) lV).F λjU aBv=>?_⟩;subst aBv;have Tu:=hM.trans (Mod.P qF);refine⟨_,rfl,rfl,rfl,rfl,rfl,rfl,rfl,Z.mk (λhq=>λH4 e64 O3 e65 vR e66=>?_) (λhq=>?_)⟩
  ·have hq':(!mN (V h.1))=true:=by rw[<-hc];exact hq
   have hfd:=X9 (λh:Hi=> !mN (V h.1)) _ n h hh lp hq';have hcast:lh V f d r=((h.1,V h.1,h.2.1,h.2.2),true):=by rw[hcast,hfd]
   have m1:=sT e64;have m2:=sT e65;have m3:=sT e66;have s1:=m1.size;have s2:=m2.size;have m:Mod (λi=>i=w2.heap.size\/i=w3.heap.size\/i=yC.heap.size) jU vR:=((m1.mono λi _ h=>.inr (.inr h)).trans (m2.mono λi _ h=>.inl h)).trans (m3.mono λi _ h=>.inr (.inl h));refine⟨rfl,λ_=>False,⟨rfl,rfl,rfl,λi h=>h,by rw[hcast,hc],(Tu.mono λi _ h=>.inr (.inr h)).trans (m.mono λi _ h=>?_)⟩,?_⟩
   ·rcases h with h|h|h
    ·exact .inl h
    ·exact .inr (.inl h)
    ·exact .inr (.inr U)
   ·have hm:=(Mod.P (F:=λi=>i=w2.heap.size\/i=w3.heap.size\/i=yC.heap.size) qF).trans m;refine⟨λi hi=>?_,hm.size,λi hi hn=>hm.same i hi λq=>hn ?_⟩
    ·rcases hi with h|h
     ·exact h.elim
     ·exact .inl (.inl (.inr h))
    ·rcases q with rfl|rfl|rfl
     ·exact .inl (.inr bo)
     ·exact .inl (.inr bo)
     ·exact .inr (ak _)
  ·have hq':(!mN (V h.1))=false:=by rw[<-hc];exact hq
   refine⟨λ_=>False,⟨rfl,rfl,rfl,λi h=>h,λx hx=>?_,Tu⟩,Step.late ⟨λi hi=>?_,qF.size,λi hi _=>qF.block i hi⟩⟩
   ·rw[ht,dp]at hx;rcases hx with hx|hx
    ·exact lp x hx
    ·rw[ig.1 hx];exact hq'
   ·rcases hi with h|h
    ·exact h.elim
    ·exact .inl (.inr h)
 ·rintro F us a b c q s t bb Iu ⟨hF,lp,hM⟩ hD sZ akf Jt aus;have z99:=hM.size;rw[show(V' (eN f) (j9 d) (nt r)).length=(lj (eN f) (j9 d) (nt r)).length from aK ..,kB]at lp;have hfd:(lj (eN f) (j9 d) (nt r)).find? (λh=> !mN (V h.1))=none:=QC.2 λx hx=>by rw[lp x hx];decide
  have hcast:lh V f d r=(((0,0,0),0,0,0),false):=by rw[hcast,hfd]
  have m1:=sT akf;have m2:=sT aus;have s1:=m1.size;have m:=(hM.mono (F':=λi=>i=w2.heap.size\/i=w3.heap.size\/w5.heap.size<=i) λi _ h=>.inr (.inr h)).trans ((m1.mono λi _ h=>.inl h).trans (m2.mono λi _ h=>.inr (.inl h)));refine⟨?_,λapb fL=>?_⟩
  ·rw[<-hD,aus,setRow_other _ _ _ _ U,akf,setRow_other _ _ _ _ U]
  ·rw[hcast];exact⟨rfl,last m fL⟩
 ·rintro F us a b c q s t bb Bh ⟨hF,hcv,hM⟩ hD;refine⟨hD,λWy fL=>?_⟩;rw[hcv];exact⟨rfl,last hM fL⟩
abbrev uw:aB:=64
abbrev j7:aB:=103
abbrev cQ:=eJ×(Int×Int×aX)
abbrev h_:=List (Option cQ)
abbrev Gf(x:cQ):LV:=[S x.1.aw.1,S x.1.aw.2.1,S x.1.aw.2.2,S x.1.speed.1,S x.1.speed.2.1,S x.1.speed.2.2,S x.1.wd,S x.1.ht,.bool x.1.fG,S x.2.1,S x.2.2.1,.bool x.2.2.2]
abbrev pA(a:Option Nat):aC:=.pointer (a.map λb=>⟨b,0,none⟩)
structure EL(w:au)(av:List (Option Nat))(L:h_):Prop where
 n:av.length=16
 m:L.length=16
 s:∀(i a:Nat),av[i]? =some (some a)->∃x,L[i]? =some (some x)/\Row w a (Gf x) j7
 z:∀i:Nat,av[i]? =some none->L[i]? =some none
 d:∀(i j a:Nat),av[i]? =some (some a)->av[j]? =some (some a)->i=j
def EF(F:Nat->Prop)(w:au)(g s o t:Nat)(M:Sm)(occ:aC)(L:h_):Prop:=
 ∃(Fs:Nat->Prop)(av:List (Option Nat)),Row w g (.pointer (O s)::av.map pA) uw/\SF Fs w s o t M occ/\EL w av L/\F=λi=>i=g\/Fs i\/some i∈av
abbrev dK(F:Nat->Prop)(w:au)(g s o t:Nat)(M:Sm)(occ:aC)(L:h_)(w':au):Prop:=∃F',EF F' w' g s o t M occ L/\aJ F F' w w'
def kM:(Pe uw/\uw≠Bu/\uw≠mU/\uw≠IW/\uw≠Q.nM/\uw≠Q.cc/\uw≠rV)/\(Pe j7/\j7≠Bu/\j7≠mU/\j7≠IW/\j7≠Q.nM/\j7≠Q.cc/\j7≠rV)/\uw≠j7:=by decide
def qA{av:List (Option Nat)}{a:Nat}(h:some a∈av):∃i:Nat,av[i]? =some (some a):=JT.1 h
section
variable{F F':Nat->Prop}{w w':au}{g s o t:Nat}{M M':Sm}{occ:aC}{L:h_}
def EL.same{av:List (Option Nat)}(h:EL w av L)(hk:∀a,some a∈av->w'.heap[a]? =w.heap[a]?):EL w' av L:=
 ⟨h.n,h.m,λi a hi=>by have⟨x,h1,h2⟩:=h.s i a hi;exact⟨x,h1,h2.same (hk a (aQ hi))⟩,h.z,h.d⟩
def EL.lt{av:List (Option Nat)}(h:EL w av L){a:Nat}(ha:some a∈av):a<w:=by have⟨i,hi⟩:=qA ha;obtain⟨x,-,h2⟩:=h.s i a hi;exact h2.lt
def EF.lt(h:EF F w g s o t M occ L){i:Nat}(hi:F i):i<w:=by
 obtain⟨Fs,av,h1,h2,h3,rfl⟩:=h;rcases hi with rfl|hi|hi
 ·exact h1.lt
 ·exact h2.lt hi
 ·exact h3.lt hi
def EF.same(h:EF F w g s o t M occ L)(hk:∀i,F i->w'.heap[i]? =w.heap[i]?):EF F w' g s o t M occ L:=by obtain⟨Fs,av,h1,h2,h3,rfl⟩:=h;exact⟨Fs,av,h1.same (hk _ (.inl rfl)),h2.same λi hi=>hk i (.inr (.inl hi)),h3.same λa ha=>hk a (.inr (.inr ha)),rfl⟩
def EF.ext(h:EF F w g s o t M occ L)(x:Ext w w'):EF F w' g s o t M occ L:=h.same λ_ hi=>x.heap (h.lt hi)
def EF.EN(h:EF F w g s o t M occ L):∃Fs,SF Fs w s o t M occ/\Vc.ld w (N (O g) 0)=some (.pointer (O s))/\(∀i,Fs i->F i)/\∀{w':au}{M':Sm}{occ':aC},ni Fs w s o t M' occ' w'->dK F w g s o t M' occ' L w':=by
 obtain⟨Fs,av,h1,h2,h3,rfl⟩:=h;refine⟨Fs,h2,h1.at 0 rfl,λi hi=>.inr (.inl hi),?_⟩;rintro w' M' occ' ⟨F',h',ht⟩;have ng:¬Fs g:=h2.pX h1 kM.1.1 kM.1.2.1 kM.1.2.2.1 kM.1.2.2.2.1 kM.1.2.2.2.2.1 kM.1.2.2.2.2.2.1 kM.1.2.2.2.2.2.2;have na:∀a,some a∈av->¬Fs a:=λa ha=>Pl
 refine⟨_,⟨F',av,ht.mod.row h1 ng,h',h3.same λa ha=>ht.mod.same a (h3.lt ha) (na a ha),rfl⟩,ht.mod.mono λi _ hi=>.inr (.inl hi),λi hi=>?_⟩;rcases hi with hi|hi|hi
 ·exact a0U
 ·exact(ht.sub i hi).imp (λq=>.inr (.inl q)) id
 ·exact .inl (.inr (.inr hi))
def EF.row(h:EF F w g s o t M occ L):∃av,Row w g (.pointer (O s)::av.map pA) uw/\EL w av L/\F g/\(∀a,some a∈av->F a)/\∀{w':au}{av':List (Option Nat)}{L':h_},Mod (λi=>i=g\/some i∈av) w w'->Row w' g (.pointer (O s)::av'.map pA) uw->EL w' av' L'->(∀a,some a∈av'->some a∈av\/w<=a)->dK F w g s o t M occ L' w':=by
 obtain⟨Fs,av,h1,h2,h3,rfl⟩:=h;refine⟨av,h1,h3,.inl rfl,λa ha=>.inr (.inr ha),?_⟩;intro w' av' L' hm hr he dP;have ng:¬Fs g:=h2.pX h1 kM.1.1 kM.1.2.1 kM.1.2.2.1 kM.1.2.2.2.1 kM.1.2.2.2.2.1 kM.1.2.2.2.2.2.1 kM.1.2.2.2.2.2.2;have na:∀a,some a∈av->¬Fs a:=λa ha=>Pl
 refine⟨_,⟨Fs,av',hr,h2.same λi hi=>hm.same i (h2.lt hi) λq=>?_,he,rfl⟩,hm.mono λi _ hi=>hi.elim .inl λq=>.inr (.inr q),λi hi=>?_⟩
 ·rcases q with rfl|q
  ·exact ng hi
  ·exact na i q hi
 ·rcases hi with hi|hi|hi
  ·exact a0U
  ·exact .inl (.inr (.inl hi))
  ·exact(dP i hi).imp (λq=>.inr (.inr q)) id
def EF.tl(h:EF F w g s o t M occ L):Tl (.func (.func 113) #[t] #[]) (jc M.T.2) w:=by obtain⟨Fs,h1,-,-⟩:=h.EN;exact h1.tl
def mh(h:EF F w g s o t M occ L):kh 81 #[g] w (Value.func (.func 113) #[t] #[]):=by obtain⟨Fs,h1,h2,-,-⟩:=h.EN;obtain⟨Fw,hW,-,-⟩:=h1.world;apply xO.B;refine⟨_,h2,(cZ h1).V ?_⟩;refine⟨_,rfl,(lZ hW).V ?_⟩;exact⟨_,rfl,rfl,rfl⟩
def BS(h:EF F w g s o t M occ L):kh 44 #[g] w (dr (O s)):=by obtain⟨Fs,h1,h2,-,-⟩:=h.EN;apply zQ.B;exact⟨_,h2,rfl,rfl⟩
def Qu(v:Ce):pQ (ba v)/\YP (pos (ba v)):=by have h:=vF v;unfold pQ cH YP Go.bW.pos;simp only;omega
abbrev BT(M:Sm)(b:eJ):aX:=Fz M.T.2 (ba b.aw)
def C7(h:EF F w g s o t M occ L)(b:eJ):ed 79 #[g,Ip b] w (eL (BT M b)):=by
 apply vZ.B;intro w0 e0;have x0:Ext w w0.drew:=(aU e0).drew;have z0:w0.drew.heap.size=w+1:=a0u
 have r0:Row w0.drew w (pc b) DR:=by rw[e0];exact(Row.new w [_,_,_,_,_,_,_,_,_] _).ext (Ext.K _)
 obtain⟨Fs,h1,h2,-,-⟩:=(h.ext x0).EN;refine⟨_,h2,(cZ h1).F λw2 hw=>?_⟩;subst hw;refine⟨_,rfl,rfl,tP r0 rfl rfl rfl,(zH b.aw w0.drew).F λw4 x4=>?_⟩;obtain⟨Fw,hW,-,-⟩:=(h1.ext x4).world;refine⟨_,_,_,rfl,x4.k,(CT hW (ba b.aw) (Qu _).1 (Qu _).2).F λw8 x8=>?_⟩;have z4:=x4.size;exact⟨_,rfl,x8.k,rfl,x0.A (x4.A x8)⟩
end
def within(v:Ce)(m:Int):aX:=decide (-m<=min (min v.1 v.2.1) v.2.2)&&decide (max (max v.1 v.2.1) v.2.2<=m)
def eJ.may(b:eJ):aX:=decide (2<=b.wd)&&(decide (b.wd<=131072)&&(decide (1<=b.ht)&&(decide (b.ht<=262144)&&(within b.aw 70368744177664&&within b.speed 262144))))
def C8(v:Ce)(m:Int)(hm:0<=m/\m<=140737488355328)(w:au):ed 77 #[fQ v,m] w (eL (within v m)):=by
 apply Qv.B;intro w0 e0;have x0:=aU e0;have e1:(if v.2.2<(if v.2.1<v.1 then v.2.1 else v.1)then v.2.2 else(if v.2.1<v.1 then v.2.1 else v.1))=min (min v.1 v.2.1) v.2.2:=by
  repeat' split
  all_goals omega
 have e2:(if v.2.2>(if v.2.1>v.1 then v.2.1 else v.1)then v.2.2 else(if v.2.1>v.1 then v.2.1 else v.1))=max (max v.1 v.2.1) v.2.2:=by
  repeat' split
  all_goals omega
 have e3:I (0-m)= -m:=by rw[wI];omega
 rw[e1,e2,e3];unfold within;apply Z.mk<;>intro h
 ·have h:=eK h;exact⟨by rw[decide_eq_true h,oU],x0⟩
 ·have h:=eK h;exact⟨by rw[decide_eq_false h,C9],x0⟩
def Gv(b:eJ)(w:au):ed 48 #[Ip b] w (eL b.may):=by
 apply adR.B;intro w0 e0;have x0:=aU e0;have z0:=fD e0;unfold eJ.may;refine Z.mk (λh1=>Z.mk (λh2=>Z.mk (λh3=>Z.mk (λh4=>(C8 b.aw _ X w0).mono ?_) (λh4=>?_)) (λh3=>?_)) (λh2=>?_)) (λh1=>?_)
 ·rintro e w1 ⟨rfl,x1⟩;have z1:=x1.size;have h1:=eK h1;have h2:=eK h2;have h3:=eK h3;have h4:=eK h4;rw[decide_eq_true h1,decide_eq_true h2,decide_eq_true h3,decide_eq_true h4];refine⟨_,rfl,x1.k,Z.mk (λh5=>(C8 b.speed _ X w1).mono ?_) (λh5=>⟨by rw[h5];rfl,x0.A x1⟩)⟩;rintro e w3 ⟨rfl,x3⟩;exact⟨_,rfl,x3.k,by rw[h5];rfl,x0.A (x1.A x3)⟩
 ·have h4:=eK h4;exact⟨by rw[decide_eq_false h4];simp,x0⟩
 ·have h3:=eK h3;exact⟨by rw[decide_eq_false h3];simp,x0⟩
 ·have h2:=eK h2;exact⟨by rw[decide_eq_false h2];simp,x0⟩
 ·have h1:=eK h1;exact⟨by rw[decide_eq_false h1];simp,x0⟩
section
variable{w:au}{g:Nat}{p:aC}{av:List (Option Nat)}{τ:aB}(hr:Row w g (p::av.map pA) τ)
def Mu{k:Nat}{a:Option Nat}(ha:av[k]? =some a):Vc.ld w (N (N (O g) 1) (((k:Nat):Int).toNat*1))=some (pA a):=by rw[gk,iI,zp];refine hr.at (1+k) ?_;rw[CO,Kh,aW,ha];rfl
def xz(hn:av.length=16): kh 193 #[.slice (aE (N (some ⟨g,0,none⟩) 1) 0 16 1) (16-0) (16-0),i_] w (S (bK (λa:Option Nat=>a.isNone) av)):=by
 apply(Av.B (a0:=⟨aE (N (some ⟨g,0,none⟩) 1) 0 16 1,16-0,16-0⟩));rw[dt];refine⟨λn x wr=>∃k:Nat,x=k/\k+n=16/\wr=w/\∀j,j<k->∀y,av[j]? =some y->y.isNone=false,⟨16,0,rfl,rfl,rfl,λj hj=>by omega⟩,?_⟩;rintro n us x wr ⟨k,rfl,hk,rfl,lp⟩;apply Z.mk<;>intro hb
 ·have hb:(k:Int)<((16-0:Nat):Int):=by simpa using hb
  have⟨a,ha⟩:=bX (l:=av) (i:=k) U;refine⟨⟨rfl,U,hb⟩,_,Mu hr ha,?_⟩
  cases a with
  |none=>exact⟨congrArg (λn=>Sl (S n)) (vz ha rfl lp).symm,rfl⟩
  |some b=>
   refine bO.2 ⟨λp hp=>by rw[List.mem_singleton.1 hp],?_⟩;have wk:=nE (j:=k);refine uN rfl ⟨n-1,U,k+1,wk,U,rfl,λj hj y hy=>?_⟩;by_cases q:j<k
   ·exact lp j q y hy
   ·rw[show j=k from by omega,ha]at hy;rw[<-ka1 hy];rfl
 ·have hb:¬(k:Int)<((16-0:Nat):Int):=by simpa using hb
  refine⟨congrArg (λn=>Sl (S n)) (mX λy hy=>?_).symm,rfl⟩;have⟨j,hj⟩:=List.mem_iff_getElem?.1 hy;have:=(cG.1 hj).1;exact lp j U y hj
abbrev th(L:h_):Int:=bK (λx:Option cQ=>x.isNone) L
section
variable{F F':Nat->Prop}{w w':au}{g s o t:Nat}{M M':Sm}{occ:aC}{L:h_}
def EL.Ax{av:List (Option Nat)}(h:EL w av L)(i:Nat):(av[i]? =some none↔L[i]? =some none):=by
 refine⟨h.z i,λhl=>?_⟩;have hi:i<16:=by rw[<-h.m];exact(cG.1 hl).1
 have⟨a,ha⟩:=bX (l:=av) (i:=i) (h.n▸hi)
 cases a with
 |none=>exact ha
 |some a=>
  obtain⟨x,hx,-⟩:=h.s i a ha;rw[hx]at hl
  cases hl
def EL.free{av:List (Option Nat)}(h:EL w av L):bK (λa:Option Nat=>a.isNone) av=th L:=by
 rcases dm (λa:Option Nat=>a.isNone) av with⟨e,lp⟩|⟨k,x,hx,hq,e,fK⟩
 ·rw[e];refine(mX λy hy=>?_).symm;have⟨i,hi⟩:=JT.1 hy
  cases y with
  |some y=>rfl
  |none=>
   have:=lp none (aQ ((h.Ax i).2 hi))
   cases this
 ·rw[e]
  cases x with
  |some x=>cases hq
  |none=>
   refine(vz ((h.Ax k).1 hx) rfl λj hj y hy=>?_).symm
   cases y with
   |some y=>rfl
   |none=>exact absurd (fK j hj none ((h.Ax j).2 hy)) bo
def iP(M:Sm)(L:h_)(b:eJ):Int×Int×h_:=
 if b.may=false then(-1,1,L)else if th L<0 then(-1,8,L)else if BT M b=false then(-1,11,L)else if j8 (jc M.T.2) b.box aD=true then(-1,12,L)
 else(th L,0,L.set (th L).toNat (some ({b with fG:=j8 (jc M.T.2) (nL b.box) aD},(0,0,false))))
abbrev nK(aw:Ce)(wd ht:Int):eJ:=⟨aw,(0,0,0),wd,ht,false⟩
def EF.res(h:EF F w g s o t M occ L)(x:Ext w w'):dK F w g s o t M occ L w':=⟨F,h.ext x,aJ.P x⟩
def Us(h:EF F w g s o t M occ L)(aw:Ce)(wd ht:Int)(hw:cH wd):Y 132 #[.pointer (some ⟨g,0,none⟩),fQ aw,wd,ht] w λe w'=>e=bT #[S (iP M L (nK aw wd ht)).1,S (iP M L (nK aw wd ht)).2.1]/\dK F w g s o t M occ (iP M L (nK aw wd ht)).2.2 w':=by
 apply wh.B;intro w0 e0 w1 e1 w2 e2;have x0:=aU e0;have z0:=fD e0;have x2:Ext w0 w2:=(aU e1).L e2 (ak _);have z2:=yL e1 e2;have r2:Row w2 w0 (pc (nK aw wd ht)) DR:=by rw[e2];exact Row.set (by rw[e1];exact Row.new w0 [_,_,_,_,_,_,_,_,_] _) _
 have yz:=x0.A x2;obtain⟨av,de,jm,-⟩:=(h.ext yz).row;refine(xz de jm.n).F λw3 Ig=>?_
 subst Ig;rw[jm.free];refine⟨_,rfl,rfl,rfl,(Gv (nK aw wd ht) w3).F λw5 x5=>?_⟩;have z5:=x5.size;refine⟨_,rfl,x5.k,x5.k,Z.mk (λq=>?_) (λq=>Z.mk (λq2=>?_) (λq2=>(C7 (h.ext (yz.A x5)) (nK aw wd ht)).mono ?_))⟩
 ·have q:(nK aw wd ht).may=false:=by simpa using q
  unfold iP;rw[if_pos q];exact⟨rfl,h.res (yz.A x5)⟩
 ·have q:¬(nK aw wd ht).may=false:=by simpa using q
  have q2:th L<0:=by simpa using q2
  unfold iP;rw[if_neg q,if_pos q2];exact⟨rfl,h.res (yz.A x5)⟩
 have q:¬(nK aw wd ht).may=false:=by simpa using q
 have q2:¬th L<0:=by simpa using q2
 unfold iP;rw[if_neg q,if_neg q2];rintro e w7 ⟨rfl,x7⟩;have z7:=x7.size;have zd7:=nV w7;have x07:=yz.A (x5.A x7);refine⟨_,rfl,x7.k,x7.k,Z.mk (λq3=>?_) (λq3=>(mh (h.ext (x07.drew))).mono ?_)⟩
 ·have q3:BT M (nK aw wd ht)=false:=by simpa using q3
  rw[if_pos q3];exact⟨rfl,h.res x07⟩
 have q3:¬BT M (nK aw wd ht)=false:=by simpa using q3
 rw[if_neg q3];rintro e w9 ⟨rfl,hw9⟩;subst hw9;have r9:=r2.ext ((x5.A x7).drew);have h9:=h.ext x07.drew;refine⟨_,rfl,rfl,rfl,Lo.wv r9,(kC (nK aw wd ht) hw w7.drew).F λbE bS=>?_⟩;have z11:=bS.size;refine⟨_,_,_,_,_,_,rfl,bS.k,bS.k,(sC (h9.ext bS).tl rfl (nK aw wd ht).box).F λdA dc=>?_⟩;have z18:=dc.size;have Wz:=x07.drew.A (bS.A dc);refine⟨_,rfl,dc.k,dc.k,Z.mk (λq4=>?_) (λq4=>(mh (h.ext Wz.drew)).mono ?_)⟩
 ·rw[if_pos q4];exact⟨rfl,h.res Wz⟩
 rw[if_neg (by rw[q4];decide)];rintro e eQ ⟨rfl,azr⟩;subst azr;have r20:=r9.ext ((bS.A dc).drew);have h20:=h.ext Wz.drew;have aGS:=nV dA;refine⟨_,rfl,rfl,rfl,Lo.wv r20,(kC (nK aw wd ht) hw dA.drew).F λdh fX=>?_⟩;have z22:=fX.size;refine⟨_,_,_,_,_,_,rfl,fX.k,fX.k,(qd (h20.ext fX).tl rfl (nK aw wd ht).box).F λgI kz=>?_⟩;have z29:=kz.size;have atm:=Wz.drew.A (fX.A kz);refine⟨_,rfl,kz.k,kz.k,λia e31 sY e32=>?_⟩;generalize gm:j8 (jc M.T.2) (nL (nK aw wd ht).box) aD=st at*;have oO:Ext w ia.drew:=(atm.L e31 (by omega)).drew;have z31:ia.drew.heap.size=gI.heap.size:=by show ia.heap.size=_;rw[e31,setRow_size]
 have mP:Ext w sY:=oO.aZ e32;have z32:sY.heap.size=gI.heap.size+1:=by rw[e32];simp[z31]
 have r32:Row sY ia.drew.heap.size (Gf ({nK aw wd ht with fG:=st},(0,0,false))) j7:=Row.nw e32;have⟨av,hrow0,hel0,hFg,hFa,bq⟩:=h.row;have de:=hrow0.ext mP;have jm:=hel0.same (w':=sY) λa ha=>mP.heap (hel0.lt ha)
 have hgl:=h.lt hFg;have Le:=jm.free;obtain⟨k,hk,hkL,hka⟩:∃k:Nat,th L=k/\L[k]? =some none/\av[k]? =some none:=by
  rcases dm (λx:Option cQ=>x.isNone) L with⟨e,-⟩|⟨k,x,hx,hq,e,-⟩
  ·exact absurd (show th L= -1 from e) (by omega)
  ·cases x with
   |some x=>cases hq
   |none=>exact⟨k,e,hx,(jm.Ax k).2 hx⟩
 have EG:k<16:=by rw[<-jm.m];exact(cG.1 hkL).1
 rw[hk];have hpb:bM (N (N (some ⟨g,0,none⟩) 1) (((k:Nat):Int).toNat*1))=some g:=by rw[cB,cB];rfl
 have⟨p1,p2⟩:=de.ft (j:=1+k) (v:=.pointer (some ⟨ia.drew.heap.size,0,none⟩)) (by simp[jm.n];omega) rfl;have Eu:N (N (some ⟨g,0,none⟩) 1) (((k:Nat):Int).toNat*1)=N (some ⟨g,0,none⟩) (1+k):=by rw[gk,iI,Nat.mul_one]
 have hgn:g<w:=hgl;rw[hpb];refine⟨U,U,⟨rfl,by rw[Eu];exact p1⟩,λq=>a1d,λq=>a1d,λq=>a1d,λjV e33=>⟨rfl,?_⟩⟩;rw[Eu]at e33;have⟨q1,q2⟩:=p2 jV e33;have q1:Row jV g (.pointer (some ⟨s,0,none⟩)::(av.set k (some ia.drew.heap.size)).map pA) uw:=by
  have e:putCells (dr (some ⟨s,0,none⟩)::av.map pA) (1+k) [.pointer (some ⟨ia.drew.heap.size,0,none⟩)]=.pointer (some ⟨s,0,none⟩)::(av.set k (some ia.drew.heap.size)).map pA:=by show(dr (some ⟨s,0,none⟩)::av.map pA).set (1+k) _=_;rw[Nat.add_comm,List.set_cons_succ,List.map_set];rfl
  rw[<-e];exact q1
 have halt:∀a,some a∈av->a<w.heap.size:=λa ha=>h.lt (hFa a ha)
 have gl:∀a,some a∈av->a≠g:=λa ha q=>a02
 have oD:∀(i a:Nat),(av.set k (some ia.drew.heap.size))[i]? =some (some a)->(i=k/\a=ia.drew.heap.size)\/(i≠k/\av[i]? =some (some a)):=λi a hi=>by
  by_cases q:i=k
  ·subst q;rw[uA (jm.n▸EG)]at hi;exact .inl ⟨rfl,(ka1 (ka1 hi)).symm⟩
  ·rw[List.getElem?_set_ne (Ne.symm q)]at hi;exact .inr ⟨q,hi⟩
 have hE:EL jV (av.set k (some ia.drew.heap.size)) (L.set k (some ({nK aw wd ht with fG:=st},(0,0,false)))):=by
  refine⟨by rw[lO];exact jm.n,by rw[lO];exact jm.m,λi a hi=>?_,λi hi=>?_,λi j a hi hj=>?_⟩
  ·rcases oD i a hi with⟨rfl,rfl⟩|⟨q,hi'⟩
   ·refine⟨_,uA (jm.m▸EG),r32.same (q2.same _ (by omega) (by omega))⟩
   ·have⟨x,hx,hr⟩:=jm.s i a hi';exact⟨x,by rw[List.getElem?_set_ne (Ne.symm q)];exact hx,hr.same (q2.same _ hr.lt (gl a (aQ hi')))⟩
  ·by_cases q:i=k
   ·subst q;rw[uA (jm.n▸EG)]at hi
    cases hi
   ·rw[List.getElem?_set_ne (Ne.symm q)]at hi⊢;exact jm.z i hi
  ·rcases oD i a hi with⟨rfl,rfl⟩|⟨q,hi'⟩
   ·rcases oD j _ hj with⟨rfl,-⟩|⟨q',hj'⟩
    ·rfl
    ·have:=halt _ (aQ hj');omega
   ·rcases oD j a hj with⟨rfl,rfl⟩|⟨q',hj'⟩
    ·have:=halt _ (aQ hi');omega
    ·exact jm.d i j a hi' hj'
 exact bq ((Mod.P mP).trans (q2.mono λi _ hi=>.inl hi)) q1 hE λa ha=>by
  have⟨i,hi⟩:=qA ha;rcases oD i a hi with⟨-,rfl⟩|⟨-,hi'⟩
  ·have:=atm.size;exact .inr (by omega)
  ·exact .inl (aQ hi')
end
end
section
variable{F F':Nat->Prop}{w w':au}{g s o t:Nat}{M M':Sm}{occ:aC}{L:h_}
def E0{p:aC}{av:List (Option Nat)}{τ:aB}(hr:Row w g (p::av.map pA) τ)(hn:av.length=16)(n:Int): Y 76 #[g,n] w λe w'=>∃a:Option Nat,e=(pA a)/\w'=w/\((∃k:Nat,n=k/\k<16/\av[k]? =some a)\/¬(0<=n/\n<16)/\a=none):=by
 apply Cp.B;refine Z.mk (λh=>⟨none,rfl,rfl,.inr ⟨?_,rfl⟩⟩) (λh=>Z.mk (λh2=>⟨none,rfl,rfl,.inr ⟨?_,rfl⟩⟩) (λh2=>?_))
 ·have h:=eK h;omega
 ·have h2:=eK h2;omega
 ·have h:=eK h;have h2:=eK h2;obtain⟨k,rfl⟩:∃k:Nat,n=k:=⟨n.toNat,U⟩;have⟨a,ha⟩:=bX (l:=av) (i:=k) U;exact⟨U,U,_,Mu hr ha,a,rfl,rfl,.inl ⟨k,rfl,U,ha⟩⟩
def cE(L:h_)(n:Int):Option cQ:=if 0<=n then(L[n.toNat]?).join else none
def zB(L:h_)(n:Int):Int×h_:=if(cE L n).isNone then(6,L)else(0,L.set n.toNat none)
def EL.aq9{av:List (Option Nat)}(h:EL w av L){k:Nat}{a:Option Nat}(ha:av[k]? =some a):(cE L k).isNone=a.isNone:=by
 unfold cE;rw[if_pos U,iI]
 cases a with
 |none=>rw[h.z k ha];rfl
 |some a=>
  obtain⟨x,hx,-⟩:=h.s k a ha;rw[hx];rfl
def vK(hL:L.length=16){n:Int}(h:¬(0<=n/\n<16)):cE L n=none:=by
 unfold cE;split
 ·rw[jZ U];rfl
 ·rfl
def Y4(h:EF F w g s o t M occ L)(n:Int):Y 124 #[g,n] w λe w'=>e=S (zB L n).1/\dK F w g s o t M occ (zB L n).2 w':=by
 have⟨av,de,jm,hFg,hFa,bq⟩:=h.row;apply yf.B;refine(E0 de jm.n n).mono ?_;rintro e w0 ⟨a,rfl,rfl,hc⟩;refine⟨_,rfl,?_⟩;unfold zB;rcases hc with⟨k,rfl,hk,ha⟩|⟨wD,rfl⟩
 ·rw[jm.aq9 ha]
  cases a with
  |none=>exact yes rfl ⟨rfl,h.res (Ext.M _)⟩
  |some a=>
   refine uN rfl ?_;have Eu:N (N (O g) 1) (((k:Nat):Int).toNat*1)=N (O g) (1+k):=by rw[gk,iI,zp]
   have⟨p1,p2⟩:=de.ft (j:=1+k) (v:=.pointer none) (by simp[jm.n];omega) rfl;refine⟨U,U,⟨rfl,by rw[Eu];exact p1⟩,λw2 e2=>⟨rfl,?_⟩⟩;rw[Eu]at e2;have⟨q1,q2⟩:=p2 w2 e2;have q1:Row w2 g (.pointer (O s)::(av.set k none).map pA) uw:=by
    have e:putCells (dr (O s)::av.map pA) (1+k) [i_]=.pointer (O s)::(av.set k none).map pA:=by show(dr (O s)::av.map pA).set (1+k) _=_;rw[CO,akR,pM];rfl
    rw[<-e];exact q1
   have gl:∀a,some a∈av->a≠g:=λa ha q=>a02
   have oD:∀(i a:Nat),(av.set k none)[i]? =some (some a)->i≠k/\av[i]? =some (some a):=λi a hi=>by
    by_cases q:i=k
    ·subst q;rw[uA (jm.n▸hk)]at hi
     cases hi
    ·rw[GO (Ne.symm q)]at hi;exact⟨q,hi⟩
   show dK F w0 g s o t M occ (L.set ((k:Nat):Int).toNat none) w2;refine bq (q2.mono λi _ hi=>.inl hi) q1 ⟨by rw[lO];exact jm.n,by rw[lO];exact jm.m,λi a hi=>?_,λi hi=>?_,λi j a hi hj=>?_⟩ λa ha=>?_
   ·have⟨q,hi'⟩:=oD i a hi;have⟨x,hx,hr⟩:=jm.s i a hi';exact⟨x,by rw[iI,GO (Ne.symm q)];exact hx,hr.same (q2.same _ hr.lt (gl a (aQ hi')))⟩
   ·rw[iI];by_cases q:i=k
    ·subst q;exact uA (jm.m▸hk)
    ·rw[GO (Ne.symm q)]at hi⊢;exact jm.z i hi
   ·exact jm.d i j a (oD i a hi).2 (oD j a hj).2
   ·have⟨i,hi⟩:=qA ha;exact .inl (aQ (oD i a hi).2)
 ·rw[vK jm.m wD];exact yes rfl ⟨rfl,h.res (Ext.M _)⟩
def bh(L:h_):ab:=((List.range 16).filter λi=>(cE L (i:Nat)).isSome).map λi:Nat=>(i:Int)
def M3{α:Type}{l:List α}(h:l.length=16):∃a b c d e f g h i j k m n o p q,l=[a,b,c,d,e,f,g,h,i,j,k,m,n,o,p,q]:=by
 match l,h with
 | [a,b,c,d,e,f,g,h,i,j,k,m,n,o,p,q],_=>exact⟨a,b,c,d,e,f,g,h,i,j,k,m,n,o,p,q,rfl⟩
def Cq(h:EF F w g s o t M occ L):Y 41 #[g] w λe w'=>∃sl:H,e=tr sl.a sl.n sl.c/\ar w 3 1 w' sl ((bh L).map λi=>[S i])/\Ext w w':=by
 obtain⟨av,de,jm,-⟩:=h.row;apply yg.B;have pG:ah w (N (O g) 1) 0 (av.map pA):=a0W
 have gd:∀k:Nat,k<16->∃a:Option Nat,(av.map pA)[((k:Nat):Int).toNat*1]? =some (pA a)/\(cE L k).isNone=a.isNone:=λk hk=>by have⟨a,ha⟩:=bX (l:=av) (i:=k) (jm.n▸hk);exact⟨a,by rw[iI,zp,aW,ha];rfl,jm.aq9 ha⟩
 obtain⟨b0,b1,b2,b3,b4,b5,b6,b7,b8,b9,b10,b11,b12,KX,Wc,Ym,rfl⟩:=M3 jm.n;refine⟨_,_,_,_,_,_,_,_,_,_,_,_,_,_,_,_,pG,λn x sl wr=>∃k:Nat,x=k/\k+n=16/\ar w 3 1 wr sl ((((List.range k).filter λi=>(cE L (i:Nat)).isSome).map λi:Nat=>(i:Int)).map λi=>[S i])/\Ext w wr,⟨16,0,rfl,rfl,ar.nil,Ext.M _⟩,?_⟩;rintro n us x sl wr ⟨k,rfl,hk,ho,xr⟩;have zr:=xr.size;apply Z.mk<;>intro hb
 ·replace hb:=lM hb;have⟨a,ha,hl⟩:=gd k U;have wk:=nE (j:=k);have cX:sl.n<=16:=by have h1:=(ho.rd (show 0<1 by decide)).n;have h2:=zy (λi=>(cE L (i:Nat)).isSome) (List.range k);rw[aK,aK]at h1;rw[Gx]at h2;omega
  refine⟨⟨U,U⟩,_,ha,Z.mk (λhq=>λie Jq=>?_) (λhq=>?_)⟩
  ·subst Jq;have hsome:(cE L (k:Nat)).isSome=true:=by
    cases a with
    |none=>exact absurd hq bo
    |some a=>
     cases hL:cE L k with
     |none=>rw[hL]at hl;cases hl
     |some y=>rfl
   have⟨Te,hres8⟩:=ho.l6 (bytes:=8) (news:=[S (k:Int)]) (.cells #[S (k:Int)] 3) U rfl (wE _ _) U U;refine⟨Te,λs25 kN aAb=>?_⟩;obtain⟨f8,KZ,hn8,x8,hk8,-⟩:=hres8 s25 kN aAb;refine⟨f8,n-1,U,k+1,wk,U,?_,(Below.trans xr x8:Below w w kN)⟩;rw[Ki,wG,cl,cl,W6 (ds hsome)];exact KZ
  ·have hnone:(cE L (k:Nat)).isSome=false:=by
    cases a with
    |some a=>exact absurd hq bo
    |none=>
     cases hL:cE L k with
     |none=>rfl
     |some y=>rw[hL]at hl;cases hl
   refine⟨n-1,U,k+1,wk,U,?_,xr⟩;rw[Ki,wG,cl,cl,W7 (by rw[hnone];decide)];simpa using ho
 ·replace hb:=lW hb;have EG:k=16:=by omega
  subst EG;exact⟨sl,rfl,ho,xr⟩
end
abbrev FO(aj cap room bud:Int):Sm:=⟨aj,min (max cap 1) 16,(T9 room,[]),[],⟨4096,0,[]⟩,min (max bud 1) 64,0,[]⟩
abbrev OT:h_:=List.replicate 16 none
def Ke(aj cap room bud:Int)(w:au):Y 60 #[.agg #[aj,cap,room,bud]] w λe w'=>∃(g s o t:Nat)(F:Nat->Prop),e=dr (O g)/\EF F w' g s o t (FO aj cap room bud) (.func (.func 175) #[] #[]) OT/\Ext w w'/\∀i,F i->w<=i:=by
 apply Vr.B;intro w0 e0;have x0:Ext w w0.drew:=(aU e0).drew;have z0:w0.drew.heap.size=w+1:=a0u
 have r0:∃τ,Row w0.drew w [aj,cap,room,bud] τ:=⟨_,by rw[e0];exact(Row.new w [_,_,_,_] _).ext (Ext.K _)⟩;have⟨τ,r0⟩:=r0;refine(YL aj cap room w0.drew).mono ?_;rintro e w1 ⟨o,t,Fw,rfl,hW,x1,fW⟩;have z1:=x1.size;refine⟨_,rfl,x1.k,xG (r0.ext x1) rfl,(QQ hW bud).mono ?_⟩;rintro e w3 ⟨s,F,rfl,hS,x3,fS⟩;have z3:=x3.size;refine⟨_,rfl,x3.k,λw5 e5=>?_⟩;have x5:=aU e5;have r5:Row w5 w3 (.pointer (O s)::(List.replicate 16 none).map pA) uw:=Row.nw e5;have lp:∀(i a:Nat),(List.replicate 16 (none:Option Nat))[i]? =some (some a)->False:=λi a hi=>by
  have:=List.eq_of_mem_replicate (aQ hi)
  cases this
 have jm:EL w5 (List.replicate 16 none) OT:=⟨rfl,rfl,λi a hi=>(lp i a hi).elim,λi hi=>List.getElem?_replicate_of_lt (by
  have ab2:=(cG.1 hi).1;rw[Hl]at ab2;exact ab2),λi j a hi=>(lp i a hi).elim⟩
 refine⟨w3,s,o,t,_,rfl,⟨F,_,r5,hS.ext x5,jm,rfl⟩,x0.A (x1.A (x3.A x5)),λi hi=>?_⟩;rcases hi with rfl|hi|hi
 ·omega
 ·rcases fS i hi with q|q
  ·have:=fW i q;omega
  ·omega
 ·cases List.eq_of_mem_replicate hi
open Tryz
variable{R:l_}{w:au}{a0 a1 aM aI aP cO cR da gJ gC fB:Int}
def Vg.B{a0:H}{a1:H}(h: pf (λI0 n1=>I0 n1 (0) a0 w) λI0 n1 Bn x3 s4 w5=>Z (decide (x3<((a1.n:Nat):Int))) (gD a1.a x3 a1.n/\jr w5 (N a1.a ((x3:Int).toNat*1)) λx7=>pf (λI8 n9=>I8 n9 (5) s4 w5) λI8 n9 agB bS qo bw=>(λAa=>Z (bS>=0) (aO (S' (I (8*bS))) (G bw #[.int .u8 Aa] 5 λc9=>bj 1 1 c9 qo 1 [.int .u8 Aa]/\∀(s16:H)(cP:au),aY 5 1 c9 qo 1 [.int .u8 Aa] s16 cP->Kp bw c9 cP/\∃n14,n14<n9/\I8 n14 ((I (bS-1))) s16 cP)) (∃n6,n6<n1/\I0 n6 ((I (x3+1))) qo bw)) (qH ((x7:Int).fdiv (2^(min ((I (8*bS)):Int).toNat 64))))) (R s4 w5)):Y 59 #[a0,a1] w R:= cq ⟨[(5,⟨[(7,.int .i64),(0,.slice)],[],[]⟩),(2,⟨[(10,.int .i64),(0,.slice)],[],[]⟩)],[],[]⟩ func59 h
def vm.B{a0:Addr}(h:(λA B=>Y 41 #[a0] w (rA λs1 w0=>(λAa Ab=>eO w0 B λp2=>Y 45 #[p2] w0 (fw λx4 w3=>G w3 #[x4] 3 λw5=>Y 59 #[.slice none 0 0,.slice (O w3) 1 1] w5 (rA λs7 w6=>G w6 #[.int .u8 (qH Ab)] 5 λw8=>bj 1 1 w8 s7 1 Aa/\∀(s9:H)(br:au),aY 5 1 w8 s7 1 Aa s9 br->Kp w6 w8 br/\pf (λI11 n12=>aR Aa/\I11 n12 (0) s9 br) λI11 n12 aI4 cY qp bZ=>Z (decide (cY<Ab)) (gD s1.a cY s1.n/\jr bZ (N s1.a ((cY:Int).toNat*1)) λdc=>(λAc Ad=>(0:Int)<=dc/\dc<((16:Nat):Int)/\eO bZ (N (N (some a0) 1) ((dc:Int).toNat*1)) λp19=>(λAe Af=>∃J20:H->k_,(aO Af (aO Af (aO (eE Ae) (aO (eE (N Ae 0)) (jr bZ.drew (N (N Ae 0) 0) λfk=>aO Af (aO Af (aO (eE Ae) (aO (eE (N Ae 0)) (jr bZ.drew (N (N Ae 0) 1) λfX=>aO Af (aO Af (aO (eE Ae) (aO (eE (N Ae 0)) (jr bZ.drew (N (N Ae 0) 2) λiB=>aO Af (aO Af (aO (eE Ae) (aO (eE (N Ae 3)) (jr bZ.drew (N (N Ae 3) 0) λjn=>aO Af (aO Af (aO (eE Ae) (aO (eE (N Ae 3)) (jr bZ.drew (N (N Ae 3) 1) λgG=>aO Af (aO Af (aO (eE Ae) (aO (eE (N Ae 3)) (jr bZ.drew (N (N Ae 3) 2) λnU=>aO Af (aO Af (aO (eE Ae) (jr bZ.drew (N Ae 6) λjl=>aO Af (aO Af (aO (eE Ae) (jr bZ.drew (N Ae 7) λrC=>(λAg=>(G bZ.drew Ad 5 λgI=>(bj 1 1 gI qp 1 Ac/\∀(EE:H)(ia:au),aY 5 1 gI qp 1 Ac EE ia->Kp w6 gI ia/\ox bZ gI ia/\ah ia (N Ae 7) 0 [rC]/\ah ia (N Ae 6) 0 [jl]/\ah ia (N (N Ae 3) 2) 0 [nU]/\ah ia (N (N Ae 3) 1) 0 [gG]/\ah ia (N (N Ae 3) 0) 0 [jn]/\ah ia (N (N Ae 0) 2) 0 [iB]/\ah ia (N (N Ae 0) 1) 0 [fX]/\ah ia (N (N Ae 0) 0) 0 [fk]/\G ia Ag 3 λsY=>Y 59 #[EE,.slice (O ia) 8 8] sY (Rs λs34 jV=>Kp w6 sY jV/\ox bZ sY jV/\aR Aa/\J20 s34 jV))/\(G gI Ag 3 λiD=>bj 1 1 iD qp 1 Ac/\∀(s36:H)(jD:au),aY 5 1 iD qp 1 Ac s36 jD->Kp w6 iD jD/\ox bZ iD jD/\Kp gI iD jD/\Y 59 #[s36,.slice (O gI) 8 8] jD (Rs λs39 tH=>Kp w6 jD tH/\ox bZ jD tH/\aR Aa/\J20 s39 tH)))/\(G bZ.drew Ag 3 λnT=>G nT Ad 5 λkO=>bj 1 1 kO qp 1 Ac/\∀(s42:H)(iO:au),aY 5 1 kO qp 1 Ac s42 iO->Kp w6 kO iO/\ox bZ kO iO/\Kp nT kO iO/\Y 59 #[s42,.slice (O bZ.drew.heap.size) 8 8] iO (Rs λs45 kf=>K2 w6 nT iO kf (aR Aa/\J20 s45 kf)))) #[fk,fX,iB,jn,gG,nU,jl,rC])))))))))))))))))))))))))))))))/\∀aub:Nat->aC,∀(Tt:H)(lI:au),J20 Tt lI->aO Af (aO Af (aO (eE Ae) (Mp lI (N Ae 8) λb49=>Z b49 (G lI #[.int .u8 1] 5 λyR=>bj 1 1 yR Tt 1 [.int .u8 1]/\∀(s51:H)(Yo:au),aY 5 1 yR Tt 1 [.int .u8 1] s51 Yo->K2 w6 lI yR Yo (∃n17,n17<n12/\aR Aa/\I11 n17 ((I (cY+1))) s51 Yo)) (G lI #[.int .u8 0] 5 λw53=>bj 1 1 w53 Tt 1 [.int .u8 0]/\∀(We:H)(yS:au),aY 5 1 w53 Tt 1 [.int .u8 0] We yS->K2 w6 lI w53 yS (∃n17,n17<n12/\aR Aa/\I11 n17 ((I (cY+1))) We yS)))))) (N p19 0) (eE p19)) [.int .u8 (qH dc)] #[.int .u8 (qH dc)]) (eO bZ B λp56=>Y 46 #[p56] bZ (Rs λOR nv=>(λAh Ai Aj=>Kp w6 bZ nv/\(0:Int)<=Ai/\Ai<=((OR.c:Nat):Int)/\G nv #[.int .u8 (qH ((Ah:Int).fdiv A)),.int .u8 (qH Ah)] 5 λpH=>bj 1 1 pH qp 2 [.int .u8 (qH ((Ah:Int).fdiv A)),.int .u8 (qH Ah)]/\∀(s60:H)(vr:au),aY 5 1 pH qp 2 [.int .u8 (qH ((Ah:Int).fdiv A)),.int .u8 (qH Ah)] s60 vr->K2 w6 nv pH vr (pf (λI62 n63=>aR Aa/\aR [.int .u8 (qH ((Ah:Int).fdiv A)),.int .u8 (qH Ah)]/\I62 n63 (0) s60 vr) λI62 n63 axo Be s66 pI=>Z (decide (Be<Ah)) (gD Aj Be ((Ai:Int).toNat-0)/\ti pI (N Aj ((Be:Int).toNat*4)) λyD CJ Bf DB=>G pI #[J,J,J,J] 106 λJu=>Sw Ju pI #[yD,CJ,Bf,DB] λCE=>G CE #[yD,CJ,Bf,DB] 3 λuh=>Y 59 #[s66,.slice (O CE) 4 4] uh (Rs λs77 pB=>K3 w6 nv pI uh pB (∃n68,n68<n63/\aR Aa/\aR [.int .u8 (qH ((Ah:Int).fdiv A)),.int .u8 (qH Ah)]/\I62 n68 ((I (Be+1))) s77 pB))) (R s66 pI))) (((((if 2000<((OR.n:Nat):Int)then 2000 else((OR.n:Nat):Int)):Int).toNat-0):Nat):Int) (if 2000<((OR.n:Nat):Int)then 2000 else((OR.n:Nat):Int)) (aE OR.a (0) (OR.c) 4)))))) [.int .u8 (qH ((s1.n:Nat):Int))] ((s1.n:Nat):Int))) (2^(min (8:Int).toNat 64)) (N (some a0) 0)):Y 25 #[a0] w R:= cq ⟨[(16,⟨[(124,.int .i64),(4,.slice)],[],[]⟩),(4,⟨[(27,.int .i64),(4,.slice)],[],[]⟩)],[(8,⟨[(4,.slice)],[],[]⟩)],[]⟩ func25 h
def xy.B{a0:Addr}(h: eO w (N (some a0) 0) λp0=>Y 39 #[p0] w (nH λp2 w1=>Y 40 #[p2] w1 (nH λp4 w3=>Y 25 #[a0] w3 (rA λs6 w5=>Y 182 #[p4,s6] w5 (fw λx8 w7=>R x8 w7))))):Y 121 #[a0] w R:= cq bz func121 h
def ua.B{c0:Addr}(h:(λA=>Z (!(A).isNone) (aO (eE A) (aO (eE A) (jR w.drew (N A 0) λx0 x1 x2 x3 x4 x5 x6 x7 b8=>C3 w.drew (some c0) λx9 bL bS cr cJ cY=>Y 149 #[.agg #[x0,x1,x2,x3,x4,x5,x6,x7,b8]] w.drew (amx λdw dO dc dQ fe fk c9=>ah c9 (some c0) 0 [x9,bL,bS,cr,cJ,cY]/\Y 148 #[.agg #[dw,dO,dc,dQ,fe,fk],.agg #[x9,bL,bS,cr,cJ,cY]] c9 (yM λb23 dh=>R b23 dh))))) (R false w.drew)) (none:ai)):Y 147 #[.pointer (none:ai),c0] w R:= cq bz func147 h
def Sx(h:Rr):Ce×aX:=if 0<=h.2.2.1/\h.2.2.1<6 then((rZ h.1).getD h.2.2.1.toNat (0,0,0),true)else((0,0,0),false)
def Sy(h:Rr)(hc:fh h.1)(w:au):ed 190 #[W_ h] w (bT #[fQ (Sx h).1,.bool (Sx h).2]):=by
 have⟨c,b,f,t⟩:=h;apply U3.B;intro w0 e0 w1 e1;have x0:=aU e0;have z0:=zA e0;have r0:∃τ,Row w0 w [c.1,c.2.1,c.2.2,b,f,t] τ:=⟨_,by rw[e0];exact Row.new w [_,_,_,_,_,_] _⟩;have x1:=aU e1;have z1:=zA e1;have lq:=x0.A x1;have hd:=nV w1;have⟨τ,r0⟩:=r0;unfold Sx;simp only;refine Z.mk (λh=>λw2 e2=>?_) (λh=>Z.mk (λh2=>λw3 e3=>?_) (λh2=>(jt c hc w1.drew).mono ?_))
 ·have h:=eK h;rw[if_neg U];exact⟨rfl,lq.L e2 U⟩
 ·have h2:=eK h2;rw[if_neg U];exact⟨rfl,lq.L e3 U⟩
 ·have h:=eK h;have h2:=eK h2;obtain⟨k,rfl⟩:∃k:Nat,f=k:=⟨f.toNat,U⟩;rw[if_pos U,iI];rintro e w4 ⟨rfl,x4⟩;have z4:=x4.size;refine⟨_,_,_,_,_,_,_,_,_,_,_,_,_,_,_,_,_,_,rfl,x4.k,x4.k,xG (r0.ext (x1.A ((Ext.K w1).A x4))) rfl,⟨U,U⟩,((rZ c).getD k (0,0,0)).1,((rZ c).getD k (0,0,0)).2.1,((rZ c).getD k (0,0,0)).2.2,?_,λkN TB=>⟨rfl,(lq.A ((Ext.K w1).A x4)).L TB U⟩⟩;have:k=0\/k=1\/k=2\/k=3\/k=4\/k=5:=by omega
  rcases this with rfl|rfl|rfl|rfl|rfl|rfl<;>rfl
def pk(b:eJ):Ce:=iY b.aw (0,Int.tdiv (b.ht*4) 5,0)
def HS(b:eJ)(hh: -1000000000<=b.ht/\b.ht<=1000000000)(w:au):ed 192 #[Ip b] w ((fQ (pk b))):=by
 apply Jb.B;intro w0 e0 w1 e1;have x0:=aU e0;have z0:=zA e0;have x1:=aU e1;have z1:=zA e1;have e4:I (Int.tdiv (I (b.ht*4)) 5)=Int.tdiv (b.ht*4) 5:=by
  have h5: -4000000000<=Int.tdiv (b.ht*4) 5/\Int.tdiv (b.ht*4) 5<=4000000000:=by
   rcases Int.le_total 0 (b.ht*4)with h|h
   ·rw[uI h];omega
   ·have e:b.ht*4= -(-(b.ht*4)):=by omega
    rw[e,Int.neg_tdiv,uI U];omega
  rw[aL (n:=b.ht*4) j_,wI]
 rw[e4];refine(jw b.aw (0,Int.tdiv (b.ht*4) 5,0) w1).F λw2 x2=>?_
 have z2:=x2.size;exact⟨_,_,_,rfl,x2.k,x2.k,λw6 e6=>⟨rfl,(x0.A (x1.A x2)).L e6 U⟩⟩
def Gg(c:Ce):Bx:=((uM c.1,uM c.2.1,uM c.2.2),iY (uM c.1,uM c.2.1,uM c.2.2) (65536,65536,65536))
def Zh(c:Ce)(w:au):ed 145 #[fQ c] w ((xB (Gg c))):=by
 apply ad2.B;intro w0 e0 w1 e1;have x0:=aU e0;have z0:=zA e0;have r0:∃τ,Row w0 w [c.1,c.2.1,c.2.2] τ:=⟨_,by rw[e0];exact Row.new w [_,_,_] _⟩;have x1:=aU e1;have z1:=zA e1;have hd:=nV w1;have⟨τ,r0⟩:=r0;have r1:=r0.ext (x1.A (Ext.K w1));have lq:=x0.A (x1.A (Ext.K w1));have last:∀v1 v2:au,v1=w1.drew.alloc (.cells #[J,J,J] iq)->v2=v1.setRow w1.drew.heap.size #[(uM c.1),(uM c.2.1),(uM c.2.2)]->
   Y 206 #[fQ (uM c.1,uM c.2.1,uM c.2.2),fQ (65536,65536,65536)] v2.drew λe br=>∃x y z:Int,e=vI #[x,y,z]/\br.heap[w.heap.size]? =v2.drew.heap[w.heap.size]?/\br.heap[w0.heap.size]? =v2.drew.heap[w0.heap.size]?/\br.heap[w1.drew.heap.size]? =v2.drew.heap[w1.drew.heap.size]?/\
    ah br (O w1.drew.heap.size) 0 [(uM c.1),(uM c.2.1),(uM c.2.2)]/\∀cp:au,cp=br.setRow w0 #[(uM c.1),(uM c.2.1),(uM c.2.2),x,y,z]->
    Sl (.agg #[(uM c.1),(uM c.2.1),(uM c.2.2),x,y,z])=(xB (Gg c))/\Ext w cp:=by
  intro v1 v2 f1 f2;have y1:Ext w1.drew v2:=(aU f1).L f2 (ak _);have s2:v2.drew.heap.size=w1.heap.size+1:=by show v2.heap.size=_;rw[zR f2,zA f1];rfl
  have rv:Row v2 w1.drew.heap.size [(uM c.1),(uM c.2.1),(uM c.2.2)] iq:=by rw[f2,f1];exact Row.set (Row.new w1.drew [_,_,_] _) [_,_,_]
  refine(jw (uM c.1,uM c.2.1,uM c.2.2) (65536,65536,65536) v2.drew).F λbr bL=>?_
  exact⟨_,_,_,rfl,bL.k,bL.k,bL.k,Lo.wv (rv.ext ((Ext.K v2).A bL)),λcp yF=>⟨rfl,(lq.A (y1.A ((Ext.K v2).A bL))).L yF U⟩⟩
 have of1:∀(n:Int) {u:au}{R:l_},R (.returned (S (uM n))) u->Y 213 #[S n] u R:=λn u R h=>(sB n u).mono (by rintro e w' ⟨rfl,rfl⟩;exact h)
 have l2:ah w1.drew (jM w 2) 0 [c.2.2]:=xG r1 rfl;have l1:ah w1.drew (jM w 1) 0 [c.2.1]:=xG r1 rfl;refine⟨of1 _ ⟨_,rfl,rfl,rfl,l2,l1,of1 _ ⟨_,rfl,rfl,rfl,l2,of1 _ ⟨_,rfl,rfl,rfl,λw8 e8 w9 e9=>last _ _ e8 e9,λw8 e8 w9 e9=>last _ _ e8 e9⟩,λdh Dy=>?_⟩,λia e31=>?_⟩,λnS e42=>?_⟩
 ·exact of1 _ ⟨_,rfl,rfl,rfl,rfl,λdL OX=>last _ _ Dy OX⟩
 ·have xa:=aU e31;exact of1 _ ⟨_,rfl,rfl,rfl,rfl,xG (r1.ext xa) rfl,of1 _ ⟨_,rfl,rfl,rfl,rfl,λmG e36=>last _ _ e31 e36⟩⟩
 ·have xa:=aU e42;exact of1 _ ⟨_,rfl,rfl,rfl,rfl,xG (r1.ext xa) rfl,xG (r1.ext xa) rfl,of1 _ ⟨_,rfl,rfl,rfl,rfl,xG (r1.ext xa) rfl,of1 _ ⟨_,rfl,rfl,rfl,rfl,λnB e49=>last _ _ e42 e49⟩⟩⟩
def adx(c:Ce)(x:Option cQ):aX:=match x with|some y=>vl y.1.box (Gg c)|none=>false
def Gh(L:h_)(c:Ce):aX:=L.any (adx c)
def UH{w:au}{a:Option Nat}{x:Option cQ}(ha:∀b,a=some b->∃y,x=some y/\Row w b (Gf y) j7/\cH y.1.wd)(hn:a=none->x=none){c:Ce}{g:Nat}{τ:aB}(hg:Row w g (pE (Gg c)) τ): ed 147 #[pA a,g] w (eL (adx c x)):=by
 cases a with
 |none=>
  rw[hn rfl];apply ua.B;exact uN rfl ⟨rfl,Ext.K w⟩
 |some b=>
  obtain⟨y,rfl,hr,hw⟩:=ha b rfl;apply(uU.B (a0:=⟨b,0,none⟩));refine⟨_,_,_,_,_,_,_,_,_,(hr.ext (Ext.K w)).y (vs:=pc y.1) (o:=0) (λj hj=>?_),_,_,_,_,_,_,Lo.wv (hg.ext (Ext.K w)),(kC y.1 hw w.drew).mono ?_⟩
  ·have hj:j<9:=hj;have:j=0\/j=1\/j=2\/j=3\/j=4\/j=5\/j=6\/j=7\/j=8:=by omega
   rcases this with rfl|rfl|rfl|rfl|rfl|rfl|rfl|rfl|rfl<;>rfl
  rintro e c9 ⟨rfl,dn⟩;refine⟨_,_,_,_,_,_,rfl,Lo.wv (hg.ext ((Ext.K w).A dn)),(AZ y.1.box (Gg c) c9).F λdh fX=>?_⟩;exact⟨_,rfl,rfl,(Ext.K w).A (dn.A fX)⟩
def ES(m:Int)(L:h_):Prop:=∀y,some y∈L->okB m y.1
def ES.up{m n:Int}{L:h_}(h:ES m L)(hn:m<=n):ES n L:=λy hy=>(h y hy).up hn
section
variable{F F':Nat->Prop}{w w':au}{g s o t:Nat}{M M':Sm}{occ:aC}{L:h_}
variable{av:List (Option Nat)}{m:Int}
def EL.held(he:EL w av L)(hL:ES m L){k:Nat}{a:Option Nat}(ha:av[k]? =some a): ∃x,L[k]? =some x/\(∀b,a=some b->∃y,x=some y/\Row w b (Gf y) j7/\cH y.1.wd)/\(a=none->x=none):=by
 cases a with
 |none=>exact⟨none,he.z k ha,λb hb=>(by cases hb),λ_=>rfl⟩
 |some b=>
  have⟨y,hy,hr⟩:=he.s k b ha;exact⟨some y,hy,λb' hb=>by cases hb;exact⟨y,rfl,hr,(hL y (aQ hy)).wdi⟩,λq=>(by cases q)⟩
variable{p:aC}{τ:aB}
def Qa{τ':aB}(hr:Row w g (p::av.map pA) τ)(he:EL w av L)(hL:ES m L){c:Ce}{b:Nat}(hb:Row w b (pE (Gg c)) τ'): Y 214 #[.slice (aE (N (some ⟨g,0,none⟩) 1) 0 16 1) (16-0) (16-0),.func (.func 147) #[] #[b]] w λe w'=>(∃n:Int,e=S n/\decide (n>=0)=Gh L c)/\Ext w w':=by
 apply(tQ.B (a0:=⟨aE (N (some ⟨g,0,none⟩) 1) 0 16 1,16-0,16-0⟩));rw[dt];refine⟨λn x wr=>∃k:Nat,x=k/\k+n=16/\Ext w wr/\∀j,j<k->∀y,L[j]? =some y->adx c y=false,⟨16,0,rfl,rfl,Ext.M _,λj hj=>by omega⟩,?_⟩;rintro n us x wr ⟨k,rfl,hk,xr,lp⟩;apply Z.mk<;>intro hq
 ·have hq:(k:Int)<((16-0:Nat):Int):=by simpa using hq
  have⟨a,ha⟩:=bX (l:=av) (i:=k) (a1N he.n);have⟨y,hy,h1,h2⟩:=he.held hL ha;refine⟨⟨rfl,U,hq⟩,_,Mu (hr.ext xr) ha,bR (by kernel_rfl) rfl ((UH (a:=a) (x:=y) (λb' e=>?_) h2 (hb.ext xr)).mono ?_)⟩
  ·have⟨z,e1,e2,e3⟩:=h1 b' e;exact⟨z,e1,e2.ext xr,e3⟩
  rintro e w7 ⟨rfl,x7⟩;refine⟨_,rfl,Z.mk (λhm=>⟨⟨_,rfl,?_⟩,xr.A x7⟩) (λhm=>?_)⟩
  ·rw[decide_eq_true (by omega:(k:Int)>=0)];exact(List.any_eq_true.2 ⟨y,aQ hy,hm⟩).symm
  ·have wk:=nE (j:=k);refine⟨n-1,U,k+1,wk,U,xr.A x7,λj hj z hz=>?_⟩;by_cases q:j<k
   ·exact lp j q z hz
   ·rw[show j=k from by omega,hy]at hz;rw[<-ka1 hz];exact hm
 ·have hq:¬(k:Int)<((16-0:Nat):Int):=by simpa using hq
  refine⟨⟨_,rfl,?_⟩,xr⟩;rw[decide_eq_false X];refine(List.any_eq_false.2 λy hy=>?_).symm;have⟨j,hj⟩:=List.mem_iff_getElem?.1 hy;have:=(cG.1 hj).1;have:=he.m;rw[lp j U y hj];decide
def Kb(hr:Row w g (p::av.map pA) τ)(he:EL w av L)(hL:ES m L)(c:Ce): ed 84 #[g,fQ c] w (eL (Gh L c)):=by
 apply xI.B;intro w0 e0;have x0:=aU e0;have z0:=zA e0;refine(Zh c w0).F λw1 x1=>?_
 have z1:=x1.size;refine⟨_,_,_,_,_,_,rfl,x1.k,λw8 e8 w9 e9=>?_⟩;have x9:Ext w1 w9:=(aU e8).L e9 (ak _);have r9:∃τ',Row w9 w1 (pE (Gg c)) τ':=⟨_,by rw[e9,e8];exact Row.set (Row.new w1 [_,_,_,_,_,_] _) [_,_,_,_,_,_]⟩;have z9:w9.heap.size=w1.heap.size+1:=by rw[zR e9,zA e8]
 have⟨τ',r9⟩:=r9;have Ts:=x0.A (x1.A x9);refine Calls.mono (qw.B (a0:=⟨aE (N (O g) 1) 0 16 1,16-0,16-0⟩) (R:=λe w'=>e=eL (Gh L c)/\Ext w9 w') ?_) ?_
 ·refine(Qa (hr.ext Ts) (he.same λa ha=>Ts.heap (he.lt ha)) hL r9).mono ?_;rintro e br ⟨⟨n,rfl,hn⟩,bL⟩;exact⟨n,rfl,by rw[hn],bL⟩
 ·rintro e br ⟨rfl,bL⟩;exact⟨_,rfl,bL.k,rfl,Ts.A bL⟩
end
def Qb(a b:Ce)(n:Nat):Prop:=(-(n:Int)<=a.1-b.1/\a.1-b.1<=n)/\(-(n:Int)<=a.2.1-b.2.1/\a.2.1-b.2.1<=n)/\-(n:Int)<=a.2.2-b.2.2/\a.2.2-b.2.2<=n
def amo(c:Ce)(i:Nat):Qb (H' c i) c 1:=by unfold H' Qb;split<;>(simp only;omega)
def adz{d c0:Ce}{r:Int}:∀{n:Nat}{s:S3}{h0 h:Hi},h∈H_ d c0 r n s h0->mK c0 h.1 r=true/\(h.2.1=h0.2.1\/0<=h.2.1/\h.2.1<6)/\Qb h.1 h0.1 n
 |0,s,h0,h,hm=>by cases hm
 |n+1,s,h0,h,hm=>by
  unfold H_ at hm
  split at hm
  ·rename_i hw
   rcases cu.1 hm with rfl|hm
   ·exact⟨hw,.inl rfl,by unfold Qb;omega⟩
   ·cases hq:iU d s h0 with
    |none=>rw[hq]at hm;cases hm
    |some q=>
     rw[hq]at hm
     have⟨h1,h2,h3⟩:=adz hm
     unfold iU at hq
     split at hq
     ·cases hq
     injection hq with hq
     refine⟨h1,.inr ?_,?_⟩
     ·rcases h2 with h2|h2
      ·rw[h2,<-hq]
       have:=at3 s
       simp only
       split<;>omega
      ·exact h2
     ·have hn:Qb q.2.1 h0.1 1:=by rw[<-hq];exact amo _ _
      unfold Qb at hn h3⊢;omega
  ·cases hm
def Vs:Rr:=((0,0,0),0,0,0)
def cM(M:Sm)(L:h_)(n:Int)(gE:Ce):Rr×Int:=
 match cE L n with
 |none=>(Vs,6)
 |some y=>if(lh (jc M.T.2) (pk y.1) gE 5).2=false then(Vs,13)else if(lh (jc M.T.2) (pk y.1) gE 5).1.2.1= -1 then(Vs,11)else((lh (jc M.T.2) (pk y.1) gE 5).1,0)
def Sv{b:eJ}{m:Int}(h:okB m b)(hm:m<=99970000000000):(-1600000000<=(ba (eN (pk b))).1/\(ba (eN (pk b))).1<=1600000000)/\(-1600000000<=(ba (eN (pk b))).2.1/\(ba (eN (pk b))).2.1<=1600000000)/\-1600000000<=(ba (eN (pk b))).2.2/\(ba (eN (pk b))).2.2<=1600000000:=by
 obtain⟨⟨h1,h2,h3⟩,-,h5,-⟩:=h;have ht:0<=Int.tdiv (b.ht*4) 5/\Int.tdiv (b.ht*4) 5<=1000000:=by rw[uI U];omega
 have e1:(ba (eN (pk b))).1=bY (dD (dU b.aw.1 0)):=rfl;have e2:(ba (eN (pk b))).2.1=bY (dD (dU b.aw.2.1 (Int.tdiv (b.ht*4) 5))):=rfl;have e3:(ba (eN (pk b))).2.2=bY (dD (dU b.aw.2.2 0)):=rfl;rw[e1,e2,e3];unfold bY dU dD;omega
def CC{a b r:Int}(h:sS a b r=true)(ha: -4000000000<=a/\a<=4000000000)(hb: -4000000000<=b/\b<=4000000000):a-b<=r/\b-a<=r:=by unfold sS at h;simp only[fF,cC]at h;rw[wI,wI]at h;exact h
def HR{f d:Ce}{r:Int}(hr:nt r<=5):∀h∈lj (eN f) (j9 d) (nt r),(((ba (eN f)).1-h.1.1<=5/\h.1.1-(ba (eN f)).1<=5)/\((ba (eN f)).2.1-h.1.2.1<=5/\h.1.2.1-(ba (eN f)).2.1<=5)/\(ba (eN f)).2.2-h.1.2.2<=5/\h.1.2.2-(ba (eN f)).2.2<=5)/\(h.2.1= -1\/0<=h.2.1/\h.2.1<6):=by
 intro h hh;have⟨h1,h2,h3⟩:=adz hh;replace h3:Qb h.1 (ba (eN f)) _:=h3;have hc:=vF (eN f);have hn:((3*(nt r).toNat+2:Nat):Int)<=17:=by omega
 unfold Qb at h3;unfold mK at h1;simp only[fF]at h1;have q1:=CC h1.1 U U;have q2:=CC h1.2.1 U U;have q3:=CC h1.2.2 U U;exact⟨⟨U,U,U⟩,h2⟩
def Rp{V:Ce->Int}{f d:Ce}{r:Int}(hr:nt r<=5){h:Rr}(e:lh V f d r=(h,true)): ((ba (eN f)).1-h.1.1<=5/\h.1.1-(ba (eN f)).1<=5)/\((ba (eN f)).2.1-h.1.2.1<=5/\h.1.2.1-(ba (eN f)).2.1<=5)/\((ba (eN f)).2.2-h.1.2.2<=5/\h.1.2.2-(ba (eN f)).2.2<=5)/\V h.1=h.2.1/\(h.2.2.1= -1\/0<=h.2.2.1/\h.2.2.1<6):=by
 unfold lh at e;split at e
 next x hx=>have⟨⟨h1,h2,h3⟩,h4⟩:=HR hr x (G6 hx);injection e with e1 e2;subst e1;exact⟨h1,h2,h3,rfl,h4⟩
 ·injection e with e1 e2
  cases e2
def afv{f d:Ce}{r:Int}(hr:nt r<=5)(hf:(-1600000000<=(ba (eN f)).1/\(ba (eN f)).1<=1600000000)/\(-1600000000<=(ba (eN f)).2.1/\(ba (eN f)).2.1<=1600000000)/\-1600000000<=(ba (eN f)).2.2/\(ba (eN f)).2.2<=1600000000): ∀h∈lj (eN f) (j9 d) (nt r),pQ h.1:=by
 intro h hh;obtain⟨h1,-⟩:=HR hr h hh;unfold pQ cH;omega
def aiQ:nt 5=5:=by decide
section
variable{F F':Nat->Prop}{w w':au}{g s o t:Nat}{M M':Sm}{occ:aC}{L:h_}
variable{av:List (Option Nat)}{k b:Nat}
def EL.at(he:EL w av L)(ha:av[k]? =some (some b)):∃y,cE L k=some y/\some y∈L/\Row w b (Gf y) j7:=by have⟨y,hy,hr⟩:=he.s k b ha;refine⟨y,?_,aQ hy,hr⟩;unfold cE;rw[if_pos U,iI,hy];rfl
def EL.at0(he:EL w av L)(ha:av[k]? =some none):cE L k=none:=by unfold cE;rw[if_pos U,iI,he.z k ha];rfl
variable{y:cQ}
def Xr(hr:Row w b (Gf y) j7):ah w (N (O b) 0) 0 (pc y.1):=by
 rw[aF];refine hr.y (o:=0) λj hj=>?_
 have hj:j<9:=hj;have:j=0\/j=1\/j=2\/j=3\/j=4\/j=5\/j=6\/j=7\/j=8:=by omega
 rcases this with rfl|rfl|rfl|rfl|rfl|rfl|rfl|rfl|rfl<;>rfl
def aqV(hr:Row w b (Gf y) j7):ah w (N (O b) 9) 0 [y.2.1,y.2.2.1,.bool y.2.2.2]:=by
 rw[aF];refine hr.y (o:=9) λj hj=>?_
 have hj:j<3:=hj;have:j=0\/j=1\/j=2:=by omega
 rcases this with rfl|rfl|rfl<;>rfl
def vL(h:EF F w g s o t M occ L){m:Int}(hL:ES m L)(hm:m<=99970000000000)(n:Int)(gE:Ce): ed 131 #[g,n,fQ gE] w (bT #[W_ (cM M L n gE).1,S (cM M L n gE).2]):=by
 apply xR.B;intro w0 e0 w1 e1;have x0:=aU e0;have z0:=zA e0;have r0:∃τ,Row w0 w (eV gE) τ:=⟨_,by rw[e0];exact Row.new w [_,_,_] _⟩;have x1:=aU e1;have z1:=zA e1;have⟨τ,r0⟩:=r0;have r1:=r0.ext x1;have lq:=x0.A x1;have h1:=h.ext lq;obtain⟨av,de,jm,-,-,-⟩:=h1.row;refine(E0 de jm.n n).mono ?_;rintro e w2 ⟨a,rfl,yE,hc⟩;subst yE;refine⟨_,rfl,rfl,rfl,?_⟩;rcases hc with⟨k,rfl,hk,ha⟩|⟨wD,rfl⟩
 case inr=>
  refine yes rfl λw4 e4=>⟨?_,lq.L e4 U⟩
  unfold cM;rw[vK jm.m wD];rfl
 cases a with
 |none=>
  refine yes rfl λw4 e4=>⟨?_,lq.L e4 U⟩
  unfold cM;rw[jm.at0 ha];rfl
 |some b=>
  have⟨y,hy,pL,WD⟩:=jm.at ha;have oky:=hL y pL;refine uN rfl (lC rfl (lC rfl ?_));have xd:=Ext.K w2;have hd:=nV w2;have eyn:=Sv oky hm;have hhb: -1000000000<=y.1.ht/\y.1.ht<=1000000000:=a1N oky.2.2.1
  have qG:cM M L k gE=if(lh (jc M.T.2) (pk y.1) gE 5).2=false then(Vs,13)else if(lh (jc M.T.2) (pk y.1) gE 5).1.2.1= -1 then(Vs,11)else((lh (jc M.T.2) (pk y.1) gE 5).1,0):=by unfold cM;rw[hy]
  have castS:∀{u:au},Ext w2.drew u->ed 191 #[.func (.func 113) #[t] #[],fQ (pk y.1),fQ gE,(5:Int)] u (bT #[W_ (lh (jc M.T.2) (pk y.1) gE 5).1,.bool (lh (jc M.T.2) (pk y.1) gE 5).2]):=λ{u} xu=>
   abl (h1.ext (xd.A xu)).tl rfl (pk y.1) gE 5 ⟨U,U,U⟩ (afv (by rw[aiQ];decide) eyn)
  generalize lh (jc M.T.2) (pk y.1) gE 5=ck at qG castS;have⟨⟨⟨cx,cy,cz⟩,cb,cf,ct⟩,cq⟩:=ck;have fin:∀{u:au},Ext w2.drew u->Z (!cq)
    (∀pw:au,pw=u.setRow w0 #[J,J,J,J,J,J]->Sl (.tuple #[.agg #[J,J,J,J,J,J],(13:Int)])=bT #[W_ (cM M L k gE).1,S (cM M L k gE).2]/\Ext w pw)
    (Z (cb==(-1))
     (∀pw:au,pw=u.setRow w0 #[J,J,J,J,J,J]->Sl (.tuple #[.agg #[J,J,J,J,J,J],(11:Int)])=bT #[W_ (cM M L k gE).1,S (cM M L k gE).2]/\Ext w pw)
     (∀pw:au,pw=u.setRow w0 #[cx,cy,cz,cb,cf,ct]->Sl (.tuple #[.agg #[cx,cy,cz,cb,cf,ct],(0:Int)])=bT #[W_ (cM M L k gE).1,S (cM M L k gE).2]/\Ext w pw)):=by
   intro u xu;have xx:=lq.A (xd.A xu);rw[qG];refine Z.mk (λhb=>λpw e30=>⟨?_,xx.L e30 U⟩) (λhb=>Z.mk (λlk=>λpw e30=>⟨?_,xx.L e30 U⟩) (λlk=>λpw e30=>⟨?_,xx.L e30 U⟩))
   ·have hb:cq=false:=by simpa using hb
    rw[if_pos hb];rfl
   ·have hb:cq=true:=by simpa using hb
    have lk:cb= -1:=by simpa using lk
    rw[if_neg (by simp[hb]),if_pos lk];rfl
   ·have hb:cq=true:=by simpa using hb
    have lk:¬cb= -1:=by simpa using lk
    rw[if_neg (by simp[hb]),if_neg lk]
  have wayL:∀{u:au},Ext w2.drew u->ah u (some ⟨w,0,none⟩) 0 (eV gE):=λxu=>Lo.wv (r1.ext (xd.A xu))
  have bdyL:∀{u:au},Ext w2.drew u->ah u (N (some ⟨b,0,none⟩) 0) 0 (pc y.1):=λxu=>Xr (WD.ext (xd.A xu))
  refine⟨_,_,_,_,_,_,_,_,_,bdyL (Ext.M _),?_,?_⟩
  ·refine(mh (h1.ext xd)).F λcp aBs=>?_
   subst aBs;refine⟨_,rfl,rfl,rfl,wayL (Ext.M _),bdyL (Ext.M _),?_,λIw e46=>?_⟩
   ·refine(HS y.1 hhb w2.drew).F λbZ dw=>?_
    have z16:=dw.size;refine⟨_,_,_,rfl,dw.k,dw.k,wayL dw,?_,λjV e33=>?_⟩
    ·refine(castS dw).F λeQ fe=>?_
     have z20:=fe.size;refine⟨_,_,_,_,_,_,_,rfl,fe.k,fe.k,λiZ e28 gI S8=>?_⟩;exact fin ((dw.A fe).A ((aU e28).L S8 (ak _)))
    ·have gA:=aU e33;have z33:=zA e33;refine(castS (dw.A gA)).F λke jW=>?_
     have z34:=jW.size;refine⟨_,_,_,_,_,_,_,rfl,jW.k,jW.k,jW.k,λnS e42=>?_⟩;exact fin (((dw.A gA).A jW).L e42 U)
   ·have oq:=aU e46;have z46:=zA e46;refine(HS y.1 hhb Iw).F λoE A9=>?_
    have z47:=A9.size;refine⟨_,_,_,rfl,A9.k,A9.k,A9.k,wayL (oq.A A9),(castS (oq.A A9)).F λw51 vp=>?_⟩;have z51:=vp.size;refine⟨_,_,_,_,_,_,_,rfl,vp.k,vp.k,vp.k,λpH TX=>?_⟩;exact fin (((oq.A A9).A vp).L TX U)
  ·intro Ov e63;have Bo:=aU e63;have z63:=zA e63;refine(mh (h1.ext (xd.A Bo))).F λH4 aBt=>?_
   subst aBt;refine⟨_,rfl,rfl,rfl,rfl,wayL Bo,bdyL Bo,(HS y.1 hhb H4).F λvR rG=>?_⟩;have z66:=rG.size;refine⟨_,_,_,rfl,rG.k,rG.k,rG.k,wayL (Bo.A rG),(castS (Bo.A rG)).F λwu CJ=>?_⟩;have z70:=CJ.size;refine⟨_,_,_,_,_,_,_,rfl,CJ.k,CJ.k,CJ.k,λuf e78=>?_⟩;exact fin (((Bo.A rG).A CJ).L e78 U)
end
def Qx{w:au}{g:Nat}{cs vs:LV}{E:aB}(hr:Row w g cs E){off:Nat}(hl:off+vs.length<=cs.length)(h1:One vs): Wr w (N (O g) off) vs.length/\∀w',w'=Vc.bB w (N (O g) off) vs->Row w' g (putCells cs off vs) E/\Mod (λi=>i=g) w w':=by
 rw[aF,eF];refine⟨hr.wr hl,λw' e=>?_⟩;rw[hr.bB hl h1]at e;subst e;exact⟨hr.set _,rfl,rfl,rfl,a05,λi _ hn=>setRow_other _ _ _ _ hn⟩
section
variable{F F':Nat->Prop}{w w':au}{g s o t:Nat}{M M':Sm}{occ:aC}{L:h_}
def EL.put{av:List (Option Nat)}(he:EL w av L){k b:Nat}(ha:av[k]? =some (some b)){y:cQ}(hr:Row w' b (Gf y) j7)(hs:∀a,some a∈av->a≠b->w'.heap[a]? =w.heap[a]?):EL w' av (L.set k (some y)):=by
 have hk:k<16:=by rw[<-he.n];exact(cG.1 ha).1
 refine⟨he.n,by rw[lO];exact he.m,λi a hi=>?_,λi hi=>?_,he.d⟩
 ·by_cases q:i=k
  ·subst q;rw[ha]at hi
   cases hi
   exact⟨y,uA (he.m▸hk),hr⟩
  ·have⟨x,h1,h2⟩:=he.s i a hi;refine⟨x,by rw[GO (Ne.symm q)];exact h1,h2.same (hs a (aQ hi) λe=>?_)⟩;subst e;exact q (he.d i k a hi ha)
 ·have q:i≠k:=λe=>by subst e;rw[ha]at hi;cases hi
  rw[GO (Ne.symm q)];exact he.z i hi
def dK.P{w0:au}(x:Ext w w0)(h:dK F w0 g s o t M occ L w'):dK F w g s o t M occ L w':=by have⟨F',h1,h2⟩:=h;exact⟨F',h1,(aJ.P x).trans h2⟩
def A2(L:h_)(n:Int)(i:Int×Int×aX):Int×h_:=match cE L n with|none=>(6,L)|some y=>(0,L.set n.toNat (some (y.1,i)))
def abw(h:EF F w g s o t M occ L)(n:Int)(i:Int×Int×aX):Y 133 #[g,n,.agg #[i.1,i.2.1,.bool i.2.2]] w λe w'=>e=S (A2 L n i).1/\dK F w g s o t M occ (A2 L n i).2 w':=by
 apply xU.B;intro w0 e0;have x0:=aU e0;have z0:=zA e0;have h0:=h.ext x0;have⟨av,de,jm,hFg,hFa,bq⟩:=h0.row;refine(E0 de jm.n n).mono ?_;rintro e w1 ⟨a,rfl,Tc,hc⟩;subst Tc;unfold A2;refine⟨_,rfl,rfl,?_⟩;rcases hc with⟨k,rfl,hk,ha⟩|⟨wD,rfl⟩
 case inr=>
  rw[vK jm.m wD];exact yes rfl ⟨rfl,dK.P x0 (h0.res (Ext.M _))⟩
 cases a with
 |none=>
  rw[jm.at0 ha];exact yes rfl ⟨rfl,dK.P x0 (h0.res (Ext.M _))⟩
 |some b=>
  have⟨y,hy,pL,WD⟩:=jm.at ha;have hb:=h.lt (i:=b);rw[hy];have H3:One [i.1,i.2.1,.bool i.2.2]:=a1q
  have⟨p1,p2⟩:=Qx WD (off:=9) (vs:=[S i.1,S i.2.1,.bool i.2.2]) (by show 9+3<=12;decide) H3;have hbw:b<w:=h.lt (hFa b (aQ ha));refine uN rfl (lC rfl (lC rfl ⟨⟨rfl,p1⟩,?_,λw3 e3=>?_⟩))
  ·intro q;have q:some b=some w:=q;have q:b=w:=ka1 q;omega
  have⟨q1,q2⟩:=p2 w3 e3;have q1:Row w3 b (Gf (y.1,i)) j7:=q1;have gl:b≠g:=λe=>de.ne WD kM.2.2 e.symm
  refine⟨rfl,dK.P x0 (bq (q2.mono λj _ hj=>.inr (by rw[hj];exact aQ ha)) (de.same (q2.same _ de.lt λe=>gl e.symm)) ?_ λa ha=>.inl ha)⟩;show EL w3 av (L.set ((k:Nat):Int).toNat (some (y.1,i)));rw[iI];exact jm.put ha q1 λa ha' hn=>q2.same _ (jm.lt ha') hn
def adw:eJ:=⟨(0,0,0),(0,0,0),0,0,false⟩
def dJ(L:h_)(n:Int):eJ×aX:=match cE L n with|none=>(adw,false)|some y=>(y.1,true)
def J7(h:EF F w g s o t M occ L)(n:Int):ed 47 #[g,n] w (bT #[Ip (dJ L n).1,.bool (dJ L n).2]):=by
 apply xV.B;intro w0 e0;have x0:=aU e0;have z0:=zA e0;have h0:=h.ext x0;obtain⟨av,de,jm,-,-,-⟩:=h0.row;refine(E0 de jm.n n).mono ?_;rintro e w1 ⟨a,rfl,Tc,hc⟩;subst Tc;unfold dJ;refine⟨_,rfl,rfl,?_⟩;rcases hc with⟨k,rfl,hk,ha⟩|⟨wD,rfl⟩
 case inr=>
  rw[vK jm.m wD];exact yes rfl λw3 e3=>⟨rfl,x0.L e3 U⟩
 cases a with
 |none=>
  rw[jm.at0 ha];exact yes rfl λw3 e3=>⟨rfl,x0.L e3 U⟩
 |some b=>
  have⟨y,hy,pL,WD⟩:=jm.at ha;rw[hy];exact uN rfl (lC rfl (lC rfl ⟨_,_,_,_,_,_,_,_,_,Xr WD,λbw Dz=>⟨rfl,x0.L Dz U⟩⟩))
def iA(M:Sm)(L:h_)(c:Ce)(b:Int):Int×Sm:=if aD b=true/\Gh L c=true then(12,M)else((jo M.T.2 c b).2,Ay M c b)
def Dx(h:EF F w g s o t M occ L){m:Int}(hL:ES m L)(c:Ce)(b:Int)(Er:pQ c)(hc:(jo M.T.2 c b).2=0->fh c)(hk:qB M 800000000):Y 126 #[g,fQ c,b] w λe w'=>e=S (iA M L c b).1/\dK F w g s o t (iA M L c b).2 occ L w':=by
 apply xS.B;intro w0 e0;have x0:=aU e0;have z0:=zA e0;have inner:∀{u:au},Ext w0 u->¬(aD b=true/\Gh L c=true)->∃p:ai,Vc.ld u (N (O g) 0)=some (.pointer p)/\
   Y 188 #[p,fQ c,b] u λe w6=>∃x7:Int,e=x7/\w6.heap[w.heap.size]? =u.heap[w.heap.size]?/\Sl x7=S (iA M L c b).1/\dK F w g s o t (iA M L c b).2 occ L w6:=by
  intro u xu hn;have hu:=h.ext (x0.A xu);have zu:=xu.size;have⟨Fs,hs,pG,dP,bq⟩:=hu.EN;refine⟨_,pG,(Dl hs c b Er hc hk).F λw6 hr=>?_⟩;have hk6:w6.heap[w.heap.size]? =u.heap[w.heap.size]? :=by obtain⟨F6,-,t6⟩:=hr;exact t6.mod.same _ U λq=>a1N (h.lt (dP _ q))
  unfold iA;rw[if_neg hn];exact⟨_,rfl,hk6,rfl,dK.P (x0.A xu) (bq hr)⟩
 refine(qV b w0).F λw1 Tc=>?_
 subst Tc;refine⟨_,rfl,rfl,Z.mk (λhb=>?_) (λhb=>inner (Ext.K _) λq=>by rw[hb]at q;cases q.1)⟩;have h1:=h.ext x0;obtain⟨av,de,jm,-,-,-⟩:=h1.row;refine(Kb de jm hL c).F λw3 x3=>?_
 have z3:=x3.size;refine⟨_,rfl,x3.k,Z.mk (λhq=>?_) (λhq=>?_)⟩
 ·unfold iA;rw[if_pos ⟨hb,hq⟩];exact⟨rfl,h.res (x0.A x3)⟩
 ·exact inner (x3.A (Ext.K _)) λq=>by rw[hq]at q;cases q.2
def HW(h:EF F w g s o t M occ L){m:Int}(hL:ES m L)(c:Ce)(hc:fh c)(b:Int)(hk:qB M 800000000):Y 126 #[g,fQ c,b] w λe w'=>e=S (iA M L c b).1/\dK F w g s o t (iA M L c b).2 occ L w':=
 Dx h hL c b hc.ok (λ_=>hc) hk
end
def jL(c:Ce)(m:Int):Prop:=(-m<=c.1/\c.1<=m)/\(-m<=c.2.1/\c.2.1<=m)/\-m<=c.2.2/\c.2.2<=m
def jL.wide{c:Ce}{m:Int}(h:jL c m)(hm:m<=2000000000):fh c:=by unfold jL at h;unfold fh;omega
def Ro{M:Sm}{L:h_}{n:Int}{gE:Ce}(e:(cM M L n gE).2=0):∃y,cE L n=some y/\some y∈L/\lh (jc M.T.2) (pk y.1) gE 5=((cM M L n gE).1,true)/\(cM M L n gE).1.2.1≠-1:=by
 unfold cM at e⊢
 cases hq:cE L n with
 |none=>rw[hq]at e;simp only at e;omega
 |some y=>
  rw[hq]at e;simp only at e⊢;have hm:some y∈L:=by
   unfold cE at hq;split at hq
   ·rcases J6.1 hq with hq;exact aQ hq
   ·cases hq
  refine⟨y,rfl,hm,?_⟩;split at e
  ·simp only at e;omega
  split at e
  ·simp only at e;omega
  rename_i h1 h2;rw[if_neg h1,if_neg h2];exact⟨Prod.ext rfl (ds h1),h2⟩
def Cr{M:Sm}{L:h_}{m:Int}(hL:ES m L)(hm:m<=99970000000000){n:Int}{gE:Ce}(e:(cM M L n gE).2=0):jL (cM M L n gE).1.1 1600000005/\jL (Sx (cM M L n gE).1).1 1600000006:=by
 have⟨y,h1,h2,h3,h4⟩:=Ro e;have hn:=Rp (by rw[aiQ];decide) h3;have he:=Sv (hL y h2) hm;have hc:jL (cM M L n gE).1.1 1600000005:=by unfold jL;omega
 refine⟨hc,?_⟩;generalize (cM M L n gE).1=h at hc;have⟨c,b,f,tt⟩:=h;unfold Sx;split
 ·rename_i hf;simp only at hf⊢;obtain⟨k,rfl⟩:∃k:Nat,f=k:=⟨f.toNat,U⟩;rw[iI];unfold jL at hc;have:k=0\/k=1\/k=2\/k=3\/k=4\/k=5:=by omega
  rcases this with rfl|rfl|rfl|rfl|rfl|rfl
  ·show jL (c.1-1,c.2.1,c.2.2) _;unfold jL;simp only;simp only at hc;omega
  ·show jL (c.1+1,c.2.1,c.2.2) _;unfold jL;simp only;simp only at hc;omega
  ·show jL (c.1,c.2.1-1,c.2.2) _;unfold jL;simp only;simp only at hc;omega
  ·show jL (c.1,c.2.1+1,c.2.2) _;unfold jL;simp only;simp only at hc;omega
  ·show jL (c.1,c.2.1,c.2.2-1) _;unfold jL;simp only;simp only at hc;omega
  ·show jL (c.1,c.2.1,c.2.2+1) _;unfold jL;simp only;simp only at hc;omega
 ·unfold jL;simp only;omega
def sW(M:Sm)(L:h_)(n:Int)(gE:Ce)(b:Int):Int×Sm:=
 if(cM M L n gE).2=6 then(6,M)else if cN b=false then(1,M)else if b=0 then(1,M)else if(cM M L n gE).2≠0 then((cM M L n gE).2,M)else if(Sx (cM M L n gE).1).2=false then(12,M)else iA M L (Sx (cM M L n gE).1).1 b
def mE(M:Sm)(L:h_)(n:Int)(gE:Ce):(Int×Int)×Sm:=
 if(cM M L n gE).2≠0 then((0,(cM M L n gE).2),M)else if(iA M L (cM M L n gE).1.1 0).1≠0 then((0,(iA M L (cM M L n gE).1.1 0).1),(iA M L (cM M L n gE).1.1 0).2)else(((cM M L n gE).1.2.1,0),(iA M L (cM M L n gE).1.1 0).2)
section
variable{F F':Nat->Prop}{w w':au}{g s o t:Nat}{M M':Sm}{occ:aC}{L:h_}
def dK.aV{k:Nat}(h:EF F w g s o t M occ L){w0:au}(x:Ext w w0)(hk:w<=k)(hk0:k<w0)(h0:∀i,F i->i<w){M':Sm}{occ':aC}{L':h_}(r:dK F w0 g s o t M' occ' L' w'):w'.heap[k]? =w0.heap[k]? :=by obtain⟨F',-,h2⟩:=r;exact h2.mod.same _ hk0 λq=>a1N (h0 _ q)
def SY(h:EF F w g s o t M occ L){m:Int}(hL:ES m L)(hm:m<=99970000000000)(n:Int)(gE:Ce)(b:Int)(hk:qB M 800000000): Y 127 #[g,n,fQ gE,b] w λe w'=>e=S (sW M L n gE b).1/\dK F w g s o t (sW M L n gE b).2 occ L w':=by
 apply we.B;intro w0 e0;have x0:=aU e0;have z0:=zA e0;refine(vL (h.ext x0) hL hm n gE).F λw1 x1=>?_
 have z1:=x1.size;refine⟨_,_,_,_,_,_,_,rfl,x1.k,λw9 e9 br vv=>?_⟩;have bL:Ext w1 br:=(aU e9).L vv (ak _);have z10:br.heap.size=w1.heap.size+1:=by rw[zR vv,zA e9]
 have OS:=x0.A (x1.A bL);unfold sW;refine Z.mk (λh6=>?_) (λh6=>(gZ b br).mono ?_)
 ·rw[if_pos (ds h6)];have h6:=eK h6;rw[h6];exact⟨rfl,h.res OS⟩
 rw[if_neg (ds h6)];rintro e bE ⟨rfl,bS⟩;have z11:=bS.size;have aks:=OS.A bS;refine⟨_,rfl,bS.k,bS.k,Z.mk (λhb=>?_) (λhb=>Z.mk (λOM=>?_) (λOM=>Z.mk (λhn=>?_) (λhn=>?_)))⟩
 ·rw[if_pos (ds hb)];exact⟨rfl,h.res aks⟩
 ·rw[if_neg (ds hb),if_pos (ds OM)];exact⟨rfl,h.res aks⟩
 ·rw[if_neg (ds hb),if_neg (ds OM),if_pos (ds hn)];exact⟨rfl,h.res aks⟩
 rw[if_neg (ds hb),if_neg (ds OM),if_neg (ds hn)];have hn0:=eK hn;have⟨hn1,hn2⟩:=Cr hL hm hn0;refine(Sy (cM M L n gE).1 (hn1.wide X) bE).F λbw cJ=>?_
 have z13:=cJ.size;refine⟨_,_,_,_,rfl,cJ.k,cJ.k,λdA Ot fm Td=>?_⟩;have dQ:Ext bw fm:=(aU Ot).L Td (ak _);have z19:fm.heap.size=bw.heap.size+1:=by rw[zR Td,zA Ot]
 have ace:=aks.A (cJ.A dQ);apply Z.mk<;>intro hq
 ·rw[if_pos (ds hq)];exact⟨rfl,h.res ace⟩
 rw[if_neg (ds hq)];refine(HW (h.ext ace) hL (Sx (cM M L n gE).1).1 (hn2.wide X) b hk).F λeQ r=>?_
 have hh:∀i,F i->i<w.heap.size:=λi=>h.lt
 exact⟨_,rfl,dK.aV h ace U U hh r,dK.aV h ace U U hh r,dK.aV h ace U U hh r,rfl,dK.P ace r⟩
def SZ(h:EF F w g s o t M occ L){m:Int}(hL:ES m L)(hm:m<=99970000000000)(n:Int)(gE:Ce)(hk:qB M 800000000): Y 129 #[g,n,fQ gE] w λe w'=>e=bT #[S (mE M L n gE).1.1,S (mE M L n gE).1.2]/\dK F w g s o t (mE M L n gE).2 occ L w':=by
 apply wg.B;intro w0 e0;have x0:=aU e0;have z0:=zA e0;refine(vL (h.ext x0) hL hm n gE).F λw1 x1=>?_
 have z1:=x1.size;refine⟨_,_,_,_,_,_,_,rfl,x1.k,λw9 e9 br vv=>?_⟩;have bL:Ext w1 br:=(aU e9).L vv (ak _);have z10:br.heap.size=w1.heap.size+1:=by rw[zR vv,zA e9]
 have OS:=x0.A (x1.A bL);unfold mE;refine Z.mk (λh0=>?_) (λh0=>yes (ds h0) ?_)
 ·have hn0:=eK h0;rw[if_neg (by simp[hn0])];obtain⟨hn1,-⟩:=Cr hL hm hn0;refine(HW (h.ext OS) hL (cM M L n gE).1.1 (hn1.wide X) 0 hk).F λbE r=>?_
  have hh:∀i,F i->i<w.heap.size:=λi=>h.lt
  refine⟨_,rfl,dK.aV h OS U U hh r,dK.aV h OS U U hh r,Z.mk (λhq=>?_) (λhq=>?_)⟩
  ·rw[if_pos (ds hq)];exact⟨rfl,dK.P OS r⟩
  ·rw[if_neg (ds hq)];exact⟨rfl,dK.P OS r⟩
 ·rw[if_pos (ds h0)];exact⟨rfl,h.res OS⟩
end
def wQ(M:Sm)(L:h_)(i:Nat):aX:=match cE L i with|some y=>BT M y.1|none=>false
def kJ(M:Sm)(L:h_):bf:=(List.range 16).filter (wQ M L)
def uP(M:Sm)(L:h_)(i:Nat):eJ:=match cE L i with|some y=>zU (jc M.T.2) y.1 y.2|none=>adw
def Gw(M:Sm)(L:h_):List eJ:=uX (jc M.T.2) ((kJ M L).map (uP M L))
def D4(L:h_)(i:Nat)(b:eJ):h_:=match cE L i with|some y=>L.set i (some (b,y.2))|none=>L
def Kf(L:h_)(l:List (Nat×eJ)):h_:=l.foldl (λL x=>D4 L x.1 x.2) L
def sD(M:Sm)(L:h_):h_:=Kf L ((kJ M L).zip (Gw M L))
def zS(M:Sm)(L:h_):Sm×h_:=(QT (Gh (sD M L)) M,sD M L)
abbrev tLp:aB:=61
def aqU(p:ai):One [.pointer p]:=by intro u hu;simp at hu;subst hu;rfl
section
variable{L:h_}{i:Nat}
def uQ{y:cQ}(h:cE L i=some y):some y∈L:=by unfold cE at h;rw[if_pos U,iI]at h;exact aQ (J6.1 h)
variable{M:Sm}
def zT(h:i∈kJ M L):i<16/\∃y,cE L i=some y:=by
 unfold kJ at h;have⟨h1,h2⟩:=jY.1 h;refine⟨qc.1 h1,?_⟩;unfold wQ at h2
 cases hq:cE L i with
 |none=>rw[hq]at h2;cases h2
 |some y=>exact⟨y,rfl⟩
variable{j:Nat}{b:eJ}
def afD:(cE (D4 L i b) j).isSome=(cE L j).isSome:=by
 unfold D4
 cases hq:cE L i with
 |none=>rfl
 |some y=>
  simp only;unfold cE at hq⊢;rw[if_pos U,iI]at hq⊢;rw[if_pos U];by_cases e:i=j
  ·subst e;have hq:=J6.1 hq;rw[uA (cG.1 hq).1,hq];rfl
  ·rw[GO e]
def Kj:∀(l:List (Nat×eJ))(L:h_),(cE (Kf L l) j).isSome=(cE L j).isSome
 | [],L=>rfl
 |x::l,L=>(Kj l (D4 L x.1 x.2)).trans afD
variable{m:Int}(h:ES m L)
def ani(hb:okB m b):ES m (D4 L i b):=by
 unfold D4
 cases hq:cE L i with
 |none=>exact h
 |some y=>
  intro z hz;rcases pY hz with hz|hz
  ·exact h z hz
  ·cases hz
   exact hb
def Xs:∀(l:List (Nat×eJ)) {L:h_},ES m L->(∀x∈l,okB m x.2)->ES m (Kf L l)
 | [],L,h,_=>h
 |x::l,L,h,hl=>Xs l (ani h (hl x bo)) λy hy=>hl y (by simp[hy])
def aii(M:Sm)(L:h_):(kJ M L).length<=16:=by have:=zy (wQ M L) (List.range 16);rw[Gx]at this;exact this
def adT(hm:m<=99970000000000):∀b∈(kJ M L).map (uP M L),okB (m+16777216) b:=by intro b hb;obtain⟨i,hi,rfl⟩:=bc.1 hb;obtain⟨-,y,hy⟩:=zT hi;unfold uP;rw[hy];exact aiv (h y (uQ hy)) hm
section
variable{F F':Nat->Prop}{w w':au}{g s o t:Nat}{M M':Sm}{occ:aC}{L:h_}
variable{av:List (Option Nat)}{k:Nat}{y:cQ}
def EL.awb(he:EL w av L){b:Nat}(ha:av[k]? =some (some b))(hy:cE L k=some y)(x:eJ){w':au}(hr:Row w' b (Gf (x,y.2)) j7)(hs:∀a,some a∈av->a≠b->w'.heap[a]? =w.heap[a]?):EL w' av (D4 L k x):=by
 have e:D4 L k x=L.set k (some (x,y.2)):=by unfold D4;rw[hy]
 rw[e];exact he.put ha hr hs
def EL.full(he:EL w av L)(hk:k<16)(hy:cE L k=some y):∃b,av[k]? =some (some b)/\Row w b (Gf y) j7:=by
 have⟨a,ha⟩:=bX (l:=av) (i:=k) (he.n▸hk)
 cases a with
 |none=>rw[he.at0 ha]at hy;cases hy
 |some b=>
  obtain⟨z,h1,-,h3⟩:=he.at ha;rw[h1]at hy
  cases hy
  exact⟨b,ha,h3⟩
def SF.oc{Fs:Nat->Prop}(h2:SF Fs w s o t M occ){p:aC}(h1:Row w g (p::av.map pA) uw)(h3:EL w av L){m:Int}(hL:ES m L):Oc (.func (.func 84) #[g] #[]) (Gh L) Fs w:=by
 have ng:¬Fs g:=h2.pX h1 kM.1.1 kM.1.2.1 kM.1.2.2.1 kM.1.2.2.2.1 kM.1.2.2.2.2.1 kM.1.2.2.2.2.2.1 kM.1.2.2.2.2.2.2;have na:∀a,some a∈av->¬Fs a:=λa ha=>Pl
 refine⟨λi=>i=g\/some i∈av,λi hi=>?_,λw' hk c _=>bR (by kernel_rfl) rfl (Kb (h1.same (hk _ (.inl rfl))) (h3.same λa ha=>hk a (.inr ha)) hL c)⟩;rcases hi with rfl|hi
 ·exact⟨h1.lt,ng⟩
 ·exact⟨h3.lt hi,na i hi⟩
end
end
section
variable{F F':Nat->Prop}{w w':au}{g s o t:Nat}{M M':Sm}{occ:aC}{L:h_}
abbrev Qw(M:Sm)(L:h_)(j:Nat):h_:=Kf L (((kJ M L).zip (Gw M L)).take j)
def ZD{j:Nat}{i:Nat}{b:eJ}(hi:(kJ M L)[j]? =some i)(hb:(Gw M L)[j]? =some b):Qw M L (j+1)=D4 (Qw M L j) i b:=by
 have e:((kJ M L).zip (Gw M L))[j]? =some (i,b):=by rw[List.getElem?_zip_eq_some];exact⟨hi,hb⟩
 unfold Qw Kf;rw[dq,e,og];rfl
def adS(h:(Gw M L).length=(kJ M L).length):Qw M L (kJ M L).length=sD M L:=by unfold Qw sD;rw[dN (by rw[List.length_zip,h];omega)]
def Kg(h:EF F w g s o t M occ L){m:Int}(hL:ES m L)(hm0:0<=m)(hm:m<=99900000000000)(hd:Xq (uO M))(hk:qB M 600000000)(ayB:1<=M.dz/\M.dz<=64): Y 50 #[g] w λe w'=>e=S (uO M).length/\dK F w g s o t (zS M L).1 (.func (.func 84) #[g] #[]) (zS M L).2 w'/\ES (m+3300000000) (zS M L).2:=by
 apply xP.B;have⟨av,de,jm,hFg,hFa,bq⟩:=h.row;have pG:ah w (N (O g) 1) 0 (av.map pA):=a0W
 have⟨b0,b1,b2,b3,b4,b5,b6,b7,b8,b9,b10,b11,b12,KX,Wc,Ym,hav⟩:=M3 jm.n;have gd:∀k:Nat,k<16->∃a:Option Nat,(([b0,b1,b2,b3,b4,b5,b6,b7,b8,b9,b10,b11,b12,KX,Wc,Ym]:List (Option Nat)).map pA)[((k:Nat):Int).toNat*1]? =some (pA a)/\av[k]? =some a:=λk hk=>by have⟨a,ha⟩:=bX (l:=av) (i:=k) (jm.n▸hk);exact⟨a,by rw[<-hav,iI,zp,aW,ha];rfl,ha⟩
 rw[hav]at pG;have atk:∀i:Nat,i∈kJ M L->∃b y,av[i]? =some (some b)/\cE L i=some y/\Row w b (Gf y) j7:=λi hi=>by have⟨h1,y,hy⟩:=zT hi;have⟨b,h2,h3⟩:=jm.full h1 hy;exact⟨b,y,h2,hy,h3⟩
 have hwl:=aii M L
 let ptr:Nat->LV:=λi=>[pA (av.getD i none)]
 have ptr_eq:∀{i:Nat}{a:Option Nat},av[i]? =some a->ptr i=[pA a]:=λ{i a} ha=>by show [pA (av.getD i none)]=_;rw[dG,ha];rfl
 refine⟨_,_,_,_,_,_,_,_,_,_,_,_,_,_,_,_,pG,λn x sl wr=>∃k:Nat,x=k/\k+n=16/\ar w tLp 1 wr sl (((List.range k).filter (wQ M L)).map ptr)/\Ext w wr,⟨16,0,rfl,rfl,ar.nil,Ext.M _⟩,?_⟩;rintro n us x sl wr ⟨k,rfl,hk',ho,xr⟩;have zr:=xr.size;apply Z.mk<;>intro hb
 ·have hb:=eK hb;have⟨a,ha,ha'⟩:=gd k U;have wk:=nE (j:=k);have cX:sl.n<=16:=by have h1:=(ho.rd (show 0<1 by decide)).n;have h2:=zy (wQ M L) (List.range k);rw[aK]at h1;rw[Gx]at h2;omega
  have skip:wQ M L k=false->∀{u:au},Ext wr u->∃n22,n22<n/\∃k':Nat,I ((k:Int)+1)=k'/\k'+n22=16/\ar w tLp 1 u ⟨sl.a,sl.n,sl.c⟩ (((List.range k').filter (wQ M L)).map ptr)/\Ext w u:=λhq {u} xu=>by refine⟨n-1,U,k+1,wk,U,?_,xr.A xu⟩;rw[Ki,wG,cl,W7 (by rw[hq];decide)];simpa using ho.ext xu
  refine⟨⟨U,U⟩,_,ha,?_⟩
  cases a with
  |none=>
   refine uN rfl (skip ?_ (Ext.M _));unfold wQ;rw[jm.at0 ha']
  |some b=>
   have⟨y,hy,pL,WD⟩:=jm.at ha';refine yes rfl (lC rfl (lC rfl ⟨_,_,_,_,_,_,_,_,_,Xr (WD.ext xr),(C7 (h.ext xr) y.1).F λjV gA=>?_⟩));have z33:=gA.size;have hwake:wQ M L k=BT M y.1:=by unfold wQ;rw[hy]
   refine⟨_,rfl,Z.mk (λhq=>λiD e35=>?_) (λhq=>skip (hwake▸hq) gA)⟩;subst e35;have⟨Te,hres8⟩:=(ho.ext gA).l6 (bytes:=8) (news:=[pA (some b)]) (.cells #[pA (some b)] tLp) U rfl (aqU _) U U;refine⟨Te,λs36 jD ayC=>?_⟩;obtain⟨f8,KZ,hn8,x8,hk8,-⟩:=hres8 s36 jD ayC;refine⟨f8,n-1,U,k+1,wk,U,?_,(Below.trans (xr.A gA) x8:Below w w jD)⟩;rw[Ki,wG,cl,W6 (hwake▸hq)];show ar _ _ _ _ _ (_++[ptr k]);rw[ptr_eq ha'];exact KZ
 have hb:=eK hb;have EG:k=16:=by omega
 subst EG;replace ho:ar w tLp 1 wr sl ((kJ M L).map ptr):=ho;have tE:sl.n=(kJ M L).length:=by rw[(ho.rd (show 0<1 by decide)).n,aK]
 have slk:∀b,sl.D=some b->w.heap.size<=b/\b<wr.heap.size:=λb hb=>ho.own.lt hb
 refine⟨λn x s2 iO=>∃j:Nat,x=j/\j+n=(kJ M L).length/\ar wr DR 9 iO s2 ((((kJ M L).take j).map (uP M L)).map pc)/\Ext wr iO,⟨(kJ M L).length,0,rfl,U,ar.nil,Ext.M _⟩,?_⟩;rintro n2 Bn x s2 iO ⟨j,rfl,hj,ho2,vU⟩;have z43:=vU.size;apply Z.mk<;>intro hb
 ·have hb:=eK hb;have hjw:j<(kJ M L).length:=by omega
  have⟨i,hi⟩:=bX (l:=kJ M L) (i:=j) hjw;have⟨b,y,hab,hy,WD⟩:=atk i (aQ hi);have agI:=(ho.ext vU).rd (show 0<1 by decide);have Yu:((kJ M L).map ptr)[j]? =some [pA (some b)]:=by rw[aW,hi];exact congrArg some (ptr_eq hab)
  have aoO:Vc.ld iO (N sl.a ((j:Int).toNat*1))=some (pA (some b)):=a0T
  have xd:=Ext.K iO;have hbdL:∀{u:au},Ext iO u->ah u (N (O b) 0) 0 (pc y.1):=λxu=>Xr (WD.ext (xr.A (vU.A xu)))
  have hinL:∀{u:au},Ext iO u->ah u (N (O b) 9) 0 [S y.2.1,S y.2.2.1,.bool y.2.2.2]:=λxu=>aqV (WD.ext (xr.A (vU.A xu)))
  refine⟨agI.jX X U U,_,aoO,lC rfl (lC rfl ⟨_,_,_,_,_,_,_,_,_,hbdL xd,lC rfl (lC rfl ⟨_,_,_,hinL xd,(mh (h.ext (xr.A (vU.A xd)))).F λvQ ayE=>?_⟩)⟩)⟩;subst ayE;have oky:=hL y (uQ hy);refine⟨_,rfl,hinL xd,hbdL xd,(UX (h.ext (xr.A (vU.A xd))).tl rfl y.1 oky.wdi oky.2.2.2 (oky.zG U) U y.2).F λlV qF=>?_⟩;have z60:=qF.size;have zd:=nV iO;refine⟨_,_,_,_,_,_,_,_,_,rfl,λwu e70=>?_⟩;subst e70;have cX:s2.n<=16:=by have h1:=(ho2.rd (show 0<9 by decide)).n;rw[aK,aK,cS]at h1;omega
  have⟨Te,hres8⟩:=(ho2.ext (xd.A qF)).l6 (bytes:=72) (news:=pc (zU (jc M.T.2) y.1 y.2)) (.cells (pc (zU (jc M.T.2) y.1 y.2)).toArray DR) U rfl (M4 _) U U;refine⟨Te,λs71 w72 ayF=>?_⟩;obtain⟨f8,KZ,hn8,x8,hk8,-⟩:=hres8 s71 w72 ayF;have wk:=nE (j:=j);refine⟨f8,n2-1,U,j+1,wk,U,?_,(Below.trans (vU.A (xd.A qF)) x8:Below wr wr w72)⟩;rw[dq,hi,cl,cl];have e1:uP M L i=zU (jc M.T.2) y.1 y.2:=by unfold uP;rw[hy]
  show ar _ _ _ _ _ (_++[pc (uP M L i)]);rw[e1];exact KZ
 have hb:=eK hb;have hjw:j=(kJ M L).length:=by omega
 subst hjw;rw[kB]at ho2;have h43:=h.ext (xr.A vU);refine(mh h43).F λJu ayG=>?_
 subst ayG;refine⟨_,rfl,(UY h43.tl rfl ho2 (by rw[aK];exact hwl) (adT hL U) U U).mono ?_⟩;rintro e uh ⟨s76,rfl,agJ,Lc,hok,hln⟩;rw[aK]at hln;replace agJ:ar Ju DR 9 uh s76 ((Gw M L).map pc):=agJ;replace hln:(Gw M L).length=(kJ M L).length:=hln;replace hok:∀b∈Gw M L,okB (m+16777216+16*16*12582912) b:=hok;have z75:=Lc.size;have s76k:∀b,s76.D=some b->Ju.heap.size<=b/\b<uh.heap.size:=λb hb=>agJ.own.lt hb
 have aFW:s76.n=(kJ M L).length:=by rw[(agJ.rd (show 0<9 by decide)).n,aK,hln]
 have agK:=xr.A (vU.A Lc);have avlt:∀a,some a∈av->a<w.heap.size:=λa ha=>jm.lt ha
 have gl:∀a,some a∈av->a≠g:=λa ha q=>a02
 refine⟨s76,rfl,λn x wA=>∃j:Nat,x=j/\j+n=(kJ M L).length/\EL wA av (Qw M L j)/\Mod (λi=>some i∈av) uh wA,⟨(kJ M L).length,0,rfl,U,(jm.same λa ha=>agK.heap (jm.lt ha)),Mod.refl _ _⟩,?_⟩;rintro n3 us3 x wA ⟨j,rfl,hj,ajY,m81⟩;have z81:=m81.size;apply Z.mk<;>intro hb
 ·have hb:=eK hb;have hjw:j<(kJ M L).length:=by omega
  have⟨i,hi⟩:=bX (l:=kJ M L) (i:=j) hjw;have⟨x,hx⟩:=bX (l:=Gw M L) (i:=j) U;obtain⟨b,y0,hab,hy0,-⟩:=atk i (aQ hi);have ab2:=(zT (aQ hi)).1;obtain⟨y,hy⟩:∃y,cE (Qw M L j) i=some y:=by
   have:=Kj (j:=i) (((kJ M L).zip (Gw M L)).take j) L;rw[hy0]at this
   cases hq:cE (Qw M L j) i with
   |none=>rw[hq]at this;cases this
   |some y=>exact⟨y,rfl⟩
  have⟨b',asn,WD⟩:=ajY.full ab2 hy;rw[hab]at asn
  cases asn
  have hrd76:=(m81.gR agJ λb hb hq=>by have:=s76k b hb;have:=avlt b hq;omega).rd (show 0<9 by decide);have hrx:((Gw M L).map pc)[j]? =some (pc x):=by rw[aW,hx];rfl
  refine⟨hrd76.jX X U U,_,_,_,_,_,_,_,_,_,hrd76.y hrx,λw92 e92 Ld e93=>?_⟩;have Wi:Ext wA Ld:=(aU e92).L e93 (ak _);have z93:Ld.heap.size=wA.heap.size+1:=by rw[zR e93,zA e92]
  have xd:=Wi.A (Ext.K Ld);have agI:=(((m81.gR ((ho.ext vU).ext Lc) λb hb hq=>by have:=slk b hb;have:=avlt b hq;omega).ext Wi).ext (Ext.K Ld)).rd (show 0<1 by decide);have Yu:((kJ M L).map ptr)[j]? =some [pA (some b)]:=by rw[aW,hi];exact congrArg some (ptr_eq hab)
  have aoO:Vc.ld Ld.drew (N sl.a ((j:Int).toNat*1))=some (pA (some b)):=a0T
  have aFY:=avlt b (aQ hab);have hwz:=agK.size;have⟨p1,p2⟩:=Qx (WD.ext xd) (off:=0) (vs:=pc x) (by show 0+9<=12;decide) (M4 x);refine⟨agI.jX X U U,_,aoO,lC rfl (lC rfl ⟨⟨rfl,p1⟩,?_,λw95 e95=>?_⟩)⟩
  ·intro q;have q:some b=some wA.heap.size:=q;have q:b=wA.heap.size:=ka1 q;omega
  have⟨q1,q2⟩:=p2 w95 e95;have q1:Row w95 b (Gf (x,y.2)) j7:=q1;have wk:=nE (j:=j);refine⟨n3-1,U,j+1,wk,U,?_,m81.trans ((Mod.P xd).trans (q2.mono λi _ hi=>by rw[hi];exact aQ hab))⟩;rw[ZD hi hx];refine ajY.awb hab hy x q1 λa ha hn=>?_
  have:=avlt a ha;exact(q2.same a (a1N xd.size) hn).trans (xd.k)
 have hb:=eK hb;have hjw:j=(kJ M L).length:=by omega
 subst hjw;rw[adS hln]at ajY;have ayH:Mod (λi=>i=g\/some i∈av) w wA:=(Mod.P agK).trans (m81.mono λi _ hi=>.inr hi);have⟨F81,h81,t81⟩:=bq ayH (de.ext agK|>.same (m81.same _ (by have:=agK.size;have:=de.lt;omega) λq=>gl g q rfl)) ajY λa ha=>.inl ha
 have hok2:ES (m+3300000000) (sD M L):=Xs _ (hL.up U) λx hx=>(hok x.2 (List.of_mem_zip hx).2).up U
 have⟨Fs,hs,pG,dP,hresS⟩:=h81.EN;refine⟨_,pG,(M5 hs (.func 84) #[g] #[]).mono ?_⟩;rintro e w97 ⟨rfl,hr,-⟩;refine⟨rfl,?_⟩;have⟨F97,h97,t97⟩:=hresS hr;have⟨Fs2,yL,hld2,hsub2,hresS2⟩:=h97.EN;obtain⟨av2,hrow2,hel2,-,-,-⟩:=h97.row;refine⟨_,hld2,(ZE yL (yL.oc hrow2 hel2 hok2) hd hk ayB).F λIu jT=>?_⟩;have⟨F99,h99,t99⟩:=hresS2 jT;exact⟨_,rfl,rfl,⟨F99,h99,t81.trans (t97.trans t99)⟩,hok2⟩
end
structure Ap(B:Nat)(w0:au)(s0:H)(w:au)(s:H)(b:ab):Prop where
 own:nY B w s b
 bel:Below B w0 w
 Vf:∀j,s0.D≠some j->j<w0->w.heap[j]? =w0.heap[j]?
 D:∀j,s.D=some j->s0.D=some j\/w0<=j
 low:B<=w0
section
variable{B:Nat}{w:au}{s:H}{b:ab}
def Ap.refl(h:nY B w s b)(hB:B<=w):Ap B w s w s b:=⟨h,Below.refl _ _,λ_ _ _=>rfl,λ_ hj=>.inl hj,hB⟩
variable{w0:au}{s0:H}(h:Ap B w0 s0 w s b)
def Ap.ext{u:au}(x:Ext w u):Ap B w0 s0 u s b:=
 ⟨h.own.ext x,Below.trans h.bel (Below.mono x (cV h.low h.bel.size)),λj hj hl=>(x.heap (gK hl h.bel.size)).trans (h.Vf j hj hl),h.D,h.low⟩
def Ap.n:s.n=b.length:=by rw[(h.own.rd X).n,aK]
def Ap.app(news:ab)(hl:b.length+news.length<=1000000): bj 1 1 w s news.length (news.map yv).flatten/\∀s' w',aY jG 1 w s news.length (news.map yv).flatten s' w'->Ap B w0 s0 w' s' (b++news)/\(∀j,s.D≠some j->j<w.heap.size->w'.heap[j]? =w.heap[j]?)/\(s'.D=s.D\/s'.D=some w.heap.size)/\w.heap.size<=w'.heap.size:=by
 have hn:=h.n;have hlm:(news.map yv).length=news.length:=aK ..;have hB:B<=w:=cV h.low h.bel.size;have⟨hp,hr⟩:=h.own.FB (bytes:=1) (more:=news.map yv) hB (λr hr=>by obtain⟨x,-,rfl⟩:=bc.1 hr;rfl) (λr hr=>by obtain⟨x,-,rfl⟩:=bc.1 hr;exact wE _ _) U U;rw[hlm]at hp hr;refine⟨hp,λs' w' bq=>?_⟩;have⟨h1,h2,h3,h4,h5⟩:=hr s' w' bq;have hz:=h3.size;have hz0:=h.bel.size;refine⟨⟨by show ar _ _ _ _ _ ((b++news).map yv);rw[cl];exact h1,Below.trans h.bel h3,λj hj hl=>?_,λj hj=>?_,h.low⟩,h4,h5,h3.size⟩
 ·have:s.D≠some j:=λe=>by
   rcases h.D j e with q|q
   ·exact hj q
   ·omega
  exact(h4 j this U).trans (h.Vf j hj hl)
 ·rcases h5 with q|q
  ·exact h.D j (q▸hj)
  ·rw[q]at hj;injection hj with hj;exact .inr U
variable{j:Nat}
def Ap.ne(hj:w<=j):s.D≠some j:=λe=>a1N ((h.own.own.lt e).2)
variable{v:au}{o:Obj}
def Ap.l6(news:ab)(hl:b.length+news.length<=1000000)(e:v=w.alloc o): bj 1 1 v s news.length (news.map yv).flatten/\∀s' w',aY jG 1 v s news.length (news.map yv).flatten s' w'->Ap B w0 s0 w' s' (b++news)/\w'.heap[w.heap.size]? =v.heap[w.heap.size]?/\(∀j,s.D≠some j->j<v.heap.size->w'.heap[j]? =v.heap[j]?)/\(s'.D=s.D\/s'.D=some v.heap.size)/\v.heap.size<=w'.heap.size:=by
 have⟨hp,hr⟩:=(h.ext (aU e)).app news hl;have z:=zA e;refine⟨hp,λs' w' bq=>?_⟩;have⟨h1,h2,h3,h4⟩:=hr s' w' bq;exact⟨h1,h2 _ (h.ne (ak _)) U,h2,h3,h4⟩
variable{s':H}
def sJ{n:Nat}(hb:s'.D=s.D\/s'.D=some n)(h1:s.D≠some j)(h2:n≠j):s'.D≠some j:=λe=>by
 rcases hb with q|q
 ·exact h1 (q.symm.trans e)
 ·rw[q]at e
  injection e with e
  exact h2 e
def Ap.off(hj:s0.D≠some j)(hl:j<w0):s.D≠some j:=λe=>by
 rcases h.D j e with q|q
 ·exact hj q
 ·omega
def Ap.trans{w':au}{b':ab}(k:Ap B w s w' s' b'):Ap B w0 s0 w' s' b':=
 ⟨k.own,Below.trans h.bel k.bel,λj hj hl=>(k.Vf j (h.off hj hl) (gK hl h.bel.size)).trans (h.Vf j hj hl),λj hj=>(k.D j hj).elim (λq=>h.D j q) λq=>.inr (cV h.bel.size q),h.low⟩
variable{o:aB}{l:ab}
def rdI(e:v=w.alloc (.cells (l.map (vc .i64)).toArray o)):RdK v ⟨O w,l.length,l.length⟩ 1 (l.map iv):=by
 have hr:Row v w (l.map (vc .i64)) o:=by rw[e];exact Row.new w _ _
 have hf:∀l:ab,(l.map iv).flatten=l.map (vc .i64):=λl=>by
  induction l with
  |nil=>rfl
  |cons a l ih=>rw[eH,kX,ih];rfl
 exact(ar.jO (B:=0) (k:=1) (eG _) hr (by rw[aK];omega) (ak _) (by rw[hf,dN (by rw[aK];omega)]) λr hr=>by obtain⟨x,-,rfl⟩:=bc.1 hr;rfl).rd X
def Xz(n:Int):Nat->Int
 |0=>n/1099511627776%256
 |1=>n/4294967296%256
 |2=>n/16777216%256
 |3=>n/65536%256
 |4=>n/256%256
 |_=>n%256
def j3(n:Int):ab:=(List.range 6).map (Xz n)
def qt(l:ab):ab:=(l.map j3).flatten
def uz(n:Int):(j3 n).length=6:=rfl
def AH(l:ab):(qt l).length=6*l.length:=by
 unfold qt
 induction l with
 |nil=>rfl
 |cons a l ih=>rw[eH,kX,cj,ih,uz,cL];omega
def aac{k:Nat}{n:Int}(h:l[k]? =some n):qt (l.take (k+1))=qt (l.take k)++j3 n:=by unfold qt;rw[dq,h,cl,zm];simp
def ac4(n:Int)(q:Nat):0<=Xz n q/\Xz n q<256:=by unfold Xz;split<;>omega
def aad{α:Type}(f:Nat->α)(q:Nat):(List.range (q+1)).map f=(List.range q).map f++[f q]:=by rw[Ki,cl];rfl
def aiI(n:Int)(q:Nat)(hq:q<6):qH (n.fdiv (2^(min (I (8*(5-(q:Int)))).toNat 64)))=Xz n q:=by
 rw[wrap_u8];have:q=0\/q=1\/q=2\/q=3\/q=4\/q=5:=by omega
 rcases this with rfl|rfl|rfl|rfl|rfl|rfl
 all_goals
  rw[tj _ X]
 ·show n/1099511627776%256=_;rfl
 ·show n/4294967296%256=_;rfl
 ·show n/16777216%256=_;rfl
 ·show n/65536%256=_;rfl
 ·show n/256%256=_;rfl
 ·show n/1%256=_;rw[Int.ediv_one];rfl
def q9(h:nY B w s b)(hB:B<=w){s1:H}(hl:RdK w s1 1 (l.map iv))(gl:l≠[]->∀j,s1.D=some j->s.D≠some j)(cX:b.length+6*l.length<=900000): Y 59 #[s,s1] w λe w'=>∃s':H,e=s'/\Ap B w s w' s' (b++qt l):=by
 apply Vg.B;have hn1:s1.n=l.length:=by rw[hl.n,aK]
 refine⟨λn x sl wr=>∃k:Nat,x=k/\k+n=l.length/\Ap B w s wr sl (b++qt (l.take k)),⟨l.length,0,rfl,U,by rw[JO];show Ap B w s w s (b++[]);rw[oV];exact Ap.refl h hB⟩,?_⟩;rintro n us x sl wr ⟨k,rfl,hk,ha⟩;apply Z.mk<;>intro hq
 ·have hq:=eK hq;have Yv:k<l.length:=by omega
  have⟨y,hy⟩:=bX Yv;have azM:l≠[]:=λe=>by rw[e]at Yv;exact absurd Yv bo
  have gF:RdK wr s1 1 (l.map iv):=hl.akO λhrn j hj=>ha.Vf j (gl azM j hj) (hl.Me X hrn hj)
  have hyi:(l.map iv)[k]? =some (iv y):=by rw[aW,hy];rfl
  have pG:=gF.at hyi (j:=0) (v:=S y) rfl;rw[gk]at pG;have hdl:(qt (l.take k)).length=6*k:=by rw[AH,cS];omega
  have wk:=nE (j:=k);refine⟨gF.jX X U hq,y,pG,λn x qo bw=>∃q:Nat,x=5-(q:Int)/\q+n=6/\Ap B w s bw qo (b++qt (l.take k)++(List.range q).map (Xz y)),⟨6,0,rfl,rfl,ds ha⟩,?_⟩;rintro n9 agB x qo bw ⟨q,rfl,hq6,hA⟩;apply Z.mk<;>intro hc
  ·have hc:=eK hc;rw[aiI y q U];refine bO.2 ⟨EJ.2 (by rw[wI];omega),λc9 pC=>?_⟩;have⟨hp,hr⟩:=hA.l6 [Xz y q] (by simp only[cj,aK,Gx,hdl,cL,mV];omega) pC;refine⟨hp,λs16 cP h17=>?_⟩;obtain⟨h1,h2,-⟩:=hr s16 cP h17;refine⟨h2,n9-1,U,q+1,by rw[wI];omega,U,?_⟩;rw[aad,<-fT];exact h1
  ·have hc:=eK hc;have:q=6:=by omega
   subst this;refine⟨n-1,U,k+1,wk,U,?_⟩;rw[aac hy,<-fT];exact hA
 ·have hq:=eK hq;have:k=l.length:=by omega
  subst this;rw[kB]at ha;exact⟨sl,rfl,ha⟩
end
def stB(b:aX):Int:=if b then 1 else 0
abbrev tk(b:eJ):ab:=[b.aw.1,b.aw.2.1,b.aw.2.2,b.speed.1,b.speed.2.1,b.speed.2.2,b.wd,b.ht]
def BD(i:Int)(b:eJ):ab:=i::(qt (tk b)++[stB b.fG])
def FG(L:h_)(i:Int):ab:=match cE L i with|some y=>BD i y.1|none=>[]
def dT(L:h_)(l:ab):ab:=(l.map (FG L)).flatten
def ir(x:dS.It):ab:=qt [x.1,x.2.1,x.2.2.1,x.2.2.2]
def ij(l:List dS.It):ab:=[((min l.length 2000:Nat):Int)/256%256,((min l.length 2000:Nat):Int)%256]++((l.take 2000).map ir).flatten
def fZ(now:Int)(n:Nat):ab:=j3 now++[(n:Int)%256]
def dy(M:Sm)(L:h_):ab:=fZ M.now (bh L).length++dT L (bh L)++ij M.q.l
def uy(L:h_):(bh L).length<=16:=by unfold bh;rw[aK];have:=zy (λi:Nat=>(cE L (i:Nat)).isSome) (List.range 16);rw[Gx]at this;exact this
def ux{L:h_}{x:Int}(h:x∈bh L):∃i:Nat,x=i/\i<16/\∃y,cE L i=some y:=by unfold bh at h;obtain⟨i,hi,rfl⟩:=bc.1 h;have⟨h1,h2⟩:=jY.1 hi;exact⟨i,rfl,qc.1 h1,qI.1 h2⟩
def VP(i:Int)(b:eJ):(BD i b).length=50:=by unfold BD;rw[cL,cj,AH];rfl
def rR(L:h_):∀l:ab,(dT L l).length<=50*l.length
 | []=>ak _
 |x::l=>by
  have:=rR L l
  unfold dT at this⊢
  rw[eH,kX,cj,cL]
  have:(FG L x).length<=50:=by
   unfold FG;split
   ·rw[VP];exact ak _
   ·exact eG _
  omega
def Sf(x:dS.It):(ir x).length=24:=by unfold ir;rw[AH];rfl
def KK{α:Type}(f:α->ab){l:List α}{k:Nat}{x:α}(h:l[k]? =some x):((l.take (k+1)).map f).flatten=((l.take k).map f).flatten++f x:=by rw[dq,h,cl,zm];simp
def Lz:∀l:List dS.It,(l.map ir).flatten.length=24*l.length
 | []=>rfl
 |x::l=>by rw[eH,kX,cj,Sf,Lz l,cL];omega
def am5{B E k:Nat}{w:au}{s:H}{xs:LV}(h:Vc.Own B E k w s xs):s.n<=s.c:=by
 cases h with
 |nil=>exact ak _
 |row g n c cs hg hr hc hn=>exact hn
def Sg{w:au}{b:Nat}{y:cQ}(hr:Row w b (Gf y) j7)(j:Nat){v:aC}(h:(Gf y)[j]? =some v):ah w (N (O b) j) 0 [v]:=by rw[aF,eF];exact xG hr h
def A1{w:au}{b:Nat}{y:cQ}(hr:Row w b (Gf y) j7)(j:Nat){v:aC}(h:(Gf y)[j]? =some v):Vc.ld w (N (O b) j)=some v:=hr.at j h
section
variable{F F':Nat->Prop}{w w':au}{g s o t:Nat}{M M':Sm}{occ:aC}{L:h_}
def Cz(h:SF F w s o t M occ):kh 45 #[s] w ((M.now)):=by obtain⟨g,sd,h1,-⟩:=h.row;apply Qf.B;exact⟨_,h1.at 3 rfl,rfl,rfl⟩
def Px(h:EF F w g s o t M occ L):Y 25 #[g] w λe w'=>∃sl:H,e=tr sl.a sl.n sl.c/\nY w w' sl (dy M L)/\Ext w w':=by
 apply vm.B;refine(Cq h).mono ?_;rintro e w1 ⟨s1,rfl,ho1,x1⟩;have z1:=x1.size;have h1:=h.ext x1;have hn1:s1.n=(bh L).length:=by rw[(ho1.rd X).n,aK]
 have hll:=uy L;obtain⟨Fs,hs,pG,dP,-⟩:=h1.EN;refine⟨s1,rfl,_,pG,(Cz hs).F λw3 Ig=>?_⟩;subst Ig;refine⟨_,rfl,λw5 e5=>?_⟩;have x5:=aU e5;have z5:=zA e5;have hr5:=rdI (l:=[M.now]) e5;refine(q9 (B:=w3.heap.size) (s:=⟨none,0,0⟩) (b:=[]) ar.nil x5.size hr5 (λ_ j _ q=>(by cases q)) bo).mono ?_;rintro e w6 ⟨s7,rfl,a6⟩;have e6:([]:ab)++qt [M.now]=j3 M.now:=by show j3 M.now++[]=_;rw[oV]
 rw[e6]at a6;refine⟨s7,rfl,λw8 e8=>?_⟩;have ew:qH ((s1.n:Nat):Int)=((bh L).length:Int)%256:=by rw[wrap_u8,hn1]
 rw[ew]at e8⊢;have⟨Te,hr8⟩:=a6.l6 [((bh L).length:Int)%256] (by rw[uz];simp) e8;have z8:=zA e8;refine⟨Te,λs9 br r10=>?_⟩;obtain⟨S9,k10,-,b10,z10⟩:=hr8 s9 br r10;replace S9:Ap w3 w5 ⟨none,0,0⟩ br s9 (fZ M.now (bh L).length):=S9;have z6:=a6.bel.size;have apB:Ext w3 br:=x5.trans (Below.mono S9.bel (ak _));have n96:s9.D≠some w6.heap.size:=sJ b10 (a6.ne (ak _)) U;have ht7:(fZ M.now (bh L).length).length=7:=rfl;have A0:Ap w3 br s9 br s9 (fZ M.now (bh L).length):=Ap.refl S9.own U;refine⟨k10,λn x sl wr=>∃k:Nat,x=k/\k+n=(bh L).length/\Ap w3 br s9 wr sl (fZ M.now (bh L).length++dT L ((bh L).take k)),⟨(bh L).length,rfl,0,rfl,U,by rw[JO];show Ap _ _ _ _ _ (_++[]);rw[oV];exact A0⟩,?_⟩;rintro n us x qp bZ ⟨k,rfl,hk,WL⟩;have apD:Ext w3 bZ:=apB.trans (Below.mono WL.bel (ak _));have z16:=WL.bel.size;have kQ:(fZ M.now (bh L).length++dT L ((bh L).take k)).length<=1000:=by have:=rR L ((bh L).take k);rw[cS]at this;rw[cj,ht7];omega
 apply Z.mk<;>intro hq
 ·have hq:=eK hq;have⟨v,hv⟩:=bX (l:=bh L) (i:=k) U;obtain⟨i,rfl,ab2,y,hy⟩:=ux (aQ hv);have gF:=(ho1.ext apD).rd (show 0<1 by decide);have hvi:((bh L).map λi=>[S i])[k]? =some [S (i:Int)]:=by rw[aW,hv];rfl
  have aua:=gF.at hvi (j:=0) (v:=S i) rfl;rw[gk]at aua;obtain⟨av,de,jm,-,-,-⟩:=h1.row;have⟨b,hab,WD⟩:=jm.full ab2 hy;have rowU:∀{u:au}{c:H}{bs:ab},Ap w3 br s9 u c bs->Row u b (Gf y) j7:=λ{u c bs} ha=>WD.ext (apB.trans (Below.mono ha.bel (ak _)))
  have aAV:=rowU WL;have xd:=Ext.K bZ;have rbd:=aAV.ext xd;have zd:=nV bZ;have ad:=WL.ext xd;have wk:=nE (j:=k);have ei:qH ((i:Nat):Int)=(i:Int):=by rw[wrap_u8];omega
  refine⟨gF.jX X U hq,_,aua,U,U,_,Mu (de.ext apD) hab,?_⟩;refine⟨λc u=>Ap w3 br s9 u c (fZ M.now (bh L).length++dT L ((bh L).take k)++((i:Int)::qt (tk y.1))),?_,?_⟩
  ·refine lC rfl (lC rfl (lC rfl (lC rfl ⟨_,A1 rbd 0 rfl,lC rfl (lC rfl (lC rfl (lC rfl ⟨_,A1 rbd 1 rfl,lC rfl (lC rfl (lC rfl (lC rfl ⟨_,A1 rbd 2 rfl,lC rfl (lC rfl (lC rfl (lC rfl ⟨_,A1 rbd 3 rfl,lC rfl (lC rfl (lC rfl (lC rfl ⟨_,A1 rbd 4 rfl,lC rfl (lC rfl (lC rfl (lC rfl ⟨_,A1 rbd 5 rfl,lC rfl (lC rfl (lC rfl ⟨_,A1 rbd 6 rfl,lC rfl (lC rfl (lC rfl ⟨_,A1 rbd 7 rfl,?_⟩))⟩))⟩)))⟩)))⟩)))⟩)))⟩)))⟩)));rw[ei];have fin:∀{u u':au}{c c':H},Ap w3 br s9 u c (fZ M.now (bh L).length++dT L ((bh L).take k)++[(i:Int)])->Ap w3 u c u' c' (fZ M.now (bh L).length++dT L ((bh L).take k)++[(i:Int)]++qt (tk y.1))->Ap w3 br s9 u' c' (fZ M.now (bh L).length++dT L ((bh L).take k)++((i:Int)::qt (tk y.1))):=λh1 h2=>by have:=h1.trans h2;rw[fT,fT]at this;rw[fT];exact this
   have hlen1:((fZ M.now (bh L).length++dT L ((bh L).take k))++[(i:Int)]).length+6*(tk y.1).length<=900000:=by rw[cj];show _+1+6*8<=_;omega
   have n156:qp.D≠some w6.heap.size:=WL.off n96 U;refine⟨λgI S8=>⟨?_,λiD e35=>?_⟩,λnT e40 kO e41=>?_⟩
   ·have⟨hp,hr⟩:=ad.l6 [(i:Int)] a16 S8;have z29:=zA S8;refine⟨hp,λEE ia r31=>?_⟩;have⟨a31,k31,m31,b31,z31⟩:=hr EE ia r31;have TG:=rowU a31;refine⟨m31 _ n156 U,k31,Sg TG 7 rfl,Sg TG 6 rfl,Sg TG 5 rfl,Sg TG 4 rfl,Sg TG 3 rfl,Sg TG 2 rfl,Sg TG 1 rfl,Sg TG 0 rfl,λsY e32=>?_⟩;have a32:=a31.ext (aU e32);have z32:=zA e32;have hrd32:=rdI (l:=tk y.1) e32;have nd:EE.D≠some bZ.drew.heap.size:=sJ b31 (WL.ne (ak _)) U;refine(q9 a32.own (a1N a32.bel.size) hrd32 (λ_ j hj q=>?_) hlen1).mono ?_
    ·have hj:j=ia.heap.size:=(ka1 hj).symm;subst hj;exact a31.ne (ak _) q
    rintro e jV ⟨s34,rfl,a33⟩;exact⟨s34,rfl,a33.Vf _ (a31.off n96 U) U,a33.Vf _ nd U,rfl,fin a32 a33⟩
   ·have kz:=aU S8;have z29:=zA S8;have⟨hp,hr⟩:=(ad.ext kz).l6 [(i:Int)] a16 e35;have z35:=zA e35;have hrd35:=rdI (l:=tk y.1) e35;refine⟨hp,λs36 jD r37=>?_⟩;have⟨a37,k37,m37,b37,z37⟩:=hr s36 jD r37;have nd:qp.D≠some bZ.drew.heap.size:=WL.ne (ak _);have n29:s36.D≠some gI.heap.size:=sJ b37 (WL.ne U) U;refine⟨m37 _ n156 U,m37 _ nd U,k37,(q9 a37.own (a1N a37.bel.size) (hrd35.same λj hj=>?_) (λ_ j hj q=>?_) hlen1).mono ?_⟩
    ·have hj:j=gI.heap.size:=(ka1 hj).symm;subst hj;exact k37
    ·have hj:j=gI.heap.size:=(ka1 hj).symm;subst hj;exact n29 q
    rintro e tH ⟨s39,rfl,a38⟩;exact⟨s39,rfl,a38.Vf _ (a37.off n96 U) U,a38.Vf _ (sJ b37 nd U) U,rfl,fin a37 a38⟩
   ·have rE:=aU e40;have z40:=zA e40;have hrd40:=rdI (l:=tk y.1) e40;have⟨hp,hr⟩:=(ad.ext rE).l6 [(i:Int)] a16 e41;have z41:=zA e41;have kA:=aU e41;refine⟨hp,λs42 iO r43=>?_⟩;have⟨a43,k43,m43,b43,z43⟩:=hr s42 iO r43;have nd:qp.D≠some bZ.drew.heap.size:=WL.ne (ak _);have n40:qp.D≠some nT.heap.size:=WL.ne U;refine⟨m43 _ n156 U,m43 _ nd U,k43,(q9 a43.own (a1N a43.bel.size) ((hrd40.ext kA).same λj hj=>?_) (λ_ j hj q=>?_) hlen1).mono ?_⟩
    ·have hj:j=bZ.drew.heap.size:=(ka1 hj).symm;subst hj;exact m43 _ nd U
    ·have hj:j=bZ.drew.heap.size:=(ka1 hj).symm;subst hj;exact sJ b43 nd U q
    rintro e kf ⟨s45,rfl,a44⟩;exact⟨s45,rfl,a44.Vf _ (a43.off n96 U) U,a44.Vf _ (sJ b43 n40 U) U,rfl,fin a43 a44⟩
  ·intro aub Tt lI a48;have aAX:=rowU a48;have z48:=a48.bel.size;have aIs:(fZ M.now (bh L).length++dT L ((bh L).take k)++((i:Int)::qt (tk y.1))).length<=2000:=by rw[cj,cL,AH];show _+(6*8+1)<=_;omega
   have endS:∀(st:Int),st=stB y.1.fG->∀{v:au}{c:H},Ap w3 br s9 v c (fZ M.now (bh L).length++dT L ((bh L).take k)++((i:Int)::qt (tk y.1))++[st])->Ap w3 br s9 v c (fZ M.now (bh L).length++dT L ((bh L).take (k+1))):=λst gm {v c} h=>by
    have e:dT L ((bh L).take (k+1))=dT L ((bh L).take k)++((i:Int)::(qt (tk y.1)++[st])):=by unfold dT;rw[KK (FG L) hv];unfold FG BD;rw[hy,gm]
    rw[e,<-fT];rw[fT]at h;exact h
   refine lC rfl (lC rfl (lC rfl ⟨_,A1 aAX 8 rfl,Z.mk (λhb=>λyR e50=>?_) (λhb=>λw53 e53=>?_)⟩))
   ·have⟨hp,hr⟩:=a48.l6 [1] a16 e50;have z50:=zA e50;refine⟨hp,λs51 Yo r52=>?_⟩;have⟨a52,k52,m52,b52,z52⟩:=hr s51 Yo r52;exact⟨m52 _ (a48.off n96 U) U,k52,n-1,U,rfl,k+1,wk,U,endS 1 (hb▸rfl) a52⟩
   ·have⟨hp,hr⟩:=a48.l6 [0] a16 e53;have z53:=zA e53;refine⟨hp,λWe yS r55=>?_⟩;have⟨a55,k55,m55,b55,z55⟩:=hr We yS r55;exact⟨m55 _ (a48.off n96 U) U,k55,n-1,U,rfl,k+1,wk,U,endS 0 (hb▸rfl) a55⟩
 ·have hq:=eK hq;have hk':k=(bh L).length:=by omega
  subst hk';rw[kB]at WL kQ;obtain⟨aIA,auc,hld16,-,-⟩:=(h1.ext apD).EN;refine⟨_,hld16,(wT auc).mono ?_⟩;rintro e nv ⟨OR,rfl,akm,H8⟩;have z57:=H8.size;obtain⟨gq,mq,qs,-,Ih,-⟩:=auc.queue;have hql:M.q.l.length<=4096:=by have:=Ih.len;have:=Ih.room;omega
  have aAY:OR.n=M.q.l.length:=by rw[(akm.rd (show 0<4 by decide)).n,aK]
  have aAZ:=(akm.rd (show 0<4 by decide));have Is:OR.n<=OR.c:=am5 akm.own;have n156:qp.D≠some w6.heap.size:=WL.off n96 U;have aA0:(if 2000<((OR.n:Nat):Int)then 2000 else((OR.n:Nat):Int))=((min M.q.l.length 2000:Nat):Int):=by rw[aAY];split<;>omega
  refine⟨OR,rfl,H8.k,?_⟩;rw[aA0];refine⟨U,U,λpH TX=>?_⟩;rw[dt];have a57:=WL.ext H8;have eb1:qH (((((((min M.q.l.length 2000:Nat):Int):Int).toNat-0:Nat):Int)).fdiv (2^(min (8:Int).toNat 64)))=((min M.q.l.length 2000:Nat):Int)/256%256:=by rw[wrap_u8,tj _ X];rfl
  have eb2:qH ((((((min M.q.l.length 2000:Nat):Int):Int).toNat-0:Nat):Int))=((min M.q.l.length 2000:Nat):Int)%256:=by rw[wrap_u8];rfl
  rw[eb1,eb2]at TX⊢;have⟨hp,hr⟩:=a57.l6 [((min M.q.l.length 2000:Nat):Int)/256%256,((min M.q.l.length 2000:Nat):Int)%256] (by rw[cL,cL,mV];omega) TX;have z59:=zA TX;refine⟨hp,λs60 vr r61=>?_⟩;have⟨a61,k61,m61,b61,z61⟩:=hr s60 vr r61;have Iv:=aU TX;have aA2:s60.D≠some w6.heap.size:=sJ b61 n156 U;have aud:s60.D≠some nv.heap.size:=sJ b61 (a57.ne (ak _)) U;have apG:∀j,OR.D=some j->bZ.heap.size<=j/\j<nv.heap.size:=λj hj=>akm.own.lt hj
  have aue:∀j,OR.D=some j->s60.D≠some j:=λj hj=>by have⟨q1,q2⟩:=apG j hj;exact sJ b61 (WL.ne q1) U
  have hrd61:RdK vr OR 4 (M.q.l.map fM):=aAZ.same λj hj=>by have⟨q1,q2⟩:=apG j hj;exact(m61 j (WL.ne q1) U).trans (Iv.heap q2)
  let W:=M.q.l.take 2000
  have hW:W.length=min M.q.l.length 2000:=by rw[cS,Nat.min_comm]
  have A61:Ap w3 vr s60 vr s60 (fZ M.now (bh L).length++dT L (bh L)++[((min M.q.l.length 2000:Nat):Int)/256%256,((min M.q.l.length 2000:Nat):Int)%256]):=Ap.refl a61.own (a1N a61.bel.size);have apk:((((min M.q.l.length 2000:Nat):Int)).toNat-0:Nat)=W.length:=by rw[hW];omega
  rw[apk];refine⟨m61 _ n156 U,k61,λn x sl wr=>∃k:Nat,x=k/\k+n=W.length/\Ap w3 vr s60 wr sl (fZ M.now (bh L).length++dT L (bh L)++[((min M.q.l.length 2000:Nat):Int)/256%256,((min M.q.l.length 2000:Nat):Int)%256]++((W.take k).map ir).flatten),⟨W.length,rfl,rfl,0,rfl,U,by rw[JO];show Ap _ _ _ _ _ (_++[]);rw[oV];exact A61⟩,?_⟩;rintro n2 Bn x s66 pI ⟨k,rfl,hk,a67⟩;have z67:=a67.bel.size;apply Z.mk<;>intro hq
  ·have hq:=eK hq;have hkW:k<W.length:=by omega
   have⟨it,hit⟩:=bX hkW;have aA3:M.q.l[k]? =some it:=by have h2:W[k]? =M.q.l[k]? :=List.getElem?_take_of_lt U;rw[<-h2];exact hit
   have de:(M.q.l.map fM)[k]? =some (fM it):=by rw[aW,aA3];rfl
   have hrd67:RdK pI OR 4 (M.q.l.map fM):=hrd61.same λj hj=>a67.Vf j (aue j hj) (a1N (apG j hj))
   have px:gD OR.a (k:Int) W.length:=by have⟨q1,q2,q3⟩:=hrd67.jX (i:=(k:Int)) X U U;exact⟨q1,q2,hq⟩
   refine⟨px,_,_,_,_,hrd67.y de,λJu e73 CE e74 uh e75=>?_⟩;have O1:Ext pI CE:=(aU e73).L e74 (ak _);have z74:CE.heap.size=pI.heap.size+1:=by rw[zR e74,zA e73]
   have Lc:=aU e75;have z75:=zA e75;have hrd75:=rdI (l:=[it.1,it.2.1,it.2.2.1,it.2.2.2]) e75;have a75:=a67.ext (O1.A Lc);have aIG:(fZ M.now (bh L).length++dT L (bh L)++[((min M.q.l.length 2000:Nat):Int)/256%256,((min M.q.l.length 2000:Nat):Int)%256]++((W.take k).map ir).flatten).length<=100000:=by rw[cj,cj,Lz,cS];show _+2+_<=_;omega
   refine(q9 a75.own (a1N a75.bel.size) hrd75 (λ_ j hj q=>?_) (by show _+6*4<=_;omega)).mono ?_
   ·have hj:j=CE.heap.size:=(ka1 hj).symm;subst hj;exact a67.ne U q
   rintro e pB ⟨s77,rfl,a76⟩;refine⟨s77,rfl,a76.Vf _ (a67.off aA2 U) U,a76.Vf _ (a67.off aud U) U,a76.Vf _ (a67.ne (ak _)) U,n2-1,U,rfl,rfl,k+1,by rw[wI];omega,U,?_⟩;rw[KK ir hit,<-fT];exact a75.trans a76
  ·have hq:=eK hq;have hk':k=W.length:=by omega
   subst hk';rw[kB]at a67;refine⟨s66,rfl,?_,?_⟩
   ·have e:dy M L=fZ M.now (bh L).length++dT L (bh L)++[((min M.q.l.length 2000:Nat):Int)/256%256,((min M.q.l.length 2000:Nat):Int)%256]++(W.map ir).flatten:=by unfold dy ij;rw[<-fT]
    rw[e];exact ar.low a67.own z1
   ·have b3:Below w3 w3 pI:=Below.trans apB (Below.trans a61.bel a67.bel);exact x1.A b3
end
def am8(l:List En):Z' (jc l):=λx y y' z hy hy'=>by
 have e:pos (x,y,z)=pos (x,y',z):=rfl
 have h0:∀(p:Po)(C:ab)(v:Int),32<=v->Z3 p C (x,v,z)=0:=λp C v hv=>by
  unfold Z3 Q8
  rw[decide_eq_false (show ¬((x,v,z):Ce).2.1<32 by simp only;omega)]
  simp
 have hn:∀v:Int,32<=v->¬((x,v,z):Ce).2.1<0:=λv hv=>hX
 unfold jc
 rw[e,if_neg (hn y hy),if_neg (hn y' hy')]
 simp only[h0 _ _ _ hy,h0 _ _ _ hy']
section
variable{b:eJ}
def kj:b.may=true↔(2<=b.wd/\b.wd<=131072)/\(1<=b.ht/\b.ht<=262144)/\c8 b.aw 70368744177664/\c8 b.speed 262144:=by unfold eJ.may within c8;simp only[fF,cC];omega
def VT(h:b.may=true):okB 70368744177664 b:=by have⟨h1,h2,h3,h4⟩:=kj.1 h;unfold c8 at h4;exact⟨h3,U,U,U⟩
def arl(h:b.may=true):b.box.1.2.1=b.aw.2.1/\b.box.1.2.1<b.box.2.2.1:=by have⟨h1,h2,h3,h4⟩:=kj.1 h;unfold c8 at h3;have e1:b.box.1.2.1=nh b.aw.2.1 0:=rfl;have e2:b.box.2.2.1=dU b.aw.2.1 (max b.ht 0):=rfl;rw[e1,e2];unfold nh dU dD;omega
variable{V:Ce->Int}
def aa1(h:b.may=true)(d:Ce):(jj V b d).may=true:=by
 have hn:=(VT h).zG X;have⟨h1,h2,h3,h4⟩:=kj.1 h;obtain⟨y,x,z,-,-,-,e,hx,hy,hz⟩:=E2 (V:=V) (p:=aD) (d:=jA b.aw d) hn X;have ho:=F7 (V:=V) (p:=aD) (d:=jA b.aw d) hn X;rw[e]at ho;have ef:(jj V b d).aw=(b.aw.1+x,b.aw.2.1+y,b.aw.2.2+z):=by show iY b.aw (uJ (j4 V aD b.box (jA b.aw d)).1.1 b.box.1)=_;rw[e];exact KH h3 hn X (ho.up X)
 refine kj.2 ⟨h1,h2,?_,h4⟩;rw[ef];exact⟨aeX h3 (r:=(x,y,z)) hx,N7 h3 (r:=(x,y,z)) hy,X5 h3 (r:=(x,y,z)) hz⟩
variable{v:Ce}
def aa2(h:aX×aX×aX)(hv:c8 v 262144):c8 (uW h v) 262144:=by
 have c0:dD 0=0:=by decide
 have hw:∀{v:Ce}(ax:Int),c8 v 262144->c8 (fV v ax 0) 262144:=λ{v} ax hv=>by unfold c8 at hv;unfold fV Gl c8;rw[c0];simp only;refine⟨?_,?_,?_⟩<;>split<;>omega
 unfold uW;simp only;have h1:c8 (if h.1=true then fV v 0 0 else v) 262144:=by
  split
  ·exact hw 0 hv
  ·exact hv
 generalize (if h.1=true then fV v 0 0 else v)=v1 at*;have h2:c8 (if h.2.1=true then fV v1 1 0 else v1) 262144:=by
  split
  ·exact hw 1 h1
  ·exact h1
 generalize (if h.2.1=true then fV v1 1 0 else v1)=v2 at*;split
 ·exact hw 2 h2
 ·exact h2
variable(hV:Z' V)
def afd(h:b.may=true):(GM V b).may=true:=by
 have hn:=(VT h).zG X;have⟨h1,h2,h3,h4⟩:=kj.1 h;have⟨x,y,z,e,hx,hy,hz⟩:=aiW (V:=V) (p:=aD) (d:=jA b.aw b.speed) (up:=32768) hn X X;have ho:=(PT (V:=V) (p:=aD) (d:=jA b.aw b.speed) (up:=32768) hn X).1;have ef:(GM V b).aw=(b.aw.1+x,b.aw.2.1+y,b.aw.2.2+z):=by show iY b.aw (uJ (jH V aD b.box (jA b.aw b.speed) 32768).1.1 b.box.1)=_;rw[e];rw[e]at ho;exact KH h3 hn X ho
 refine kj.2 ⟨h1,h2,?_,aa2 _ h4⟩;rw[ef];refine⟨aeX h3 (r:=(x,y,z)) hx,?_,X5 h3 (r:=(x,y,z)) hz⟩;rcases hy with hy|hy
 ·exact N7 h3 (r:=(x,y,z)) hy
 by_cases q:b.aw.2.1<=70368744100000
 ·unfold c8 at h3;simp only;omega
 ·have⟨b1,b2⟩:=arl h;have es:=aiX (V:=V) (p:=aD) (d:=jA b.aw b.speed) (up:=32768) hV hn X U b2;obtain⟨y',x',z',-,-,-,e',-,hy',-⟩:=E2 (V:=V) (p:=aD) (d:=jA b.aw b.speed) hn X;rw[es,e']at e;have:y'=y:=by have e2:=congrArg (λq:Bx=>q.1.2.1) e;unfold iJ at e2;simp only at e2;omega
  rw[this]at hy';exact N7 h3 (r:=(x,y,z)) hy'
def vN(h:b.may=true)(hv:c8 v 262144):({b with speed:=v}:eJ).may=true:=by obtain⟨h1,h2,h3,-⟩:=kj.1 h;exact kj.2 ⟨h1,h2,h3,hv⟩
def afe(h:b.may=true)(i:QO):(zU V b i).may=true:=by
 refine afd hV ?_;have hw:(tq b i).may=true:=vN h (by
  have:=(kj.1 h).2.2.2;have h0:∀n,-262144<=Kc n/\Kc n<=262144:=λn=>by unfold Kc;omega
  unfold c8 at this⊢;exact⟨h0 _,this.2.1,h0 _⟩)
 generalize tq b i=c at*;have hs:=(kj.1 hw).2.2.2;unfold tp;have hf:∀(n jump less least:Int)(j:aX),(-262144<=n/\n<=262144)->(0<=jump/\jump<=262144)->0<=less->(0<=least/\least<=262144)-> -262144<=wS n jump less least j/\wS n jump less least j<=262144:=λn jump less least j h1 h2 h3 h4=>by unfold wS;split<;>omega
 unfold c8 at hs;split
 ·exact vN hw ⟨hs.1,hf _ _ _ _ _ hs.2.1 X X X,hs.2.2⟩
 split
 ·exact vN hw ⟨hs.1,hf _ _ _ _ _ hs.2.1 X X X,hs.2.2⟩
 ·exact vN hw ⟨hs.1,hf _ _ _ _ _ hs.2.1 X X X,hs.2.2⟩
def kG(P:eJ->Prop)(L:h_):Prop:=∀y,some y∈L->P y.1
section
variable{P:eJ->Prop}{V:Ce->Int}(hn:∀b d,P b->P (jj V b d))
include hn
def aff{i k:Nat}{l:List eJ}(h:∀b∈l,P b):∀b∈Km V i k l,P b:=by
 unfold Km;split
 ·rename_i a b ha hb;intro x hx;rcases pY hx with hx|rfl
  ·rcases pY hx with hx|rfl
   ·exact h x hx
   ·exact hn _ _ (h a (aQ ha))
  ·exact hn _ _ (h b (aQ hb))
 ·exact h
def Ye{i:Nat}:∀(n k:Nat) {l:List eJ},(∀b∈l,P b)->∀b∈U6 V i k n l,P b
 |0,_,_,h=>h
 |n+1,k,_,h=>Ye n (k+1) (aff hn h)
def afg:∀(n i:Nat) {l:List eJ},(∀b∈l,P b)->∀b∈V_ V i n l,P b
 |0,_,_,h=>h
 |n+1,i,_,h=>afg n (i+1) (Ye hn _ _ h)
end
variable{P:eJ->Prop}{L:h_}(h:kG P L)
def ai6{i:Nat}(hb:P b):kG P (D4 L i b):=by
 unfold D4
 cases hq:cE L i with
 |none=>exact h
 |some y=>
  intro z hz;rcases pY hz with hz|hz
  ·exact h z hz
  ·cases hz
   exact hb
def Sp:∀(l:List (Nat×eJ)) {L:h_},kG P L->(∀x∈l,P x.2)->kG P (Kf L l)
 | [],_,h,_=>h
 |x::l,_,h,hl=>Sp l (ai6 h (hl x bo)) λy hy=>hl y (by simp[hy])
variable{M:Sm}
def afh(hs:∀b i,P b->P (zU (jc M.T.2) b i))(hn:∀b d,P b->P (jj (jc M.T.2) b d))(h:kG P L):kG P (sD M L):=by
 refine Sp _ h λx hx=>afg hn _ _ (λb hb=>?_) x.2 (List.of_mem_zip hx).2
 obtain⟨i,hi,rfl⟩:=bc.1 hb;obtain⟨-,y,hy⟩:=zT hi;unfold uP;rw[hy];exact hs _ _ (h y (uQ hy))
abbrev kx(L:h_):Prop:=kG (λb=>b.may=true) L
def kx.tick(h:kx L):kx (sD M L):=afh (λ_ i hb=>afe (am8 _) hb i) (λ_ d hb=>aa1 hb d) h
def kx.ok(h:kx L):ES 70368744177664 L:=λy hy=>VT (h y hy)
def adn(i:Int):kG P (zB L i).2:=by
 unfold zB;split
 ·exact h
 ·intro y hy;rcases pY hy with hy|hy
  ·exact h y hy
  ·cases hy
def afi(i:Int)(inp:QO):kG P (A2 L i inp).2:=by
 unfold A2
 cases hq:cE L i with
 |none=>exact h
 |some y=>
  intro z hz;rcases pY hz with hz|hz
  ·exact h z hz
  ·cases hz
   unfold cE at hq;split at hq
   ·exact h y (aQ (J6.1 hq))
   ·cases hq
def Y5(h:kx L)(b:eJ):kx (iP M L b).2.2:=by
 unfold iP;split
 ·exact h
 rename_i hb;split
 ·exact h
 split
 ·exact h
 split
 ·exact h
 ·intro z hz;rcases pY hz with hz|hz
  ·exact h z hz
  ·cases hz
   show eJ.may {b with fG:=_}=true;have:b.may=true:=by simpa using hb
   rw[<-this];rfl
end
def M_(x:dS.It):Prop:=Cn x.2/\0<=x.1/\x.1<=2000000000000
structure w_(M:Sm)(L:h_):Prop where
 b:kx L
 q:∀x∈M.q.l,M_ x
 n:0<=M.now/\M.now<=1099511627776
 o:yN M.q
def B_(b:ab):Prop:=∃(v:Int)(M:Sm)(L:h_)(n:Nat),(1<=v/\v<=1073741824)/\w_ M L/\b=(gL (Go.bW.dy v (dy M L))).take n
def afc(M:Sm)(L:h_):(dy M L).length<=50000:=a09
section
variable{b:ab}(h:B_ b)
def B_.take(m:Nat):B_ (b.take m):=by obtain⟨v,M,L,n,hv,hr,rfl⟩:=h;exact⟨v,M,L,min m n,hv,hr,by rw[List.take_take]⟩
def B_.rd:(pT b).2.2≠0\/∃M L,w_ M L/\(pT b).2.1=dy M L:=by
 obtain⟨v,M,L,n,hv,hr,rfl⟩:=h;have hl:=afc M L;by_cases c:n<(gL (Go.bW.dy v (dy M L))).length
 ·exact .inl (ai5 U c)
 ·rw[dN U,ad8 hv U];exact .inr ⟨M,L,hr,rfl⟩
def KR(D:Dk):Prop:=∀x,x∈D.safe\/x∈D.l->x.1=0\/x.1=1->B_ x.2
variable{l:List ki}{x:ki}
def Oe{w:ki}(h:x∈lay l w):x=w\/x∈l:=by
 rcases cu.1 ((qN l w).mem_iff.1 h)with h|h
 ·exact .inl h
 ·exact .inr (jY.1 h).1
def Sj:∀(t:List ki) {s:List ki}{x:ki},x∈t.foldl lay s->x∈t\/x∈s
 | [],s,x,h=>.inr h
 |w::t,s,x,h=>by
  rcases Sj t h with h|h
  ·exact .inl (qQ _ h)
  ·rcases Oe h with h|h
   ·exact .inl (h▸ka2 ..)
   ·exact .inr h
variable{D:Dk}(h:KR D)
def KR.now(hx:x∈tU D)(h0:x.1=0\/x.1=1):B_ x.2:=
 h x ((Sj _ hx).symm) h0
variable{k:Int}
def KR.get(hk:k=0\/k=1):(pT (getD D k)).2.2≠0\/∃M L,w_ M L/\(pT (getD D k)).2.1=dy M L:=by
 unfold getD pg
 cases hf:(tU D).find? λx=>x.1==k with
 |none=>exact .inl X
 |some x=>
  have h1:x.1=k:=by have:=List.find?_some hf;simpa using this
  exact(h.now (G6 hf) (h1▸hk)).rd
def KR.ld:(Go.bW.pU D 0).2.2=false\/∃M L,w_ M L/\(Go.bW.pU D 0).1=dy M L/\(Go.bW.pU D 0).2.2=true:=by
 have step:∀(best:Rc)(s:Int)(r:Int×ab×Int),(r.2.2≠0\/∃M L,w_ M L/\r.2.1=dy M L)->(best.2.1<=0\/∃M L,w_ M L/\best.2.2=dy M L)->((j2 best s r).2.1<=0\/∃M L,w_ M L/\(j2 best s r).2.2=dy M L):=by
  intro best s r hr hb;unfold j2;split
  next c=>exact hr.elim (λq=>absurd c.1 q) .inr
  ·exact hb
 have h2:(kL D 0).2.1<=0\/∃M L,w_ M L/\(kL D 0).2.2=dy M L:=by unfold kL;exact step _ _ _ (h.get (.inr rfl)) (step _ _ _ (h.get (.inl rfl)) (.inl (jI 0)))
 have e:Go.bW.pU D 0=((kL D 0).2.2,(kL D 0).2.1,decide ((kL D 0).2.1>0)):=rfl;rw[e];by_cases c:(kL D 0).2.1>0
 ·rcases h2 with h2|⟨M,L,hr,h2⟩
  ·omega
  ·exact .inr ⟨M,L,hr,h2,decide_eq_true c⟩
 ·exact .inl (decide_eq_false c)
def KR.of{D':Dk}(h1:D'.safe=D.safe)(h2:D'.l=D.l):KR D':=λx hx=>h x (by rw[h1,h2]at hx;exact hx)
def KR.ask:KR (jN D).1:=h.of (jq D).1 (jq D).2.1
def KR.put(hb:k=0\/k=1->B_ b):KR (kV D k b).1:=by
 unfold kV;split
 ·exact h.ask
 split
 ·exact h.ask
 ·intro x hx h0;rcases hx with hx|hx
  ·have hx:x∈(jN D).1.safe:=hx;exact h.ask x (.inl hx) h0
  ·rcases dp.1 hx with hx|hx
   ·exact h x (.inr hx) h0
   ·rw[ig.1 hx]at h0⊢;exact hb h0
def KR.sync:KR (nX D).1:=by
 unfold nX;split
 ·exact h.ask
 ·intro x hx h0;rcases hx with hx|hx
  ·exact h.now hx h0
  ·cases hx
def KR.save(id:Int)(b:ab)(hb:(4*id+1-(kL D id).1=0\/4*id+1-(kL D id).1=1)->(zf ((kL D id).2.1+1) b).2=0->B_ (zf ((kL D id).2.1+1) b).1):KR (tJ D id b).1:=by
 unfold tJ;split
 ·split
  ·exact h
  ·rename_i h0;have hp:KR (kV D (4*id+1-(kL D id).1) (zf ((kL D id).2.1+1) b).1).1:=h.put λq=>hb q (ds h0)
   split
   ·exact hp
   ·exact hp.sync
 ·exact h
def KR.chunk{id:Int}(hid:1<=id)(b:ab):KR (tJ D id b).1:=
 h.save id b λq _=>a1N (Pm D id)
def KR.aV{M:Sm}{L:h_}(hr:w_ M L):KR (tJ D 0 (dy M L)).1:=
 h.save 0 _ λ_ h0=>by
  have hv:=akv D 0;unfold zf at h0⊢;split at h0
  ·simp at h0
  next c=>rw[if_neg c];exact⟨_,M,L,_,U,hr,(dN (ak _)).symm⟩
def KR.Dr(n:Int):KR (cw D n).1:=by
 have key:∀(t:List ki)(m:Int) {s:List ki},(∀x,x∈s->x.1=0\/x.1=1->B_ x.2)->(∀x,x∈t->x.1=0\/x.1=1->B_ x.2)->∀x,x∈mC m s t->x.1=0\/x.1=1->B_ x.2:=by
  intro t
  induction t with
  |nil=>intro m s hs _ x hx;exact hs x hx
  |cons w t ih=>
   intro m s hs ht x hx h0;unfold mC at hx;split at hx
   ·refine ih _ (λy hy hy0=>?_) (λy hy=>ht y (qQ _ hy)) x hx h0;rcases Oe hy with rfl|hy
    ·exact ht _ (ka2 ..) hy0
    ·exact hs y hy hy0
   ·rcases Oe hx with rfl|hx
    ·exact(ht w (ka2 ..) h0).take _
    ·exact hs x hx h0
 intro x hx h0;rcases hx with hx|hx
 ·exact key D.l _ (λy hy=>h y (.inl hy)) (λy hy=>h y (.inr hy)) x hx h0
 ·cases hx
def KR.fail(n:Int):KR (om D n):=h.of (by unfold om;split<;>rfl) (by unfold om;split<;>rfl)
def Sk(k:Nat)(e:En):Prop:=EP e.1/\0<=e.2.2.2/\e.2.2.2<=k
structure nI(k n:Nat)(T:Tb):Prop where
 e:∀e∈T.2,Sk k e
 d:T.1.l.length<=n
 r:KR T.1
section
variable{k n:Nat}{D:Dk}{l:List En}{aj limit:Int}{T:Tb}
def Sk.mono{e:En}(h:Sk k e){m:Nat}(hm:k<=m):Sk m e:=⟨h.1,h.2.1,a1N h.2.2⟩
def nI.mono(h:nI k n T){k' n':Nat}(hk:k<=k')(hn:n<=n'):nI k' n' T:=⟨λe he=>(h.e e he).mono hk,cV h.d hn,h.r⟩
def Sk.save{e:En}(he:Sk k e)(D:Dk):Sk k (cD D e).2.1:=by
 unfold cD;split
 ·exact he
 ·exact he
def KR.cD{e:En}(h:KR D)(he:Sk k e):KR (cD D e).1:=by
 unfold Go.Proofs.YtjcnjlaelhdjeaaGreatDoor.cD;split
 ·exact h.chunk (ahW he.1).1 _
 ·exact h
def nI.go(h:nI k n (D,l))(i:Nat):nI k (n+1) (C_ D l i).1:=by
 unfold C_;split
 ·exact a1a
 ·rename_i e he;have h1:=h.e e (aQ he);have h2:=h.r.cD h1;have h3:=Am D e;have h4:D.l.length<=n:=h.d;split
  ·exact⟨λx hx=>h.e x ((GA ..).subset hx),hX,h2⟩
  ·refine⟨λx hx=>?_,hX,h2⟩;rcases pY hx with hx|rfl
   ·exact h.e x hx
   ·exact h1.save D
def nI.room(h:nI k n (D,l)):nI k (n+1) (fU limit D l).1:=by
 unfold fU;split
 ·exact a1a
 split
 ·exact a1a
 ·exact h.go _
def nI.load(h:nI k n (D,l))(p:Po):nI k (n+1) (yO aj limit D l p).1:=by
 unfold yO;split
 ·exact a1a
 rename_i hp;split
 ·refine⟨λe he=>?_,Nat.le_succ_of_le h.d,h.r⟩;rcases dp.1 he with he|he
  ·exact h.e e ((GA ..).subset he)
  ·exact h.e e (aQ (Option.mem_toList.1 he))
 have hr:=h.room (limit:=limit);split
 ·exact hr
 ·refine⟨λe he=>?_,hr.d,hr.r⟩;rcases dp.1 he with he|he
  ·exact hr.e e he
  ·rw[ig.1 he];exact⟨ds hp,hX,hX⟩
def nI.ame(h:nI k n (D,l))(p:Po):nI k (n+1) (oa D l p).1:=by
 unfold oa;split
 ·split
  ·exact h.mono (ak _) (lN _)
  ·exact h.go _
 ·exact h.mono (ak _) (lN _)
def nI.flush(h:nI k n (D,l))(p:Po):nI k (n+1) (TK D l p).1:=by
 unfold TK;split
 ·split
  ·rename_i e he;have h1:=h.e e (aQ he);have h3:=Am D e;have h4:D.l.length<=n:=h.d;refine⟨λx hx=>?_,hX,h.r.cD h1⟩;rcases pY hx with hx|rfl
   ·exact h.e x hx
   ·exact h1.save D
  ·exact a1a
 ·exact h.mono (ak _) (lN _)
def nI.U9:∀(l:List En) {n:Nat}{D:Dk}{pre:List En}{m:Int},nI k n (D,pre++l)->nI k (n+l.length) (U9 D pre l m).1
 | [],n,D,pre,m,h=>by rw[oV]at h;exact h
 |e::l,n,D,pre,m,h=>by
  have h1:=h.e e (Dc _ (.head _))
  have h2:=h.r.cD h1
  have h3:=Am D e
  have h4:D.l.length<=n:=h.d
  have h5:nI k (n+1) ((cD D e).1,pre++(cD D e).2.1::l):=by
   refine⟨λx hx=>?_,hX,h2⟩;rcases dp.1 hx with hx|hx
   ·exact h.e x (Ha _ hx)
   ·rcases cu.1 hx with rfl|hx
    ·exact h1.save D
    ·exact h.e x (Dc _ (.tail _ hx))
  unfold Go.Proofs.YtjcnjlaelhdjeaaGreatDoor.U9;rw[cL];split
  ·have h6:nI k (n+1) ((cD D e).1,(pre++[(cD D e).2.1])++l):=by rw[fT];exact h5
   exact(nI.U9 l h6).mono (ak _) U
  ·exact h5.mono (ak _) U
def nI.ark(h:nI k n (D,l)):nI k (n+l.length) (gT D l).1:=nI.U9 (pre:=[]) l h
def Yb{l:List En}{i:Nat}{f:En->En}{x:En}(h:x∈l.modify i f):x∈l\/∃y,l[i]? =some y/\x=f y:=by
 have⟨j,hj⟩:=JT.1 h;rw[CR]at hj
 cases hy:l[j]? with
 |none=>rw[hy]at hj;cases hj
 |some y=>
  rw[hy]at hj;have e:x=if i=j then f y else y:=(ka1 hj).symm;by_cases c:i=j
  ·rw[if_pos c]at e;subst c;exact .inr ⟨y,hy,e⟩
  ·rw[if_neg c]at e;exact .inl (e▸aQ hy)
def nI.Q_(h:nI k n (D,l))(p:Po):nI (k+1) n (D,(zq l p).1):=by
 unfold zq;split
 ·refine⟨λe he=>?_,h.d,h.r⟩;rcases Yb he with he|⟨y,hy,rfl⟩
  ·exact(h.e e he).mono (lN _)
  ·have⟨q1,q2,q3⟩:=h.e y (aQ hy);exact⟨q1,hX,hX⟩
 ·exact h.mono (lN _) (ak _)
def nI.aqM(h:nI k n (D,l))(p:Po):nI k n (D,(kY l p).1):=by
 unfold kY;split
 ·split
  ·exact h
  ·rename_i h0;refine⟨λe he=>?_,h.d,h.r⟩;rcases Yb he with he|⟨y,hy,rfl⟩
   ·exact h.e e he
   ·have⟨q1,q2,q3⟩:=h.e y (aQ hy);rw[hy]at h0;simp only[mT,Option.some.injEq]at h0;exact⟨q1,hX,hX⟩
 ·exact h
def nI.set(h:nI k n (D,l))(c:Ce)(b:Int):nI k n (D,(jo l c b).1):=by
 unfold jo;split
 ·exact h
 split
 ·exact h
 split
 ·exact h
 ·refine⟨λe he=>?_,h.d,h.r⟩;rcases dp.1 he with he|he
  ·exact h.e e ((GA ..).subset he)
  ·obtain⟨x,hx,rfl⟩:=wM.1 (Option.mem_toList.1 he);exact h.e x (aQ hx)
def am7(D:Dk)(m:Int):(om D m).l=D.l:=by unfold om;split<;>rfl
def nI.fail(h:nI k n (D,l))(m:Int):nI k n (om D m,l):=⟨h.e,by rw[am7];exact h.d,h.r.fail m⟩
def nI.Dr(h:nI k n (D,l))(m:Int):nI k n ((cw D m).1,[]):=⟨λ_ he=>(by cases he),eG _,h.r.Dr m⟩
def nI.aV(h:nI k n (D,l)){M:Sm}{L:h_}(hr:w_ M L):nI k (n+1) ((tJ D 0 (dy M L)).1,l):=⟨h.e,cV (acX D 0 _) (Nat.succ_le_succ h.d),h.r.aV hr⟩
end
variable{b:Int}{l:List En}{c:Ce}
def KM(h:(jo l c b).2=0):PL c/\∃e∈l,e.1=pos c:=by
 unfold jo at h;split at h
 ·simp only at h;omega
 rename_i h1;split at h
 ·simp only at h;omega
 rename_i h2;refine⟨ds h2,?_⟩;rcases dm (λe:En=>e.1==pos c) l with⟨e,-⟩|⟨k,x,hx,hq,-,-⟩
 ·rw[e]at h1;omega
 ·exact⟨x,aQ hx,ds hq⟩
def Sn(h:EP (pos c))(hy:PL c):(-9000000<=c.1/\c.1<=9000000)/\(0<=c.2.1/\c.2.1<32)/\-9000000<=c.2.2/\c.2.2<=9000000:=by unfold EP pos at h;unfold PL at hy;simp only at h;omega
variable{x:dS.It}
def Yc{q:QS}{t:Int}(h:x∈(lD q c t).1.l):x∈q.l\/x=(t,c):=by
 unfold lD at h;split at h
 ·split at h
  ·exact .inl h
  ·rcases(G8 _ _ _).1 h with h|h
   ·exact .inr h
   ·exact .inl ((B9 q.l c).subset h)
 ·split at h
  ·exact .inl h
  ·rcases(G8 _ _ _).1 h with h|h
   ·exact .inr h
   ·exact .inl h
variable{V:Ce->Int}
def Yd{V:Ce->Int}{now:Int}{c:Ce}:∀(l:List Ce) {q:QS}{x:dS.It},x∈(l.foldl (λq n=>(lD q n (now+jS (V n))).1) q).l->x∈q.l\/(x.2∈l/\now<=x.1/\x.1<=now+5)
 | [],q,x,h=>.inl h
 |n::l,q,x,h=>by
  rcases Yd (c:=c) l h with h|h
  ·rcases Yc h with h|h
   ·exact .inl h
   ·have:=QR (V n)
    exact .inr (by rw[h];exact⟨bo,hX,hX⟩)
  ·exact .inr ⟨qQ _ h.1,h.2⟩
def aa0(h:(-9000000<=c.1/\c.1<=9000000)/\(0<=c.2.1/\c.2.1<32)/\-9000000<=c.2.2/\c.2.2<=9000000):∀n∈sG V c,Cn n:=by intro n hn;have hn:=(jY.1 hn).1;have⟨x,y,z⟩:=c;simp only at h;unfold Cn;simp only[rZ,cu,iT,or_false]at hn;rcases hn with rfl|rfl|rfl|rfl|rfl|rfl|rfl<;>(try simp only[fy,Ds])<;>omega
def Nr(k n:Nat)(M:Sm):Prop:=nI k n M.T/\(∀x∈M.q.l,M_ x)/\0<=M.now/\M.now<=1099511627776
section
variable{k n:Nat}
def Nr.edit{M:Sm}(h:Nr k n M)(c:Ce)(b:Int):Nr k n (Ay M c b):=by
 refine⟨nI.set (D:=M.T.1) (l:=M.T.2) h.1 c b,λx hx=>?_,h.2.2⟩;have hx:x∈(if(jo M.T.2 c b).2=0 then GR (jc (jo M.T.2 c b).1) M.now M.q c else M.q).l:=hx;split at hx
 ·rename_i h0;obtain⟨hy,e,he,hp⟩:=KM h0;have hc:=Sn (by rw[<-hp];exact(h.1.e e he).1) hy;rcases Yd (c:=c) _ hx with hx|⟨hx,h1,h2⟩
  ·exact h.2.1 x hx
  ·have:=h.2.2;exact⟨aa0 hc _ hx,U,U⟩
 ·exact h.2.1 x hx
def Nr.change{M:Sm}(h:Nr k n M)(x:Go.ej.Cg):Nr k n (eY M x):=by
 unfold eY;split
 ·exact h
 ·exact h.edit _ _
def Nr.changes:∀(l:List Go.ej.Cg) {M:Sm},Nr k n M->Nr k n (l.foldl eY M)
 | [],M,h=>h
 |x::l,M,h=>Nr.changes l (h.change x)
def Nr.upd{M:Sm}(h:Nr k n M)(d':Ce->aX){c:Ce}(hc:Cn c):Nr k n (wi d' M c):=by
 unfold wi;split
 ·refine⟨h.1,λx hx=>?_,h.2.2⟩;rcases Yc hx with hx|hx
  ·exact h.2.1 x hx
  ·have:=h.2.2;rw[hx];exact⟨hc,hX,hX⟩
 split
 ·exact Nr.change (M:={M with nk:=M.nk++[fy c]}) h (c,0)
 ·exact Nr.changes _ h
def Nr.aao(d':Ce->aX):∀(l:List Ce) {M:Sm},Xq l->Nr k n M->Nr k n (l.foldl (wi d') M)
 | [],M,_,h=>h
 |c::l,M,hl,h=>Nr.aao d' l (λy hy=>hl y (by simp[hy])) (h.upd d' (hl c bo))
def Nr.due{M:Sm}(h:Nr k n M):Xq (uO M):=λy hy=>by
 have hy:y∈(M.q.l.take (iQ M.q.l (qC M) M.dz)).map (·.2):=hy
 obtain⟨x,hx,rfl⟩:=bc.1 hy
 exact(h.2.1 x (nZ hx)).1
def Nr.tick{M:Sm}(h:Nr k n M)(d':Ce->aX):Nr k n (QT d' M):=Nr.aao d' _ h.due ⟨h.1,λx hx=>h.2.1 x (zo (show x∈M.q.l.drop _ from hx)),by have:=h.2.2;show 0<=qC M/\qC M<=_;unfold qC;omega⟩
end
def vo:∀(l:List Go.ej.Cg)(M:Sm),(l.foldl eY M).dz=M.dz
 | [],M=>rfl
 |x::l,M=>(vo l (eY M x)).trans (by unfold eY;split<;>rfl)
def VS(d':Ce->aX)(M:Sm)(c:Ce):(wi d' M c).dz=M.dz:=by
 unfold wi;split
 ·rfl
 split
 ·unfold eY;split<;>rfl
 ·exact vo _ _
def Dt(d':Ce->aX):∀(l:List Ce)(M:Sm),(l.foldl (wi d') M).dz=M.dz
 | [],M=>rfl
 |c::l,M=>(Dt d' l (wi d' M c)).trans (VS d' M c)
def Of(d':Ce->aX)(M:Sm):(QT d' M).dz=M.dz:=Dt d' _ _
end
structure Inv(k:Nat)(M:Sm)(L:h_):Prop where
 b:kx L
 s:qB M (300000*k)
 n:Nr k (20*k) M
 u:1<=M.dz/\M.dz<=64
section
variable{k:Nat}{M M':Sm}{L L':h_}
def Nr.mono{k n k' n':Nat}(h:Nr k n M)(hk:k<=k')(hn:n<=n'):Nr k' n' M:=⟨h.1.mono hk hn,h.2⟩
def Inv.mono(h:Inv k M L){k':Nat}(hk:k<=k'):Inv k' M L:=⟨h.b,h.s.mono U,h.n.mono hk U,h.u⟩
def Inv.s_(h:Inv k M L){T':Tb}(ht:nI (k+1) (20*(k+1)) T'):Inv (k+1) {M with T:=T'} L:=
 ⟨h.b,⟨h.s.mono U|>.l,(h.s.mono U:qB M (300000*(k+1))).c,h.s.now,(h.s.mono U:qB M (300000*(k+1))).d⟩,⟨ht,h.n.2⟩,h.u⟩
def Inv.lv(h:Inv k M L)(hb:kx L'):Inv (k+1) M L':=⟨hb,h.s.mono U,h.n.mono U U,h.u⟩
def Inv.edit(h:Inv k M L)(c:Ce)(b:Int):Inv (k+1) (Ay M c b) L:=⟨h.b,(h.s.edit c b).mono U,(h.n.edit c b).mono U U,h.u⟩
def Inv.up(h:Inv k M L):Inv (k+1) M L:=h.mono (lN _)
def Inv.afF(h:Inv k M L)(L':h_)(c:Ce)(b:Int):Inv (k+1) (iA M L' c b).2 L:=by
 unfold iA;split
 ·exact h.up
 ·exact h.edit c b
def Inv.place(h:Inv k M L)(n:Int)(gE:Ce)(b:Int):Inv (k+1) (sW M L n gE b).2 L:=by
 unfold sW
 repeat' split
 all_goals first|exact h.up|exact h.afF _ _ _
def Inv.brk(h:Inv k M L)(n:Int)(gE:Ce):Inv (k+1) (mE M L n gE).2 L:=by
 unfold mE
 repeat' split
 all_goals first|exact h.up|exact h.afF _ _ _
def Inv.rok(h:Inv k M L)(hq:yN M.q):w_ M L:=⟨h.b,h.n.2.1,h.s.now,hq⟩
def fJ:Nat->Sm->h_->Int×Sm×h_
 |0,M,L=>(0,M,L)
 |n+1,M,L=>((fJ n M L).1+((uO (fJ n M L).2.1).length:Int),(zS (fJ n M L).2.1 (fJ n M L).2.2).1,(zS (fJ n M L).2.1 (fJ n M L).2.2).2)
structure Jnv(k j:Nat)(M:Sm)(L:h_):Prop where
 b:kx L
 s:qB M (300000*k+2560*j)
 n:Nr k (20*k) M
 u:1<=M.dz/\M.dz<=64
def Inv.j(h:Inv k M L):Jnv k 0 M L:=⟨h.b,h.s.mono U,h.n,h.u⟩
def Jnv.inv{j:Nat}(h:Jnv k j M L)(hj:j<=100):Inv (k+1) M L:=⟨h.b,h.s.mono U,h.n.mono U U,h.u⟩
def Jnv.tick{j:Nat}(h:Jnv k j M L):Jnv k (j+1) (zS M L).1 (zS M L).2:=by have hl:=EZ (q:=M.q) (now:=qC M) h.u;have gm:qB (GY M) (300000*k+2560*j):=⟨h.s.l,h.s.c,by have:=h.s.now;show 0<=qC M/\qC M<=_;unfold qC;omega,h.s.d⟩;have hS:qB (zS M L).1 (300000*k+2560*j+40*(uO M).length):=qB.aao _ (uO M) gm;have TE:(uO M).length<=64:=hl;refine⟨h.b.tick,hS.mono U,h.n.tick _,?_⟩;have:(zS M L).1.dz=M.dz:=Of _ _;rw[this];exact h.u
def Inv.ak6(h:Inv k M L):∀n:Nat,Jnv k n (fJ n M L).2.1 (fJ n M L).2.2/\0<=(fJ n M L).1/\(fJ n M L).1<=64*n
 |0=>⟨h.j,jI _,jI _⟩
 |n+1=>by
  have⟨h1,h2,h3⟩:=Inv.ak6 h n
  have hl:=EZ (q:=(fJ n M L).2.1.q) (now:=qC (fJ n M L).2.1) h1.u
  have TE:(uO (fJ n M L).2.1).length<=64:=hl
  refine⟨h1.tick,?_,?_⟩<;>(show _<=_)<;>unfold fJ<;>omega
end
abbrev er(x:Int):Prop:=0<=x/\x<14
def ank(D:Dk)(k:Int)(b:ab):er (kV D k b).2:=by
 unfold kV er
 repeat' split
 all_goals (simp only;omega)
def ajl(D:Dk):er (nX D).2:=by unfold nX er;split<;>(simp only;omega)
def ak3(D:Dk)(id:Int)(b:ab):er (tJ D id b).2:=by
 unfold tJ;split
 ·split
  ·unfold zf er;split<;>(simp only;omega)
  ·split
   ·exact ank ..
   ·exact ajl _
 ·unfold er;simp only;omega
def Oo(D:Dk)(e:En):er (cD D e).2.2:=by
 unfold cD;split
 ·exact ak3 ..
 ·unfold er;simp only;omega
def ak7(D:Dk)(l:List En)(i:Nat):er (C_ D l i).2:=by
 unfold C_;split
 ·exact a0p
 ·split
  ·exact a0p
  ·exact Oo ..
def ajm(limit:Int)(D:Dk)(l:List En):er (fU limit D l).2:=by
 unfold fU;split
 ·exact a0p
 split
 ·exact a0p
 ·exact ak7 ..
def ahS(aj limit:Int)(D:Dk)(l:List En)(p:Po):er (yO aj limit D l p).2:=by
 unfold yO;split
 ·exact a0p
 split
 ·exact a0p
 split
 ·exact ajm ..
 ·unfold er;simp only;omega
def YU(D:Dk)(l:List En)(p:Po):er (oa D l p).2:=by
 unfold oa;split
 ·split
  ·unfold er;simp only;omega
  ·exact ak7 ..
 ·unfold er;simp only;omega
def ac8(D:Dk)(l:List En)(p:Po):er (TK D l p).2:=by
 unfold TK;split
 ·split
  ·exact Oo ..
  ·exact a0p
 ·unfold er;simp only;omega
def afm:∀(l:List En)(D:Dk)(pre:List En)(n:Int),0<=n->er (U9 D pre l n).2.2/\0<=(U9 D pre l n).2.1/\(U9 D pre l n).2.1<=n+l.length
 | [],D,pre,n,h=>by unfold U9 er;simp only[mV];omega
 |e::l,D,pre,n,h=>by
  unfold U9
  rw[cL]
  split
  ·have:=afm l (cD D e).1 (pre++[(cD D e).2.1]) (if e.2.2.1=true then n+1 else n) (by split<;>omega)
   refine⟨this.1,this.2.1,?_⟩
   have h2:=this.2.2
   have:(if e.2.2.1=true then n+1 else n)<=n+1:=by split<;>omega
   omega
  ·exact⟨Oo ..,hX,hX⟩
def ac9(l:List En)(p:Po):er (zq l p).2/\er (kY l p).2:=by
 unfold zq kY er;refine⟨by split<;>(simp only;omega),?_⟩
 repeat' split
 all_goals (simp only;omega)
def anl(l:List En)(c:Ce)(b:Int):er (jo l c b).2:=by
 unfold jo er
 repeat' split
 all_goals (simp only;omega)
def Oq(M:Sm)(L:h_)(c:Ce)(b:Int):er (iA M L c b).1:=by
 unfold iA;split
 ·exact a0p
 ·exact anl ..
def Nh(M:Sm)(L:h_)(n:Int)(gE:Ce):er (cM M L n gE).2:=by
 unfold cM er
 repeat' split
 all_goals (simp only;omega)
def afG(M:Sm)(L:h_)(n:Int)(gE:Ce)(b:Int):er (sW M L n gE b).1:=by
 unfold sW
 repeat' split
 all_goals first|exact Oq .. |exact Nh .. |(unfold er;simp only;omega)
def anm(M:Sm)(L:h_)(n:Int)(gE:Ce):er (mE M L n gE).1.2:=by
 unfold mE
 repeat' split
 all_goals first|exact Oq .. |exact Nh .. |(unfold er;simp only;omega)
def ahZ(L:h_)(n:Int):er (zB L n).1:=by unfold zB er;split<;>(simp only;omega)
def ajn(L:h_)(n:Int)(i:QO):er (A2 L n i).1:=by unfold A2 er;split<;>(simp only;omega)
def ado(M:Sm)(L:h_)(b:eJ):er (iP M L b).2.1:=by
 unfold iP er
 repeat' split
 all_goals (simp only;omega)
open Go.iG
abbrev sv(t:aq):LV:=[.string t]
def amg(t:aq):One (sv t):=by intro v hv;simp[sv]at hv;subst hv;rfl
def Lr{x y:aq}(h:bl x=bl y):x=y:=by have⟨⟨x⟩⟩:=x;have⟨⟨y⟩⟩:=y;have h:x=y:=h;rw[h]
def U_(s:aq)(i j:Nat):bl (s.extract i j)=((bl s).drop i).take (j-i):=a1e
def ai2{n:Int}(h: -2147483648<=n/\n<=2147483647):IntKind.wrap .i32 n=n:=a01
def Sh(s:aq)(m:Nat):aq:=if m<s.size then s.extract 0 m else s
def ae9(s:aq)(m:Nat):(Sh s m).size<=m:=by
 unfold Sh;split
 ·simp;omega
 ·omega
def afa(s:aq)(m:Nat)(w:au):kh 20 #[.string s,S (m:Nat)] w (bP (Sh s m)):=by
 apply aah.B;apply Z.mk<;>intro h<;>simp at h
 ·refine⟨U,U,?_,rfl⟩;unfold Sh;rw[if_pos (by omega)];simp
 ·refine⟨?_,rfl⟩;unfold Sh;rw[if_neg (by omega)]
def Jk(s:aq)(w:au):kh 181 #[.string s,.string (ByteArray.mk #[45])] w (Value.bool (decide ((bl s).head? =some 45))):=by
 apply mA.B;have hl:=jQ s;apply Z.mk<;>intro h
 ·have h:1<=s.size:=by have:=of_decide_eq_true h;have e:(ByteArray.mk #[45]).size=1:=rfl;omega
  refine⟨X,by show((1:Nat):Int)<=_;omega,?_,rfl⟩;congr 2;rw[Bool.eq_iff_iff,kD,decide_eq_true_iff]
  cases hb:bl s with
  |nil=>rw[hb]at hl;simp at hl;omega
  |cons b l=>
   have e1:bl (s.extract 0 1)=[b]:=by rw[U_,hb];rfl
   constructor
   ·intro he;have he:s.extract 0 1=ByteArray.mk #[45]:=he;rw[he]at e1;have e1:[(45:UInt8)]=[b]:=e1;simp at e1;simp[<-e1]
   ·intro he;simp at he;apply Lr;show bl (s.extract 0 1)=[45];rw[e1,he]
 ·have h:s.size=0:=by have:=of_decide_eq_false h;have e:(ByteArray.mk #[45]).size=1:=rfl;omega
  refine⟨?_,rfl⟩;have:bl s=[]:=by apply ur.1;omega
  rw[this];rfl
def Jl(s:aq)(w:au):Y 66 #[.string s,.string ⟨#[45]⟩] w λe w'=>∃d,e=bT #[.string d,.bool (decide ((bl s).head? =some 45))]/\bl d=OU (bl s)/\w'=w:=by
 have hl:=jQ s;apply AL.B;have key:Y 118 #[.string s,.string ⟨#[45]⟩] w λe w'=>∃d,e=bT #[.string d,.bool (decide ((bl s).head? =some 45))]/\bl d=OU (bl s)/\w'=w:=by
  apply mz.B;refine(Jk s w).V ?_;refine⟨_,rfl,Z.mk (λh=>?_) (λh=>?_)⟩
  ·simp only[Bool.not_eq_true',fg]at h;refine⟨s,?_,?_,rfl⟩
   ·rw[decide_eq_false h]
   ·unfold OU;rw[if_neg h]
  ·simp only[Bool.not_eq_false',cC]at h;have h1:1<=s.size:=by
    cases hb:bl s with
    |nil=>rw[hb]at h;cases h
    |cons b l=>rw[hb]at hl;simp at hl;omega
   refine⟨X,by show((1:Nat):Int)<=_;omega,s.extract 1 s.size,?_,?_,rfl⟩
   ·rw[decide_eq_true h];rfl
   ·rw[U_];unfold OU;rw[if_pos h];apply dN;simp[hl]
 refine key.mono ?_;rintro _ _ ⟨d,rfl,hd,rfl⟩;exact⟨_,_,rfl,d,rfl,hd,rfl⟩
def Si{l:List UInt8}{p:Nat}(hp:p<l.length):l.take (p+1)=l.take p++[l.getD p 0]:=by rw[dq,dG,cK hp];rfl
def ai3{l:List UInt8}{p:Nat}(hp:p<l.length)(h:¬(48<=(l.getD p 0).toNat/\(l.getD p 0).toNat<=57)):uR l=none:=by
 have h1:uR (l.take (p+1))=none:=by
  rw[Si hp,CB];unfold KL
  cases uR (l.take p)with
  |none=>rfl
  |some n=>rw[Option.bind_some,if_neg h]
 have:=Jm h1 (l.drop (p+1));rwa[td]at this
def Xt{s:aq}(h:uR (OU (bl s))=none):zX s=(0,false):=by
 unfold zX ai4;split
 ·rfl
 ·rw[h]
def zY{s:aq}(h:(OU (bl s)).length<1\/15<(OU (bl s)).length):zX s=(0,false):=by unfold zX ai4;rw[if_pos h]
def adW{s:aq}{n:Int}(h:¬((OU (bl s)).length<1\/15<(OU (bl s)).length))(hn:uR (OU (bl s))=some n):zX s=(if(bl s).head? =some 45 then -n else n,true):=by unfold zX ai4;rw[if_neg h,hn]
def R5(s:aq)(w:au):ed 32 #[.string s] w (bT #[.int .i64 (zX s).1,.bool (zX s).2]):=by
 apply Ng.B;refine(Jl s w).mono ?_;rintro _ w0 ⟨d,rfl,hd,rfl⟩;refine⟨d,_,rfl,?_⟩;intro w3 e3;have nR:=jQ d;refine⟨λn x v=>∃p:Nat,p+n=d.size/\v.heap[w0.heap.size]? =some (.stringIter d p)/\uR ((bl d).take p)=some x/\x<1000000000000000/\Ext w0 v,⟨d.size,0,by omega,by rw[e3];show(w0.heap.push _)[w0.heap.size]? =_;simp,rfl,by decide,a1L⟩,?_⟩;rintro n5 us6 x7 w8 ⟨p,hp,hit,hx,hxl,x8⟩;have hx0:=(EU _ rfl hx).1;refine⟨w0,d,p,rfl,hit,Z.mk (λh=>?_) (λh=>?_)⟩
 ·have h:=of_decide_eq_true h;obtain⟨-,-,⟨d3,d4⟩,-⟩:=am6 d p h;have hb:=arj d p;intro bw fL apH;have cJ:Ext w0 bw:=Below.trans x8 (fL.below (ak _));have bad:¬(48<=((bl d).getD p 0).toNat/\((bl d).getD p 0).toNat<=57)->(Sl (.tuple #[J,false])=bT #[.int .i64 (zX s).1,.bool (zX s).2]/\Ext w0 bw):=by intro hc;rw[Xt (by rw[<-hd];exact ai3 U hc)];exact⟨rfl,cJ⟩
  refine Z.mk (λh1=>?_) (λh1=>Z.mk (λh2=>?_) (λh2=>?_))
  ·have h1:=of_decide_eq_true h1;apply bad;by_cases c:VQ d p<128
   ·rw[d3 c]at h1;simp only at h1;omega
   ·have:=d4 U;omega
  ·have h2:=of_decide_eq_true h2;apply bad;by_cases c:VQ d p<128
   ·rw[d3 c]at h2;simp only at h2;omega
   ·omega
  ·have h1:=of_decide_eq_false h1;have h2:=of_decide_eq_false h2;have c:VQ d p<128:=by
    by_cases c:VQ d p<128
    ·exact c
    ·have:=d4 U;omega
   rw[d3 c]at h1 h2 apH⊢;simp only at h1 h2 apH⊢;have e1:uR ((bl d).take (p+1))=some (x7*10+((VQ d p:Nat):Int)-48):=by rw[Si U,CB,hx];unfold KL;rw[Option.bind_some,if_pos U,<-hb]
   have e2:I ((I (x7*10))+(I (IntKind.wrap .i32 (((VQ d p:Nat):Int)-48))))=x7*10+((VQ d p:Nat):Int)-48:=by rw[ai2 U,aL (n:=x7*10) XN,aL (n:=((VQ d p:Nat):Int)-48) XN,wI];omega
   rw[e2];apply Z.mk<;>intro h3
   ·have h3:=of_decide_eq_true h3;have cX:((bl d).take (p+1)).length=p+1:=by rw[cS];omega
    have yQ:=(EU _ cX e1).2;have:15<p+1:=by
     apply C6;intro hle;have:(10:Int)^(p+1)<=10^15:=by have:=Nat.pow_le_pow_right (n:=10) X hle;exact_mod_cast this
     omega
    rw[zY (by rw[<-hd];right;omega)];exact⟨rfl,cJ⟩
   ·have h3:=of_decide_eq_false h3;exact⟨n5-1,by omega,p+1,by omega,apH,e1,by omega,cJ⟩
 ·have h:=of_decide_eq_false h;have hpe:p=d.size:=by omega
  rw[hpe,dN U]at hx;refine Z.mk (λh1=>?_) (λh1=>Z.mk (λh2=>?_) (λh2=>?_))
  ·rw[kD]at h1;rw[zY (by rw[<-hd,h1];left;decide)];exact⟨rfl,x8⟩
  ·have h2:=of_decide_eq_true h2;rw[zY (by rw[<-hd];right;omega)];exact⟨rfl,x8⟩
  ·have h2:=of_decide_eq_false h2;have gl:d≠ka4 #[]:=λh=>by rw[(kD _ _).2 h]at h1;cases h1
   have hd1:1<=d.size:=by apply C6;intro h0;apply gl;apply Lr;show bl d=[];apply ur.1;omega
   rw[adW (n:=x7) (by rw[<-hd];omega) (hd▸hx)];apply Z.mk<;>intro h3
   ·have h3:=of_decide_eq_true h3;rw[if_pos h3,wI];exact⟨by rw[Int.zero_sub],x8⟩
   ·have h3:=of_decide_eq_false h3;rw[if_neg h3];exact⟨rfl,x8⟩
end Go.Proofs.YtjcnjlaelhdjeaaGreatDoor
