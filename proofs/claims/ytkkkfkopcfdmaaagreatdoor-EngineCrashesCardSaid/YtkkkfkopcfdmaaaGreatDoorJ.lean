import Derived.Test.YtkkkfkopcfdmaaaGreatDoorI
import Derived.Test.YtkkkfkopcfdmaaaGreatDoorH
set_option linter.all false
namespace Go.Proofs.YtkkkfkopcfdmaaaGreatDoor
open Go Go.Vc Go.RowKit Go.Proofs Go.cg Go.aR Go.Code Go.ej Go.dR Go.gF
set_option maxRecDepth 100000
set_option maxHeartbeats 8000000
def fh(v:Ce):Ce:=PS (λ_ n=>cU n) v
def aaa(v:Ce)(w:World):ae 195 #[eg v] w λe w'=>e=(eg (fh v))/\Ext w w':=by
 apply ahq.vc;intro w0 e0 w1 e1;have x0:=aQ e0;have z0:=zA e0;have x1:=aQ e1;have z1:=zA e1;refine (wL (λ_ n=>cU n) v (.func (.func 256) #[] #[]) w1 λw' x' i x _ _=>cH (by kernel_rfl) rfl (Y1.vc ((iq x w').mono ?_))).mono ?_
 ·rintro e w2 ⟨rfl,rfl⟩;exact ⟨_,rfl,rfl,Ext.cG _⟩
 rintro e w2 ⟨rfl,x2⟩;have z2:=x2.size;exact ⟨_,_,_,rfl,x2.heap aa,x2.heap aa,λw6 e6=>⟨rfl,(x0.tr (x1.tr x2)).ab e6 aa⟩⟩
def BA(n:Int):Int:=min (max n (-1048576)) 1048576
def amd(n:Int):(if 1048576<(if (-1048576)>n then (-1048576) else n) then 1048576 else (if (-1048576)>n then (-1048576) else n))=BA n:=by
 unfold BA
 repeat' split
 all_goals omega
def zc(n:Int)(w:World):ae 257 #[n] w λe w'=>e=Value.int .i64 (BA n)/\w'=w:=by apply Y2.vc;exact ⟨by rw [amd],rfl⟩
def l6(v:Ce):Ce:=(BA v.1,BA v.2.1,BA v.2.2)
def aab(v:Ce)(w:World):ae 196 #[eg v] w λe w'=>e=(eg (l6 v))/\Ext w w':=by apply ahr.vc;intro w0 e0 w1 e1;have x0:=aQ e0;have z0:=zA e0;have r0:Row w0 w (dZ v) iM:=Row.nw e0;have x1:Ext w0 w1.drew:=(aQ e1).drew;have r1:=r0.ext x1;refine (zc v.1 w1.drew).mono ?_;rintro e w2 ⟨rfl,rfl⟩;refine ⟨_,rfl,rfl,rfl,oP r1 rfl,oP r1 rfl,(zc v.2.1 w1.drew).mono ?_⟩;rintro e w4 ⟨rfl,rfl⟩;refine ⟨_,rfl,rfl,rfl,oP r1 rfl,(zc v.2.2 w1.drew).mono ?_⟩;rintro e w6 ⟨rfl,rfl⟩;exact ⟨_,rfl,rfl,rfl,λw8 e8=>⟨rfl,(x0.tr x1).ab e8 aa⟩⟩
abbrev Sd:=Int × Int
def Rq(a b:Sd):Bool:=if a.2=0\/b.2=0 then decide (0<a.2) else decide (aw (a.1*b.2)<aw (b.1*a.2))
def Rr(a b:Sd)(w:World):ae 200 #[.agg #[a.1,a.2],.agg #[b.1,b.2]] w λe w'=>e=Value.bool (Rq a b)/\Ext w w':=by
 apply Uw.vc;intro w0 e0 w1 e1;have x1:Ext w w1:=(aQ e0).br e1;unfold Rq;refine Br.mk (λh=>⟨?_,x1⟩) (λh=>Br.mk (λh2=>⟨?_,x1⟩) (λh2=>⟨?_,x1⟩))
 ·rw [if_pos (Or.inl (by simpa using h))]
 ·rw [if_pos (Or.inr (by simpa using h2))]
 ·rw [if_neg (by
   have h1:=cS h;have h3:=cS h2;rintro (h|h)
   ·exact h1 h
   ·exact h3 h)]
def tL(a b r:Int):Bool:=decide (aw (a-b)<=r) && decide (aw (b-a)<=r)
def ze(a b r:Int){g:Nat}{τ:TypeId}{w:World}(hr:Row w g [r] τ):ae 259 #[a,b,g] w λe w'=>e=Value.bool (tL a b r)/\w'=w:=by apply MQ.vc;unfold tL;refine ⟨r,hr.at 0 rfl,Br.mk (λh=>⟨r,hr.at 0 rfl,by rw [h,qI],rfl⟩) (λh=>⟨by rw [h,DR],rfl⟩)⟩
def nk(a b:Ce)(r:Int):Bool:=tL a.1 b.1 r &&(tL a.2.1 b.2.1 r && tL a.2.2 b.2.2 r)
def Ni(a b:Ce)(r:Int)(w:World):ae 199 #[eg a,eg b,r] w λe w'=>e=Value.bool (nk a b r)/\Ext w w':=by apply Ux.vc;intro w0 e0 w1 e1 w2 e2;have x2:Ext w w2:=((aQ e0).br e1).br e2;have r2:∃τ,Row w2 w1 [r] τ:=⟨_,by rw [e2];exact Row.new w1 [_] _⟩;obtain ⟨τ,r2⟩:=r2;unfold nk;refine (ze a.1 b.1 r r2).mono ?_;rintro e w3 ⟨rfl,rfl⟩;refine ⟨_,rfl,rfl,rfl,Br.mk (λh=>(ze a.2.1 b.2.1 r r2).mono ?_) (λh=>⟨by rw [h,DR],x2⟩)⟩;rintro e w5 ⟨rfl,rfl⟩;refine ⟨_,rfl,rfl,rfl,Br.mk (λh2=>(ze a.2.2 b.2.2 r r2).mono ?_) (λh2=>⟨by rw [h,h2];rfl,x2⟩)⟩;rintro e w7 ⟨rfl,rfl⟩;exact ⟨_,rfl,rfl,rfl,by rw [h,h2,qI,qI],x2⟩
def aei(a b:Int)(ha:0<=a/\a<=1000000000)(hb:0<b/\b<=1048576)(w:World):ae 201 #[a,b] w λe w'=>e=Value.tuple #[.int .i64 (a*65536 / b),ai]/\Ext w w':=by
 apply Y4.vc;refine (wy a w).mono ?_;rintro e w0 ⟨rfl,rfl⟩;have ca:cU a=a:=g9 aa;have cb:cU b=b:=g9 aa;rw [ca];refine ⟨_,_,rfl,(wy b w0).mono ?_⟩;rintro e w3 ⟨rfl,rfl⟩;rw [cb];have aBN:(2 ^(min (16:Int).toNat 64):Int)=65536:=by decide
 have ma:max a (-a)=a:=by omega
 have mb:max b (-b)=b:=by omega
 rw [ma,mb];have na:decide (a<0)=false:=by simpa using ha.1
 have nb:decide (b<0)=false:=by simpa using Int.le_of_lt hb.1
 refine ⟨_,_,rfl,Br.mk (λh=>absurd (by simpa using h:b=0) aa) (λh=> ?_)⟩;have Jk:∀q ∈ Oe b,q:=λq hq=>by
  unfold Oe at hq;rw [if_neg aa] at hq
  cases hq
 rw [aBN,yp (n:=a*65536) aa,na,nb];have hd:Int.tdiv (a*65536) b=a*65536 / b:=sa aa;have h1:0<=a*65536 / b:=Int.ediv_nonneg aa aa;have h2:a*65536 / b<=a*65536:=Int.ediv_le_self _ aa;rw [hd,yp (n:=a*65536 / b) aa];refine bz.2 ⟨Jk,bz.2 ⟨Jk,(Hf (a*65536 / b) aa _ _ w3.drew).mono ?_⟩⟩;rintro e w6 ⟨rfl,x6⟩;exact ⟨_,rfl,rfl,(Ext.dr _).tr x6⟩
def ahE{w:World}{g:Nat}{cs:LV}{E:TypeId}(hr:Row w g cs E){j:Nat}{a b:Value}(hj:j+2<=cs.length)(ha:a.oneCell'=true)(hb:b.oneCell'=true):
  Wr w (af (aD g) j) 2/\∀w',w'=Vc.bF w (af (aD g) j) [a,b]->Row w' g ((cs.set j a).set (j+1) b) E/\Mod (λi=>i=g) w w':=by
 rw [aV,eC];have h1:One [a,b]:=by
  intro u hu;simp at hu;rcases hu with rfl|rfl
  ·exact ha
  ·exact hb
 refine ⟨hr.wr hj,λw' e=> ?_⟩;rw [hr.bF (by simpa using hj) h1] at e;subst e;exact ⟨hr.set _,rfl,rfl,rfl,by rw [setRow_size];exact ak _,λi _ hn=>setRow_other _ _ _ _ hn⟩
abbrev S3:=Sd × Sd × Sd
abbrev E8(s:S3):LV:=[.int .i64 s.1.1,.int .i64 s.1.2,.int .i64 s.2.1.1,.int .i64 s.2.1.2,.int .i64 s.2.2.1,.int .i64 s.2.2.2]
abbrev S8:TypeId:=268
def aeh(s:S3):One (E8 s):=by intro v hv;simp at hv;rcases hv with rfl|rfl|rfl|rfl|rfl|rfl<;>rfl
def zH(f d:Ce)(i:Int):Sd:=if cN d i>0 then (aw (65536-vm (cN f i)),cN d i) else (vm (cN f i),aw (0-cN d i))
def Z2(f d:Ce):Nat->S3
 |0=>((0,0),(0,0),(0,0))
 |1=>(zH f d 0,(0,0),(0,0))
 |2=>(zH f d 0,zH f d 1,(0,0))
 |_=>(zH f d 0,zH f d 1,zH f d 2)
def Vb(f d:Ce)(w:World):ae 198 #[eg f,eg d] w λe w'=>e=Value.agg (E8 (Z2 f d 3)).toArray/\Ext w w':=by
 apply Y3.vc;intro w0 e0 w1 e1 w2 e2 w3 e3;have x0:=aQ e0;have z0:=zA e0;have x1:=aQ e1;have z1:=zA e1;have r1:Row w1 w0 (dZ d) iM:=Row.nw e1;have x2:=aQ e2;have z2:=zA e2;have r2:Row w2 w1 (E8 ((0,0),(0,0),(0,0))) S8:=Row.nw e2;have x3:=aQ e3;have z3:=zA e3;have r3:Row w3 w2 (E8 ((0,0),(0,0),(0,0))) S8:=Row.nw e3;have Da:=x0.tr (x1.tr (x2.tr x3));refine ⟨λn x wr=>∃k:Nat,x=k/\k+n=3/\Row wr w2 (E8 (Z2 f d k)) S8/\Row wr w1 (E8 ((0,0),(0,0),(0,0))) S8/\Row wr w0 (dZ d) iM/\Ext w wr,⟨3,rfl,rfl,0,rfl,rfl,r3,r2.ext x3,r1.ext (x2.tr x3),Da⟩,?_⟩;rintro n us x w8 ⟨k,rfl,hk,rl,ro,rd,xr⟩;have zl:=rl.lt;apply Br.mk<;>intro hc
 ·have hc:=cS hc;have BH:k=0\/k=1\/k=2:=by omega
  have wk:=ov (j:=k);have xd:=Ext.dr w8;have zd:=m7 w8;refine (da f k w8.drew).mono ?_;rintro e bo ⟨rfl,bE⟩;have XB:=bE.size;refine ⟨_,rfl,bE.heap aa,bE.heap aa,Lo.wv (rd.ext (xd.tr bE)),(da d k bo).mono ?_⟩;rintro e cC ⟨rfl,bW⟩;have z12:=bW.size;have y12:=xd.tr (bE.tr bW);refine ⟨_,rfl,bW.heap aa,bW.heap aa,(Cr (cN f k) cC).mono ?_⟩;rintro e bH ⟨rfl,rfl⟩;obtain ⟨p1,p2⟩:=ahE (rl.ext y12) (j:=(k:Int).toNat*2) (a:=.int .i64 (vm (cN f k))) (b:=.int .i64 (aw (0-cN d k))) (by show _<=6;omega) rfl rfl;refine ⟨_,rfl,rfl,rfl,aa,aa,⟨rfl,p1⟩,qX aa,qX aa,λcD FY=> ?_⟩;obtain ⟨q1,q2⟩:=p2 cD FY;have z16:=q2.size;have atQ:Ext w cD:=q2.ext (xr.tr y12) λi hi=>by omega
  have aoI:=(ro.ext y12).same (q2.same _ (ro.ext y12).lt aa);have N7:=(rd.ext y12).same (q2.same _ (rd.ext y12).lt aa);refine Br.mk (λhq=>(Cr (cN f k) cD).mono ?_) (λhq=>⟨n-1,aa,rfl,rfl,k+1,wk,aa,?_,aoI,N7,atQ⟩)
  ·rintro e cL ⟨rfl,rfl⟩;obtain ⟨p3,p4⟩:=ahE q1 (j:=(k:Int).toNat*2) (a:=.int .i64 (aw (65536-vm (cN f k)))) (b:=.int .i64 (cN d k)) (by rw [iE,iE];show _<=6;omega) rfl rfl;refine ⟨_,rfl,rfl,rfl,aa,aa,⟨rfl,p3⟩,qX aa,qX aa,λfK e19=> ?_⟩;obtain ⟨q3,q4⟩:=p4 fK e19;have hq:=cS hq;have hs:zH f d k=(aw (65536-vm (cN f k)),cN d k):=by unfold zH;rw [if_pos hq]
   refine ⟨n-1,aa,rfl,rfl,k+1,wk,aa,?_,aoI.same (q4.same _ aoI.lt aa),N7.same (q4.same _ N7.lt aa),q4.ext atQ λi hi=>by omega⟩;rcases BH with rfl|rfl|rfl
   ·have hs:zH f d 0=_:=hs;show Row fK _ (E8 (zH f d 0,(0,0),(0,0))) S8;rw [hs];exact q3
   ·have hs:zH f d 1=_:=hs;show Row fK _ (E8 (zH f d 0,zH f d 1,(0,0))) S8;rw [hs];exact q3
   ·have hs:zH f d 2=_:=hs;show Row fK _ (E8 (zH f d 0,zH f d 1,zH f d 2)) S8;rw [hs];exact q3
  ·have hq:=cS hq;have hs:zH f d k=(vm (cN f k),aw (0-cN d k)):=by unfold zH;rw [if_neg hq]
   rcases BH with rfl|rfl|rfl
   ·have hs:zH f d 0=_:=hs;show Row cD _ (E8 (zH f d 0,(0,0),(0,0))) S8;rw [hs];exact q1
   ·have hs:zH f d 1=_:=hs;show Row cD _ (E8 (zH f d 0,zH f d 1,(0,0))) S8;rw [hs];exact q1
   ·have hs:zH f d 2=_:=hs;show Row cD _ (E8 (zH f d 0,zH f d 1,zH f d 2)) S8;rw [hs];exact q1
 ·have hc:=cS hc;have BH:k=3:=by omega
  subst BH;refine ⟨_,_,_,_,_,_,Lo.wv rl,⟨rfl,ro.wr bg⟩,qx aa,qx aa,λgx BZ=> ?_⟩;rw [ro.bF (vs:=E8 (Z2 f d 3)) bg (aeh (Z2 f d 3)),dE bg] at BZ;have r26:Row gx w1 (E8 (Z2 f d 3)) S8:=ro.st BZ;exact ⟨_,_,_,_,_,_,Lo.wv r26,rfl,xr.ab BZ aa⟩
def kl(s:S3):Nat->Sd
 |0=>s.1
 |1=>s.2.1
 |_=>s.2.2
def Ly(s:S3)(i:Nat)(x:Sd):S3:=
 match i with
 |0=>(x,s.2.1,s.2.2)
 |1=>(s.1,x,s.2.2)
 |_=>(s.1,s.2.1,x)
def gw(s:S3):Nat->Nat
 |0=>0
 |k+1=>if Rq (kl s k) (kl s (gw s k))=true then k else gw s k
def Ng(s:S3):∀k:Nat,gw s k<k\/gw s k=0
 |0=> .inr rfl
 |k+1=>by
  unfold gw
  have:=Ng s k
  split<;>omega
def at3(s:S3):gw s 3=0\/gw s 3=1\/gw s 3=2:=by have:=Ng s 3;omega
abbrev Hi:=Ce × Int × Int
def nbN(c:Ce):Nat->Ce
 |0=>(c.1-1,c.2.1,c.2.2)
 |1=>(c.1+1,c.2.1,c.2.2)
 |2=>(c.1,c.2.1-1,c.2.2)
 |3=>(c.1,c.2.1+1,c.2.2)
 |4=>(c.1,c.2.1,c.2.2-1)
 |_=>(c.1,c.2.1,c.2.2+1)
def ig(d:Ce)(s:S3)(h:Hi):Option (S3 × Hi):=
 if (kl s (gw s 3)).2=0 then none
 else some (Ly s (gw s 3) ((kl s (gw s 3)).1+65536,(kl s (gw s 3)).2),(nbN h.1 (if cN d (gw s 3)>0 then 2*gw s 3+1 else 2*gw s 3),(if cN d (gw s 3)>0 then 2*(gw s 3:Int) else 2*(gw s 3:Int)+1),(kl s (gw s 3)).1*65536 /(kl s (gw s 3)).2))
def goK(d c0:Ce)(r:Int):Nat->S3->Hi->List Hi
 |0,_,_=> []
 |n+1,s,h=>if nk c0 h.1 r=true then h::(match ig d s h with|none=> []|some q=>goK d c0 r n q.1 q.2) else []
def Bn(x:Int):Int:=max x (-x)
def Nh(k:Nat)(x:Sd)(d o:Int):Prop:=x.2=Bn d/\(0<=x.1/\x.1<=65536*(k+1))/\(0<d->0<=o)/\(d<=0->o<=0)
def Bo(d c0:Ce)(k:Nat)(s:S3)(c:Ce):Prop:=
 (Nh k s.1 d.1 (c.1-c0.1)/\Nh k s.2.1 d.2.1 (c.2.1-c0.2.1)/\Nh k s.2.2 d.2.2 (c.2.2-c0.2.2))/\Bn (c.1-c0.1)+Bn (c.2.1-c0.2.1)+Bn (c.2.2-c0.2.2)=k
def aef{d c0:Ce}{k:Nat}{s:S3}{h:Hi}(hr:Bo d c0 k s h.1){q:S3 × Hi}(hq:ig d s h=some q):Bo d c0 (k+1) q.1 q.2.1:=by
 obtain ⟨⟨⟨h1,h2,h3,h4⟩,⟨g1,g2,g3,g4⟩,⟨f1,f2,f3,f4⟩⟩,hs⟩:=hr;obtain ⟨⟨s1,s2⟩,⟨t1,t2⟩,⟨u1,u2⟩⟩:=s;obtain ⟨⟨cx,cy,cz⟩,face,time⟩:=h;unfold ig at hq;split at hq
 ·cases hq
 rename_i hZ;injection hq with hq;subst hq;rcases at3 ((s1,s2),(t1,t2),(u1,u2)) with e|e|e
 ·rw [e] at hZ ⊢;have a0:cN d ((0:Nat):Int)=d.1:=rfl;rw [a0];simp only [kl,Ly] at hZ h1 h2 h3 h4 g1 g2 g3 g4 f1 f2 f3 f4 hs ⊢;unfold Bo Nh Bn;unfold Bn at h1 g1 f1 hs;split
  ·show (_/\_)/\_;simp only [nbN];omega
  ·show (_/\_)/\_;simp only [nbN];omega
 ·rw [e] at hZ ⊢;have a0:cN d ((1:Nat):Int)=d.2.1:=rfl;rw [a0];simp only [kl,Ly] at hZ h1 h2 h3 h4 g1 g2 g3 g4 f1 f2 f3 f4 hs ⊢;unfold Bo Nh Bn;unfold Bn at h1 g1 f1 hs;split
  ·simp only [nbN];omega
  ·simp only [nbN];omega
 ·rw [e] at hZ ⊢;have a0:cN d ((2:Nat):Int)=d.2.2:=rfl;rw [a0];simp only [kl,Ly] at hZ h1 h2 h3 h4 g1 g2 g3 g4 f1 f2 f3 f4 hs ⊢;unfold Bo Nh Bn;unfold Bn at h1 g1 f1 hs;split
  ·simp only [nbN];omega
  ·simp only [nbN];omega
def Z1{d c0 c:Ce}{k:Nat}{s:S3}{r:Int}(hr:Bo d c0 k s c)(h0:(-2000000000<=c0.1/\c0.1<=2000000000)/\(-2000000000<=c0.2.1/\c0.2.1<=2000000000)/\-2000000000<=c0.2.2/\c0.2.2<=2000000000)(hk:k<=1000)(hw:nk c0 c r=true):(k:Int)<=3*r:=by obtain ⟨-,hs⟩:=hr;unfold Bn at hs;unfold nk tL at hw;simp only [fk,cJ] at hw;rw [wI,wI,wI,wI,wI,wI] at hw;omega
abbrev hiV(h:Hi):Value:=.agg #[h.1.1,h.1.2.1,h.1.2.2,ai,h.2.1,h.2.2]
def mW(f d:Ce)(r:Int):List Hi:=goK d (bj f) r (3*r.toNat+2) (Z2 f d 3) (bj f,-1,0)
abbrev trX(f d:Ce)(r:Int):List (LV):=(mW f d r).map λh=> [hiV h]
abbrev aqx(g:Nat):Value:=.func (.func 197) #[] #[g,.pointer (some ⟨g+1,0,none⟩),.pointer (some ⟨g+2,0,none⟩)]
def lu{w:World}{g:Nat}{s:S3}{E:TypeId}(hr:Row w g (E8 s) E){a:Nat}(ha:a=0\/a=1\/a=2):ah w (af (aD g) ((a:Int).toNat*2)) 0 [.int .i64 (kl s a).1,.int .i64 (kl s a).2]:=by
 rw [aV,eC];rcases ha with rfl|rfl|rfl
 all_goals
  refine hr.bI λj hj=> ?_
  match j,hj with
  |0,_=>rfl
  |1,_=>rfl
def ldA{w:World}{g:Nat}{s:S3}{E:TypeId}(hr:Row w g (E8 s) E){a:Nat}(ha:a=0\/a=1\/a=2):Vc.ld w (af (af (aD g) ((a:Int).toNat*2)) 0)=some (.int .i64 (kl s a).1):=by rw [aV,aV,hr.ld];rcases ha with rfl|rfl|rfl<;>rfl
def ldB{w:World}{g:Nat}{s:S3}{E:TypeId}(hr:Row w g (E8 s) E){a:Nat}(ha:a=0\/a=1\/a=2):Vc.ld w (af (af (aD g) ((a:Int).toNat*2)) 1)=some (.int .i64 (kl s a).2):=by rw [aV,aV,hr.ld];rcases ha with rfl|rfl|rfl<;>rfl
def alj{w:World}{g:Nat}{s:S3}{E:TypeId}(hr:Row w g (E8 s) E){a:Nat}(ha:a=0\/a=1\/a=2)(x:Int):
  Wr w (af (af (aD g) ((a:Int).toNat*2)) 0) 1/\∀w',w'=Vc.bF w (af (af (aD g) ((a:Int).toNat*2)) 0) [x]->Row w' g (E8 (Ly s a (x,(kl s a).2))) E/\Mod (λi=>i=g) w w':=by
 have e:af (af (aD g) ((a:Int).toNat*2)) 0=af (aD g) ((a:Int).toNat*2):=by rw [aV,aV];rfl
 rw [e];obtain ⟨p1,p2⟩:=hr.ic (j:=(a:Int).toNat*2) (v:=.int .i64 x) (by show _<6;omega) rfl;refine ⟨p1,λw' e'=> ?_⟩;obtain ⟨q1,q2⟩:=p2 w' e';refine ⟨?_,q2⟩;rcases ha with rfl|rfl|rfl<;>exact q1
def tM{w w':World}{g:Nat}{c:Array Value}(e:w'=w.setRow g c):Mod (λi=>i=g) w w':=by subst e;exact ⟨rfl,rfl,rfl,by rw [setRow_size];exact ak _,λi _ hn=>setRow_other _ _ _ _ hn⟩
def Xj(c:Ce){j:Nat}(hj:j<6):((ET c).drop ((j:Int).toNat*3)).take 3=dZ (nbN c j):=by
 have:j=0\/j=1\/j=2\/j=3\/j=4\/j=5:=by omega
 rcases this with rfl|rfl|rfl|rfl|rfl|rfl<;>rfl
def axd(d:Ce):cN d ((0:Nat):Int)=d.1/\cN d ((1:Nat):Int)=d.2.1/\cN d ((2:Nat):Int)=d.2.2:=⟨rfl,rfl,rfl⟩
def aeg{d c0 c:Ce}{k a:Nat}{s:S3}(hr:Bo d c0 k s c)(ha:a=0\/a=1\/a=2):Nh k (kl s a) (cN d a) (cN c a-cN c0 a):=by
 obtain ⟨⟨h1,h2,h3⟩,-⟩:=hr;rcases ha with rfl|rfl|rfl
 ·exact h1
 ·exact h2
 ·exact h3
def Z3(f d:Ce)(hd:∀i:Nat,i<3-> -1048576<=cN d i/\cN d i<=1048576):Bo d (bj f) 0 (Z2 f d 3) (bj f):=by
 have h0:=hd 0 aA;have h1:=hd 1 aA;have h2:=hd 2 aA;obtain ⟨a0,a1,a2⟩:=axd d;rw [a0] at h0;rw [a1] at h1;rw [a2] at h2;have key:∀(i:Int)(q:Int),cN d i=q-> -1048576<=q/\q<=1048576->Nh 0 (zH f d i) q 0:=λi q hq hb=>by
  have hf:0<=vm (cN f i)/\vm (cN f i)<65536:=by unfold vm;omega
  unfold zH Nh Bn;rw [hq];split
  ·rw [wI];simp only;omega
  ·rw [wI];simp only;omega
 refine ⟨⟨?_,?_,?_⟩,?_⟩
 ·rw [Int.sub_self];exact key 0 d.1 a0 h0
 ·rw [Int.sub_self];exact key 1 d.2.1 a1 h1
 ·rw [Int.sub_self];exact key 2 d.2.2 a2 h2
 ·rw [Int.sub_self,Int.sub_self,Int.sub_self];rfl
def Va(f d:Ce)(r:Int)(hf:(-1900000000<=(bj f).1/\(bj f).1<=1900000000)/\(-1900000000<=(bj f).2.1/\(bj f).2.1<=1900000000)/\-1900000000<=(bj f).2.2/\(bj f).2.2<=1900000000)(hd:∀i:Nat,i<3-> -1048576<=cN d i/\cN d i<=1048576)(hr:0<=r/\r<=64)
  (g:Nat)(W0:World)(h0:Row W0 g (dZ f) iM)(h1:Row W0 (g+1) (dZ d) iM)(h2:Row W0 (g+2) [r] 3):
  Iter Tryz.prog (aqx g) W0 (λi=>i=g\/i=g+1\/i=g+2) (trX f d r):=by
 refine ⟨⟨_,_,_,rfl,by kernel_rfl⟩,?_⟩;intro y B J Jx F0 W hB hsJ hsX zo hRd hround hJ0;refine cH (by kernel_rfl) (by rfl) ?_;apply Ql.vc;have q0:=h0.same (hRd g (.inl rfl)).2.2;have q1:=h1.same (hRd (g+1) (.inr (.inl rfl))).2.2;have q2:=h2.same (hRd (g+2) (.inr (.inr rfl))).2.2;refine ⟨_,_,_,Lo.wv q0,_,_,_,Lo.wv q1,(Vb f d W).mono ?_⟩;rintro e w6 ⟨rfl,x6⟩;have z6:=x6.size;refine ⟨_,_,_,_,_,_,rfl,λbP Fj=> ?_⟩;have z13:=zA Fj;have r13:Row bP w6 (E8 ((0,0),(0,0),(0,0))) S8:=Row.nw Fj;refine ⟨⟨rfl,r13.wr bg⟩,λbH uU=> ?_⟩;rw [r13.bF (vs:=E8 (Z2 f d 3)) bg (aeh (Z2 f d 3)),dE bg] at uU;have r14:Row bH w6 (E8 (Z2 f d 3)) S8:=r13.st uU;have z14:=zR uU;have cB:Ext w6 bH:=(aQ Fj).ab uU (ak _);refine ⟨_,_,_,Lo.wv (q0.ext (x6.tr cB)),(AF f bH).mono ?_⟩;rintro e dI ⟨rfl,dc⟩;have z18:=dc.size;refine ⟨_,_,_,rfl,λdm zi fQ XK gC J5 cZ zk=> ?_⟩;have z22:=zA zi;have z23:=zR XK;have z24:=zA J5;have z25:=zR zk;have eZ:Ext dI cZ:=(((aQ zi).ab XK (ak _)).br J5).ab zk aa;have xW:=x6.tr (cB.tr (dc.tr eZ));obtain ⟨K,hK⟩:∃K:Nat->Prop,K=λi=>i=g\/i=g+1\/i=g+2\/i=w6.heap.size\/i=dI.heap.size\/i=fQ.heap.size:=⟨_,rfl⟩
 obtain ⟨P,hP⟩:∃P:Nat->S3->World->Prop,P=λk s wr=>(∃F,J k F wr/\∀i,K i->¬F i/\i<wr.heap.size)/\(Row wr g (dZ f) iM/\Row wr (g+1) (dZ d) iM/\Row wr (g+2) [r] 3)/\Row wr w6 (E8 s) S8/\cZ.heap.size<=wr:=⟨_,rfl⟩
 have ext:∀{k:Nat} {s:S3} {wr wr':World},P k s wr->Ext wr wr'->P k s wr':=λ{k s wr wr'} h x=>by rw [hP] at h ⊢;obtain ⟨⟨F,hJ,hk⟩,⟨a0,a1,a2⟩,a3,a4⟩:=h;exact ⟨⟨F,hsJ _ _ _ _ hJ (Below.mono x aa) λi hi=>x.heap (zo _ _ _ hJ i hi),λi hi=>⟨(hk i hi).1,kr (hk i hi).2 x.size⟩⟩,⟨a0.ext x,a1.ext x,a2.ext x⟩,a3.ext x,gG a4 x.size⟩
 have glt:g+2<W.heap.size:=q2.lt;have rj:∀{k:Nat} {s s':S3} {wr wr':World} {b:Nat},P k s wr->Mod (λi=>i=b) wr wr'->(b=w6.heap.size\/b=dI.heap.size)->Row wr' w6 (E8 s') S8->P k s' wr':=λ{k s s' wr wr' b} h hm hb c9=>by rw [hP] at h ⊢;obtain ⟨⟨F,hJ,hk⟩,⟨a0,a1,a2⟩,a3,a4⟩:=h;have LS:¬F b:=(hk b (by rw [hK];rcases hb with rfl|rfl<;>simp)).1;refine ⟨⟨F,hsJ _ _ _ _ hJ (hm.below aa λi hi=>by rcases hb with rfl|rfl<;>omega) λi hi=>hm.same i (zo _ _ _ hJ i hi) λq=>LS (by rw [<-q];exact hi),λi hi=>⟨(hk i hi).1,kr (hk i hi).2 hm.size⟩⟩,⟨a0.same (hm.same _ a0.lt aa),a1.same (hm.same _ a1.lt aa),a2.same (hm.same _ a2.lt aa)⟩,c9,gG a4 hm.size⟩
 have init:P 0 (Z2 f d 3) cZ:=by
  rw [hP];refine ⟨⟨F0,hsJ _ _ _ _ hJ0 (Below.mono xW aa) λi hi=>xW.heap (zo _ _ _ hJ0 i hi),λi hi=> ?_⟩,⟨q0.ext xW,q1.ext xW,q2.ext xW⟩,r14.ext (dc.tr eZ),ak _⟩;rw [hK] at hi;have hF:∀i,F0 i->i<W.heap.size:=λi hi=>zo _ _ _ hJ0 i hi
  rcases hi with hi|hi|hi|hi|hi|hi
  ·exact ⟨(hRd i (.inl hi)).1,aa⟩
  ·exact ⟨(hRd i (.inr (.inl hi))).1,aa⟩
  ·exact ⟨(hRd i (.inr (.inr hi))).1,aa⟩
  ·exact ⟨λq=>by have:=hF i q;omega,aa⟩
  ·exact ⟨λq=>by have:=hF i q;omega,aa⟩
  ·exact ⟨λq=>by have:=hF i q;omega,aa⟩
 have round:∀{k:Nat} {s:S3} {wr:World} {x:LV},(trX f d r)[k]? =some x->P k s wr->bB Tryz.prog y x wr λe w'=>((e=true/\P (k+1) s w')\/(e=false/\∃F',Jx () F' w'))/\w'.heap[dI.heap.size]? =wr.heap[dI.heap.size]?/\w'.heap[fQ.heap.size]? =wr.heap[fQ.heap.size]? :=λ{k s wr x} hx h=>by
  rw [hP] at h ⊢;obtain ⟨⟨F,hJ,hk⟩,⟨a0,a1,a2⟩,a3,a4⟩:=h;have kk:∀i,(i=g\/i=g+1\/i=g+2\/i=w6.heap.size\/i=dI.heap.size\/i=fQ.heap.size)->K i:=λi hi=>by rw [hK];exact hi
  refine bV (hround _ _ _ _ hx hJ) ?_;rintro e w' (⟨rfl,F2,Wb,iC⟩|⟨rfl,F2,Wb,iC⟩)
  ·have same:∀i,K i->w'.heap[i]? =wr.heap[i]? :=λi hi=>iC.same i (hk i hi).2 (hk i hi).1
   refine ⟨.inl ⟨rfl,⟨F2,Wb,λi hi=>⟨λhf=> ?_,kr (hk i hi).2 iC.size⟩⟩,⟨a0.same (same _ (kk _ bg)),a1.same (same _ (kk _ bg)),a2.same (same _ (kk _ bg))⟩,a3.same (same _ (kk _ bg)),gG a4 iC.size⟩,same _ (kk _ bg),same _ (kk _ bg)⟩;rcases iC.sub i hf with hf|hf
   ·exact (hk i hi).1 hf
   ·have:=(hk i hi).2;omega
  ·have same:∀i,K i->w'.heap[i]? =wr.heap[i]? :=λi hi=>iC.same i (hk i hi).2 (hk i hi).1
   exact ⟨.inr ⟨rfl,F2,Wb⟩,same _ (kk _ bg),same _ (kk _ bg)⟩
 have fin:∀{s:S3} {wr:World},P (trX f d r).length s wr->∃F',J (trX f d r).length F' wr:=λh=>by rw [hP] at h;obtain ⟨⟨F,hJ,-⟩,-⟩:=h;exact ⟨F,hJ⟩
 have rowL:∀{k:Nat} {s:S3} {wr:World},P k s wr->Row wr w6 (E8 s) S8:=λh=>by rw [hP] at h;exact h.2.2.1
 have rowD:∀{k:Nat} {s:S3} {wr:World},P k s wr->Row wr (g+1) (dZ d) iM:=λh=>by rw [hP] at h;exact h.2.1.2.1
 have rowR:∀{k:Nat} {s:S3} {wr:World},P k s wr->Row wr (g+2) [r] 3:=λh=>by rw [hP] at h;exact h.2.1.2.2
 have hz:∀{k:Nat} {s:S3} {wr:World},P k s wr->cZ.heap.size<=wr:=λh=>by rw [hP] at h;exact h.2.2.2
 have hxs:trX f d r=(goK d (bj f) r (3*r.toNat+2) (Z2 f d 3) (bj f,-1,0)).map λh=> [hiV h]:=rfl
 generalize trX f d r=xs at*;have hbegin:=Z3 f d hd;generalize um:bj f=c0 at*;refine ⟨λn a b c z fc tm wr=>∃(k:Nat)(s:S3),P k s wr/\k+n=3*r.toNat+2/\Bo d c0 k s (a,b,c)/\z=0/\∃pre:List (LV),pre.length=k/\xs=pre++(goK d c0 r n s ((a,b,c),fc,tm)).map λh=> [hiV h],⟨3*r.toNat+2,rfl,0,Z2 f d 3,init,aa,hbegin,rfl,[],rfl,hxs⟩,?_⟩;rintro n us a b c z fc tm wr ⟨k,s,hp,Xz,hro,rfl,pre,hpl,hx⟩;have zr:=hz hp;refine ⟨_,(rowR hp).at 0 rfl,(Ni c0 (a,b,c) r wr).mono ?_⟩;rintro e oE ⟨rfl,km⟩;have J7:=ext hp km;refine ⟨_,rfl,km.heap aa,km.heap aa,Br.mk (λhw=> ?_) (λhw=> ?_)⟩
 ·have BH:=Z1 hro aa aa hw;obtain ⟨n,rfl⟩:∃n',n=n'+1:=⟨n-1,aa⟩;have hgo:goK d c0 r (n+1) s ((a,b,c),fc,tm)=((a,b,c),fc,tm)::(match ig d s ((a,b,c),fc,tm) with|none=> []|some q=>goK d c0 r n q.1 q.2):=by
   show (if nk c0 (a,b,c) r=true then _ else _)=_;rw [if_pos hw]
   all_goals (cases ig d s ((a,b,c),fc,tm)<;>rfl)
  rw [hgo] at hx;have hxk:xs[k]? =some [hiV ((a,b,c),fc,tm)]:=by rw [hx,qH aa,hpl,Nat.sub_self];rfl
  refine bV (round hxk J7) ?_;rintro e kz ⟨hcase,k1,k2⟩;rcases hcase with ⟨rfl,atw⟩|⟨rfl,hJx⟩
  ·refine ⟨true,rfl,k1,k2,Br.mk (λq=>by cases q) (λ_=> ?_)⟩;have z40:=hz atw;refine ⟨λm i at_ wr=>∃j:Nat,i=j/\j+m=3/\at_=gw s j/\P (k+1) s wr,⟨3,rfl,rfl,0,rfl,rfl,rfl,atw⟩,?_⟩;rintro m us i at_ VN ⟨j,rfl,hjm,rfl,V8⟩;have z2:=hz V8;have haj:gw s j<j\/gw s j=0:=Ng s j;apply Br.mk<;>intro hc
   ·have hc:=cS hc;have hj3:j=0\/j=1\/j=2:=by omega
    have ha3:gw s j=0\/gw s j=1\/gw s j=2:=by omega
    have hpd:=ext V8 (Ext.dr VN);have zd:=m7 VN;refine ⟨aa,aa,_,_,lu (rowL hpd) hj3,aa,aa,_,_,lu (rowL hpd) ha3,(Rr (kl s j) (kl s (gw s j)) VN.drew).mono ?_⟩;rintro e Tp ⟨rfl,kS⟩;have atx:=ext hpd kS;have wk:=ov (j:=j);refine ⟨_,rfl,kS.heap aa,kS.heap aa,Br.mk (λq=>⟨m-1,aa,rfl,rfl,j+1,wk,aa,?_,atx⟩) (λq=>⟨m-1,aa,rfl,rfl,j+1,wk,aa,?_,atx⟩)⟩
    ·show ((j:Nat):Int)=((if Rq (kl s j) (kl s (gw s j))=true then j else gw s j:Nat):Int);rw [if_pos q]
    ·show ((gw s j:Nat):Int)=((if Rq (kl s j) (kl s (gw s j))=true then j else gw s j:Nat):Int);rw [if_neg (by rw [q];decide)]
   ·have hc:=cS hc;have:j=3:=by omega
    subst this;have ha3:=at3 s;have hside:=aeg hro ha3;have F8:ig d s ((a,b,c),fc,tm)=if (kl s (gw s 3)).2=0 then none else some (Ly s (gw s 3) ((kl s (gw s 3)).1+65536,(kl s (gw s 3)).2),(nbN (a,b,c) (if cN d (gw s 3)>0 then 2*gw s 3+1 else 2*gw s 3),(if cN d (gw s 3)>0 then 2*(gw s 3:Int) else 2*(gw s 3:Int)+1),(kl s (gw s 3)).1*65536 /(kl s (gw s 3)).2)):=rfl;have abD:=λq (h:ig d s ((a,b,c),fc,tm)=some q)=>aef hro h
    have hdd:=hd (gw s 3) aa;generalize gw s 3=A at*;refine ⟨aa,aa,_,ldB (rowL V8) ha3,Br.mk (λq=> ?_) (λq=> ?_)⟩
    ·have q:=cS q;rw [F8,if_pos q] at hx;have:xs.length=k+1:=by rw [hx];simp [hpl]
     rw [<-this] at V8;exact ⟨⟨_,rfl⟩,.inl (fin V8)⟩
    ·have q:=cS q;rw [if_neg q] at F8;rw [F8] at hx;have abD:=abD _ F8;obtain ⟨s1,s2,s3,s4⟩:=hside;have s2':0<=(kl s A).1/\(kl s A).1<=20000000:=by omega
     have hsp:0<(kl s A).2/\(kl s A).2<=1048576:=by unfold Bn at s1;omega
     have hpd:=ext V8 (Ext.dr VN);have zd:=m7 VN;refine ⟨aa,aa,_,ldA (rowL hpd) ha3,aa,aa,_,ldB (rowL hpd) ha3,(aei _ _ aa hsp VN.drew).mono ?_⟩;rintro e Er ⟨rfl,zw⟩;have ajq:=ext hpd zw;have z58:=hz ajq;obtain ⟨p1,p2⟩:=alj (rowL ajq) ha3 (aw ((kl s A).1+65536));refine ⟨_,_,rfl,zw.heap aa,zw.heap aa,aa,aa,_,ldA (rowL ajq) ha3,aa,aa,⟨rfl,p1⟩,?_,?_,λjX e62=> ?_⟩
     ·rw [cP];exact qX aa
     ·rw [cP];exact qX aa
     obtain ⟨q1,q2⟩:=p2 jX e62;rw [aK (n:=(kl s A).1+65536) gA] at q1;have aop:=rj ajq q2 (.inl rfl) q1;have z62:=hz aop;refine ⟨_,_,_,Lo.wv (rowD aop),(da d A jX).mono ?_⟩;rintro e sQ ⟨rfl,oI⟩;have aoq:=ext aop oI;have z66:=hz aoq;have hwide:fm (a,b,c):=by unfold nk tL at hw;obtain ⟨-,BQ⟩:=hro;unfold Bn at BQ;unfold fm;simp only at BQ ⊢;omega
     have w1:aw (2*(A:Int))=2*(A:Int):=wI;have w2:aw (2*(A:Int)+1)=((2*A+1:Nat):Int):=by rw [wI];omega
     have w3:aw (2*(A:Int)+0)=((2*A:Nat):Int):=by rw [wI];omega
     have w4:aw (((2*A+1:Nat):Int)-1)=2*(A:Int):=by rw [wI];omega
     have w5:aw (((2*A+1:Nat):Int)-0)=2*(A:Int)+1:=by rw [wI];omega
     rw [w1,w2,w3,w4,w5];have hxx:∀y:List Hi,xs=pre++(((a,b,c),fc,tm)::y).map (λh=> [hiV h])->xs=(pre++ [[hiV ((a,b,c),fc,tm)]])++y.map λh=> [hiV h]:=λy h=>by rw [h];simp
     refine ⟨_,rfl,oI.heap aa,oI.heap aa,Br.mk (λhq=>(jP (a,b,c) hwide sQ).mono ?_) (λhq=>(jP (a,b,c) hwide sQ).mono ?_)⟩
     ·have hq:=cS hq;rw [if_pos hq,if_pos hq] at hx abD;rintro e uK ⟨rfl,qp⟩;have Ob:=ext aoq qp;have z68:=hz Ob;refine ⟨_,_,_,_,_,_,_,_,_,_,_,_,_,_,_,_,_,_,rfl,qp.heap aa,qp.heap aa,⟨aa,aa⟩,_,_,_,Xj (a,b,c) (j:=2*A+1) aa,λqq e90=> ?_⟩;have hm:=tM e90;refine ⟨n,aa,rfl,k+1,_,rj Ob hm (.inr rfl) ((rowL Ob).same (hm.same _ (rowL Ob).lt aa)),aa,abD,rfl,pre++ [[hiV ((a,b,c),fc,tm)]],by simp [hpl],hxx _ hx⟩
     ·have hq:=cS hq;rw [if_neg hq,if_neg hq] at hx abD;rintro e uK ⟨rfl,qp⟩;have Ob:=ext aoq qp;have z68:=hz Ob;refine ⟨_,_,_,_,_,_,_,_,_,_,_,_,_,_,_,_,_,_,rfl,qp.heap aa,qp.heap aa,⟨aa,aa⟩,_,_,_,Xj (a,b,c) (j:=2*A) aa,λqq e90=> ?_⟩;have hm:=tM e90;refine ⟨n,aa,rfl,k+1,_,rj Ob hm (.inr rfl) ((rowL Ob).same (hm.same _ (rowL Ob).lt aa)),aa,abD,rfl,pre++ [[hiV ((a,b,c),fc,tm)]],by simp [hpl],hxx _ hx⟩
  ·exact ⟨false,rfl,k1,k2,Br.mk (λ_=>⟨⟨_,rfl⟩,.inr hJx⟩) (λq=>by cases q)⟩
 ·have hgo:goK d c0 r n s ((a,b,c),fc,tm)=[]:=by
   cases n with
   |zero=>rfl
   |succ n=>
    show (if nk c0 (a,b,c) r=true then _ else _)=_;rw [if_neg (by rw [hw];decide)]
  rw [hgo] at hx;have:xs.length=k:=by rw [hx];simp [hpl]
  rw [<-this] at J7;exact ⟨⟨_,rfl⟩,.inl (fin J7)⟩
def Xm{α:Type}(p:α->Bool):∀(l:List α)(n:Nat)(x:α),l[n]? =some x->(∀y ∈ l.take n,p y=false)->p x=true->l.find? p=some x
 | [],n,x,h,_,_=>by simp at h
 |a::l,0,x,h,_,hp=>by
  have h:a=x:=by simpa using h
  subst h;rw [List.find?_cons_of_pos hp]
 |a::l,n+1,x,h,hn,hp=>by have ha:p a=false:=hn a bg;rw [List.find?_cons_of_neg (by rw [ha];decide)];exact Xm p l n x (by simpa using h) (λy hy=>hn y (by simp [hy])) hp
def oa(r:Int):Int:=min (max r 0) 64
def Vi(f d:Ce)(r:Int)(w:World):ae 143 #[eg f,eg d,r] w λe w'=>e=(aqx w)/\Row w' w (dZ (fh f)) iM/\Row w' (w.heap.size+1) (dZ (l6 d)) iM/\Row w' (w.heap.size+2) [(oa r)] 3/\Ext w w':=by
 apply Y5.vc;intro w0 e0 w1 e1 w2 e2;have x0:=aQ e0;have z0:=zA e0;have r0:Row w0 w (dZ f) iM:=Row.nw e0;have x1:=aQ e1;have z1:=zA e1;have r1:Row w1 w0 (dZ d) iM:=Row.nw e1;have x2:=aQ e2;have z2:=zA e2;have r2:Row w2 w1 [r] 3:=Row.nw e2;have xd:=Ext.dr w2;have zd:=m7 w2;refine (aaa f w2.drew).mono ?_;rintro e w3 ⟨rfl,x3⟩;have z3:=x3.size;refine ⟨_,_,_,rfl,x3.heap aa,x3.heap aa,x3.heap aa,Lo.wv (r2.ext (xd.tr x3)),Lo.wv (r1.ext (x2.tr (xd.tr x3))),(aab d w3).mono ?_⟩;rintro e w7 ⟨rfl,x7⟩;have z7:=x7.size;have y7:=xd.tr (x3.tr x7);have r27:=r2.ext y7;refine ⟨_,_,_,rfl,x7.heap aa,x7.heap aa,x7.heap aa,Lo.wv r27,λbw BG=> ?_⟩;have r0':Row bw w (dZ (fh f)) iM:=by rw [BG];exact Row.set (r0.ext (x1.tr (x2.tr y7))) [_,_,_]
 have r1':Row bw w0 (dZ d) iM:=(r1.ext (x2.tr y7)).same (by rw [BG];exact setRow_other _ _ _ _ aa);have r2':Row bw w1 [r] 3:=r27.same (by rw [BG];exact setRow_other _ _ _ _ aa);have bK:Ext w bw:=(x0.tr (x1.tr (x2.tr y7))).ab BG (ak _);refine ⟨Lo.wv r2',λcC Fy=> ?_⟩;have s1:Row cC w0 (dZ (l6 d)) iM:=by rw [Fy];exact Row.set r1' [_,_,_]
 have s0:=r0'.so Fy;have s2:=r2'.so Fy;have bW:Ext w cC:=bK.ab Fy aa;refine ⟨Lo.wv s2,λbP Fj=> ?_⟩;have er:(if 64<(if 0>r then 0 else r) then 64 else (if 0>r then 0 else r))=oa r:=by
  unfold oa
  repeat' split
  all_goals omega
 rw [er] at Fj;have t2:Row bP w1 [(oa r)] 3:=s2.st Fj;have t0:=s0.so Fj;have t1:=s1.so Fj;rw [z0] at t1;rw [z1,z0] at t2;exact ⟨by rw [z1,z0],t0,t1,t2,bW.ab Fj aa⟩
abbrev Vj:=Ce × Int × Int × Int
abbrev htV(h:Vj):Value:=.agg #[h.1.1,h.1.2.1,h.1.2.2,h.2.1,h.2.2.1,h.2.2.2]
def ji(V:Ce->Int)(f d:Ce)(r:Int):Vj × Bool:=
 match (mW (fh f) (l6 d) (oa r)).find? (λh=> !kG (V h.1)) with
 |some h=>((h.1,V h.1,h.2.1,h.2.2),true)
 |none=>(((0,0,0),0,0,0),false)
def LO{v:Value}{V:Ce->Int}{w:World}(hV:Tl v V w)(hv:lF v=[])(f d:Ce)(r:Int)(hf:(-1900000000<=(bj (fh f)).1/\(bj (fh f)).1<=1900000000)/\(-1900000000<=(bj (fh f)).2.1/\(bj (fh f)).2.1<=1900000000)/\-1900000000<=(bj (fh f)).2.2/\(bj (fh f)).2.2<=1900000000)
  (bc:∀h ∈ mW (fh f) (l6 d) (oa r),rT h.1):
  ae 87 #[v,eg f,eg d,r] w λe w'=>e=Value.tuple #[htV (ji V f d r).1,.bool (ji V f d r).2]/\Ext w w':=by
 apply ado.vc;rw [hv,rK];intro w0 e0 w1 e1 w2 e2 w3 e3 w4 e4;have x0:=aQ e0;have z0:=zA e0;have x1:=aQ e1;have z1:=zA e1;have x2:=aQ e2;have z2:=zA e2;have x3:=aQ e3;have z3:=zA e3;have x4:=aQ e4;have z4:=zA e4;have El:=x0.tr (x1.tr (x2.tr (x3.tr x4)));refine (Vi f d r w4).mono ?_;rintro e w5 ⟨rfl,t0,t1,t2,x5⟩;have z5:=x5.size;have l5:=t2.lt;have Sy:=El.tr x5;have hdd:∀i:Nat,i<3-> -1048576<=cN (l6 d) i/\cN (l6 d) i<=1048576:=λi hi=>by
  have hc:∀n,-1048576<=BA n/\BA n<=1048576:=λn=>by unfold BA;omega
  have:i=0\/i=1\/i=2:=by omega
  rcases this with rfl|rfl|rfl<;>exact hc _
 have hrr:0<=oa r/\oa r<=64:=by unfold oa;omega
 have hcast:ji V f d r=match (mW (fh f) (l6 d) (oa r)).find? (λh=> !kG (V h.1)) with
  |some h=>((h.1,V h.1,h.2.1,h.2.2),true)
  |none=>(((0,0,0),0,0,0),false):=rfl
 have last:∀{w6 w7:World},Mod (λi=>i=w2.heap.size\/i=w3.heap.size\/w5.heap.size<=i) w5 w6->Rec w5 w6 w7->Ext w w7:=λhm hr=>by
  have hx:=hm.ext Sy λi hi=>by have:=Sy.size;omega
  exact (Mod.q9 hr).ext hx λi hi=>by have:=Sy.size;omega
 refine ⟨_,rfl,x5.heap aa,x5.heap aa,x5.heap aa,x5.heap aa,x5.heap aa,trX (fh f) (l6 d) (oa r),λi=>i=w4.heap.size\/i=w4.heap.size+1\/i=w4.heap.size+2,λ_=>False,
  λn F a b c q s t bb w'=>(∀i,¬F i)/\(∀h ∈(mW (fh f) (l6 d) (oa r)).take n,(!kG (V h.1))=false)/\Mod (λi=>w5.heap.size<=i) w5 w',
  λo F a b c q s t bb w'=>(∀i,¬F i)/\ji V f d r=(((a,b,c),q,s,t),bb)/\Mod (λi=>i=w2.heap.size\/i=w3.heap.size\/w5.heap.size<=i) w5 w',?_,?_,?_,λn F a b c q s t bb w' h i hi=>(h.1 i hi).elim,λo F a b c q s t bb w' h i hi=>(h.1 i hi).elim,λi hi=> ?_,λzL zy=> ?_,?_,?_,?_⟩
 ·intro x hx;obtain ⟨c,-,rfl⟩:=aU.1 hx;exact ⟨_,_,_,_,_,_,rfl⟩
 ·rintro n F a b c q s t bb dU dm ⟨h1,h2,h3⟩ lj -;exact ⟨h1,h2,h3.tr ⟨lj.os,lj.tape,lj.output,lj.size,λi hi hn=>lj.block i (KR hn)⟩ λi hi=> .inl hi⟩
 ·rintro o F a b c q s t bb dU dm ⟨h1,h2,h3⟩ lj -;exact ⟨h1,h2,h3.tr ⟨lj.os,lj.tape,lj.output,lj.size,λi hi hn=>lj.block i (KR hn)⟩ λi hi=> .inl (.inr (.inr hi))⟩
 ·exact ⟨aa,id,aa,aa,aa,aa,aa,trivial⟩
 ·exact ⟨Va _ _ _ hf hdd hrr _ zL (t0.same (zy.ext.block _ aa)) (t1.same (zy.ext.block _ aa)) (t2.same (zy.ext.block _ aa)),rfl,rfl,rfl,λi h=>h,λc hc=>by simp at hc,Mod.aC zy.ext⟩
 ·rintro n F us a0 b0 c0 q0 s0 t0' bb a b c q s t sJ hx hI Er e58 qE Tn;have uo:Ext sJ qE:=(aQ e58).ab Tn (ak _);have z59:qE.heap.size=sJ.heap.size+1:=by rw [zR Tn,zA e58]
  have z56:=hI.2.2.size;refine ⟨uo,λnB g8 afJ=> ?_⟩;obtain ⟨hF,l8,hM⟩:=afJ;have zr:=g8.size;obtain ⟨h,hh,hval⟩:∃h:Hi,(mW (fh f) (l6 d) (oa r))[n]? =some h/\(a,b,c)=h.1/\q=0/\s=h.2.1/\t=h.2.2:=by
   rw [aS] at hx
   cases hg:(mW (fh f) (l6 d) (oa r))[n]? with
   |none=>rw [hg] at hx;cases hx
   |some h=>
    rw [hg] at hx;simp at hx;obtain ⟨g1,g2,g3,g4,g5,g6⟩:=hx;exact ⟨h,rfl,by rw [<-g1,<-g2,<-g3],g4.symm,g5.symm,g6.symm⟩
  obtain ⟨hc,rfl,rfl,rfl⟩:=hval;have fw:=aO hh;have aBj:rT (a,b,c):=by rw [hc];exact bc h fw
  have z57:=hM.size;have ht:(mW (fh f) (l6 d) (oa r)).take (n+1)=(mW (fh f) (l6 d) (oa r)).take n++ [h]:=by rw [dy,hh];rfl
  obtain ⟨D,hD1,hD2⟩:=hV;refine bV (hD2 nB (λi hi=> ?_) (a,b,c) aBj) ?_
  ·have:=hD1 i hi;have:=Sy.size;exact (hM.same i aa aa).trans (Sy.heap aa)
  rintro e oU ⟨rfl,oo⟩;have z60:=oo.size;refine ⟨_,rfl,oo.heap aa,oo.heap aa,oo.heap aa,oo.heap aa,oo.heap aa,oo.heap aa,(Eh (V (a,b,c)) oU).mono ?_⟩;rintro e jX ⟨rfl,aBk⟩;subst aBk;have Sz:=hM.trans (Mod.aC oo);refine ⟨_,rfl,rfl,rfl,rfl,rfl,rfl,rfl,Br.mk (λhq=>λuV e64 LY e65 sQ e66=> ?_) (λhq=> ?_)⟩
  ·have hq':(!kG (V h.1))=true:=by rw [<-hc];exact hq
   have hfd:=Xm (λh:Hi=> !kG (V h.1)) _ n h hh l8 hq';have hcast:ji V f d r=((h.1,V h.1,h.2.1,h.2.2),true):=by rw [hcast,hfd]
   have m1:=tM e64;have m2:=tM e65;have m3:=tM e66;have s1:=m1.size;have s2:=m2.size;have m:Mod (λi=>i=w2.heap.size\/i=w3.heap.size\/i=sJ.heap.size) jX sQ:=((m1.mono λi _ h=> .inr (.inr h)).trans (m2.mono λi _ h=> .inl h)).trans (m3.mono λi _ h=> .inr (.inl h));refine ⟨rfl,λ_=>False,⟨rfl,rfl,rfl,λi h=>h,by rw [hcast,hc],(Sz.mono λi _ h=> .inr (.inr h)).trans (m.mono λi _ h=> ?_)⟩,?_⟩
   ·rcases h with h|h|h
    ·exact .inl h
    ·exact .inr (.inl h)
    ·exact .inr (.inr aa)
   ·have hm:=(Mod.aC (F:=λi=>i=w2.heap.size\/i=w3.heap.size\/i=sJ.heap.size) oo).trans m;refine ⟨λi hi=> ?_,hm.size,λi hi hn=>hm.same i hi λq=>hn ?_⟩
    ·rcases hi with h|h
     ·exact h.elim
     ·exact .inl (.inl (.inr h))
    ·rcases q with rfl|rfl|rfl
     ·exact .inl (.inr bg)
     ·exact .inl (.inr bg)
     ·exact .inr (ak _)
  ·have hq':(!kG (V h.1))=false:=by rw [<-hc];exact hq
   refine ⟨λ_=>False,⟨rfl,rfl,rfl,λi h=>h,λx hx=> ?_,Sz⟩,Step.late ⟨λi hi=> ?_,oo.size,λi hi _=>oo.block i hi⟩⟩
   ·rw [ht,bX] at hx;rcases hx with hx|hx
    ·exact l8 x hx
    ·rw [fT.1 hx];exact hq'
   ·rcases hi with h|h
    ·exact h.elim
    ·exact .inl (.inr h)
 ·rintro F us a b c q s t bb Jh ⟨hF,l8,hM⟩ hD po ajm Kk atY;have z99:=hM.size;rw [show (trX (fh f) (l6 d) (oa r)).length=(mW (fh f) (l6 d) (oa r)).length from aL ..,jg] at l8;have hfd:(mW (fh f) (l6 d) (oa r)).find? (λh=> !kG (V h.1))=none:=DV.2 λx hx=>by rw [l8 x hx];decide
  have hcast:ji V f d r=(((0,0,0),0,0,0),false):=by rw [hcast,hfd]
  have m1:=tM ajm;have m2:=tM atY;have s1:=m1.size;have m:=(hM.mono (F':=λi=>i=w2.heap.size\/i=w3.heap.size\/w5.heap.size<=i) λi _ h=> .inr (.inr h)).trans ((m1.mono λi _ h=> .inl h).trans (m2.mono λi _ h=> .inr (.inl h)));refine ⟨?_,λan8 g8=> ?_⟩
  ·rw [<-hD,atY,setRow_other _ _ _ _ aa,ajm,setRow_other _ _ _ _ aa]
  ·rw [hcast];exact ⟨rfl,last m g8⟩
 ·rintro F us a b c q s t bb BM ⟨hF,hcv,hM⟩ hD;refine ⟨hD,λVX g8=> ?_⟩;rw [hcv];exact ⟨rfl,last hM g8⟩
open Tryz
variable {R:Ending->World->Prop} {w:World} {a0 a1 a2 aE au aB cw cA cO fO fi eP aH aG aM dW gy gE:Int}
def UK.vc{a0:Sl}{a1:Sl}(h:
 oz (λI0 n1=>I0 n1 (0) a0 w) λI0 n1 zF x3 s4 w5=>
 Br (decide (x3<((a1.n:Nat):Int)))
 (eL a1.a x3 a1.n/\kW w5 (af a1.a ((x3:Int).toNat*1)) λx7=>
 oz (λI8 n9=>I8 n9 (5) s4 w5) λI8 n9 abr bK pj bP=>(λAa=>
 Br (bK>=0)
 (aT (ngC (aw (8*bK))) (Aw bP #[.int .u8 Aa] 5 λee=>
 ba 1 1 ee pj 1 [.int .u8 Aa]/\∀(s16:Sl)(cL:World),aX 5 1 ee pj 1 [.int .u8 Aa] s16 cL->Kp bP ee cL/\
 ∃Tm,Tm<n9/\I8 Tm ((aw (bK-1))) s16 cL))
 (∃n6,n6<n1/\I0 n6 ((aw (x3+1))) pj bP)) (jn ((x7:Int).fdiv (2 ^(min ((aw (8*bK)):Int).toNat 64)))))
 (R s4 w5)):ae 81 #[a0,a1] w R:=
 cq ⟨[(5,⟨[(7,.int .i64),(0,.slice)],[],[]⟩),(2,⟨[(10,.int .i64),(0,.slice)],[],[]⟩)],[],[]⟩ func81 h
def vS.vc{a0:Addr}(h:(λA B=>
 ae 12 #[a0] w (ua λs1 w0=>(λAa Ab=>gZ w0 B λp2=>
 ae 68 #[p2] w0 (kX λx4 w3=>Aw w3 #[x4] 3 λw5=>
 ae 81 #[.slice none 0 0,.slice (aD w3) 1 1] w5 (ua λs7 w6=>Aw w6 #[.int .u8 (jn Ab)] 5 λw8=>
 ba 1 1 w8 s7 1 Aa/\∀(s9:Sl)(bo:World),aX 5 1 w8 s7 1 Aa s9 bo->Kp w6 w8 bo/\
 oz (λI11 Ou=>aN Aa/\I11 Ou (0) s9 bo) λI11 Ou aBA cB pr cD=>
 Br (decide (cB<Ab))
 (eL s1.a cB s1.n/\kW cD (af s1.a ((cB:Int).toNat*1)) λdc=>(λAc Ad=>
 (0:Int)<=dc/\dc<((16:Nat):Int)/\gZ cD (af (af (some a0) 1) ((dc:Int).toNat*1)) λp19=>(λAe Af=>
 ∃J20:Sl->World->Prop,
 (aT Af (aT Af (aT (fq Ae) (aT (fq (af Ae 0)) (kW cD.drew (af (af Ae 0) 0) λeO=>
 aT Af (aT Af (aT (fq Ae) (aT (fq (af Ae 0)) (kW cD.drew (af (af Ae 0) 1) λfN=>
 aT Af (aT Af (aT (fq Ae) (aT (fq (af Ae 0)) (kW cD.drew (af (af Ae 0) 2) λfC=>
 aT Af (aT Af (aT (fq Ae) (aT (fq (af Ae 3)) (kW cD.drew (af (af Ae 3) 0) λgW=>
 aT Af (aT Af (aT (fq Ae) (aT (fq (af Ae 3)) (kW cD.drew (af (af Ae 3) 1) λeZ=>
 aT Af (aT Af (aT (fq Ae) (aT (fq (af Ae 3)) (kW cD.drew (af (af Ae 3) 2) λjN=>
 aT Af (aT Af (aT (fq Ae) (kW cD.drew (af Ae 6) λjm=>
 aT Af (aT Af (aT (fq Ae) (kW cD.drew (af Ae 7) λnv=>(λAg=>
 (Aw cD.drew Ad 5 λeG=>
 (ba 1 1 eG pr 1 Ac/\∀(xY:Sl)(gS:World),aX 5 1 eG pr 1 Ac xY gS->Kp w6 eG gS/\gS.heap[cD.drew.heap.size]? =eG.heap[cD.drew.heap.size]?/\
 ah gS (af Ae 7) 0 [nv]/\ah gS (af Ae 6) 0 [jm]/\ah gS (af (af Ae 3) 2) 0 [jN]/\ah gS (af (af Ae 3) 1) 0 [eZ]/\ah gS (af (af Ae 3) 0) 0 [gW]/\ah gS (af (af Ae 0) 2) 0 [fC]/\ah gS (af (af Ae 0) 1) 0 [fN]/\ah gS (af (af Ae 0) 0) 0 [eO]/\Aw gS Ag 3 λqT=>
 ae 81 #[xY,.slice (aD gS) 8 8] qT (Rs λs34 fL=>Kp w6 qT fL/\fL.heap[cD.drew.heap.size]? =qT.heap[cD.drew.heap.size]?/\
 aN Aa/\J20 s34 fL))/\(Aw eG Ag 3 λgT=>
 ba 1 1 gT pr 1 Ac/\∀(s36:Sl)(iR:World),aX 5 1 gT pr 1 Ac s36 iR->Kp w6 gT iR/\iR.heap[cD.drew.heap.size]? =gT.heap[cD.drew.heap.size]?/\Kp eG gT iR/\
 ae 81 #[s36,.slice (aD eG) 8 8] iR (Rs λs39 oE=>Kp w6 iR oE/\oE.heap[cD.drew.heap.size]? =iR.heap[cD.drew.heap.size]?/\
 aN Aa/\J20 s39 oE)))/\(Aw cD.drew Ag 3 λkz=>
 Aw kz Ad 5 λoF=>
 ba 1 1 oF pr 1 Ac/\∀(s42:Sl)(jW:World),aX 5 1 oF pr 1 Ac s42 jW->Kp w6 oF jW/\jW.heap[cD.drew.heap.size]? =oF.heap[cD.drew.heap.size]?/\Kp kz oF jW/\
 ae 81 #[s42,.slice (aD cD.drew.heap.size) 8 8] jW (Rs λs45 me=>K2 w6 kz jW me (
 aN Aa/\J20 s45 me)))) #[eO,fN,fC,gW,eZ,jN,jm,nv])))))))))))))))))))))))))))))))/\
 ∀atG:Nat->Value,∀(IS:Sl)(iw:World),J20 IS iw->
 aT Af (aT Af (aT (fq Ae) (DJ iw (af Ae 8) λb49=>
 Br b49
 (Aw iw #[.int .u8 1] 5 λqo=>
 ba 1 1 qo IS 1 [.int .u8 1]/\∀(s51:Sl)(Ti:World),aX 5 1 qo IS 1 [.int .u8 1] s51 Ti->K2 w6 iw qo Ti (
 ∃N3,N3<Ou/\aN Aa/\I11 N3 ((aw (cB+1))) s51 Ti))
 (Aw iw #[.int .u8 0] 5 λTp=>
 ba 1 1 Tp IS 1 [.int .u8 0]/\∀(LW:Sl)(xm:World),aX 5 1 Tp IS 1 [.int .u8 0] LW xm->K2 w6 iw Tp xm (
 ∃N3,N3<Ou/\aN Aa/\I11 N3 ((aw (cB+1))) LW xm)))))) (af p19 0) (fq p19)) [.int .u8 (jn dc)] #[.int .u8 (jn dc)])
 (gZ cD B λp56=>
 ae 82 #[p56] cD (Rs λEt nB=>(λAh Ai Aj=>Kp w6 cD nB/\
 (0:Int)<=Ai/\Ai<=((Et.c:Nat):Int)/\Aw nB #[.int .u8 (jn ((Ah:Int).fdiv A)),.int .u8 (jn Ah)] 5 λqE=>
 ba 1 1 qE pr 2 [.int .u8 (jn ((Ah:Int).fdiv A)),.int .u8 (jn Ah)]/\∀(Wh:Sl)(rI:World),aX 5 1 qE pr 2 [.int .u8 (jn ((Ah:Int).fdiv A)),.int .u8 (jn Ah)] Wh rI->K2 w6 nB qE rI (
 oz (λI62 n63=>aN Aa/\aN [.int .u8 (jn ((Ah:Int).fdiv A)),.int .u8 (jn Ah)]/\I62 n63 (0) Wh rI) λI62 n63 axj sR s66 oy=>
 Br (decide (sR<Ah))
 (eL Aj sR ((Ai:Int).toNat-0)/\uc oy (af Aj ((sR:Int).toNat*4)) λwN ur uM wM=>
 Aw oy #[ai,ai,ai,ai] 157 λIN=>
 Sw IN oy #[wN,ur,uM,wM] λoq=>
 Aw oq #[wN,ur,uM,wM] 3 λrC=>
 ae 81 #[s66,.slice (aD oq) 4 4] rC (Rs λs77 pH=>K3 w6 nB oy rC pH (
 ∃n68,n68<n63/\aN Aa/\aN [.int .u8 (jn ((Ah:Int).fdiv A)),.int .u8 (jn Ah)]/\I62 n68 ((aw (sR+1))) s77 pH)))
 (R s66 oy))) (((((if 2000<((Et.n:Nat):Int) then 2000 else ((Et.n:Nat):Int)):Int).toNat-0):Nat):Int) (if 2000<((Et.n:Nat):Int) then 2000 else ((Et.n:Nat):Int)) (aI Et.a (0) (Et.c) 4)))))) [.int .u8 (jn ((s1.n:Nat):Int))] ((s1.n:Nat):Int))) (2 ^(min (8:Int).toNat 64)) (af (some a0) 0)):ae 26 #[a0] w R:=
 cq ⟨[(16,⟨[(124,.int .i64),(4,.slice)],[],[]⟩),(4,⟨[(27,.int .i64),(4,.slice)],[],[]⟩)],[(8,⟨[(4,.slice)],[],[]⟩)],[]⟩ func26 h
def yY.vc{a0:Addr}(h:
 gZ w (af (some a0) 0) λp0=>
 ae 18 #[p0] w (AG λp2 w1=>ae 19 #[p2] w1 (AG λp4 w3=>ae 26 #[a0] w3 (ua λs6 w5=>ae 61 #[p4,s6] w5 (kX λx8 w7=>R x8 w7))))):ae 35 #[a0] w R:=
 cq bG func35 h
def Vm.vc(h:
 Aw w #[aE,au,aB] 41 λw0=>
 Aw w0 #[ai,ai,ai] 41 λw1=>
 ae 10 #[aE,(10:Int)] w1.drew (Ri λx3 w2=>K2 w w0 w1.drew w2 (
 ah w2 (fP w 2) 0 [aB]/\ah w2 (fP w 1) 0 [au]/\ae 10 #[au,(14:Int)] w2 (Ri λx5 w4=>K2 w w0 w2 w4 (
 ah w4 (fP w 2) 0 [aB]/\ae 10 #[aB,(10:Int)] w4 (Ri λx7 w6=>(λAa=>K2 w w0 w4 w6 (
 Sw w6 w0 Aa λw8=>
 R (Value.agg Aa) w8)) #[(aw (3+x3)),(aw (6+x5)),(aw (3+x7))])))))):ae 28 #[.agg #[aE,au,aB]] w R:=
 cq bG func28 h
def aae.vc(h:
 Br (a0>140737488355328)
 (R (140737488355328:Int) w)
 (Br (a0<(-140737488355328))
 (R (Value.int .i64 (-140737488355328)) w)
 (R a0 w))):ae 141 #[a0] w R:=
 cq bG func141 h
def RD.vc(h:
 ae 141 #[a0] w (kX λx1 w0=>ae 86 #[x1,(65536:Int)] w0 (kX λx3 w2=>R x3 w2))):ae 84 #[a0] w R:=
 cq bG func84 h
def aes.vc(h:
 Aw w #[aE,au,aB] 28 λw0=>
 Aw w0 #[ai,ai,ai] 41 λw1=>
 ae 84 #[aE] w1.drew (Ri λx3 w2=>K2 w w0 w1.drew w2 (
 ah w2 (fP w 2) 0 [aB]/\ah w2 (fP w 1) 0 [au]/\ae 84 #[au] w2 (Ri λx5 w4=>K2 w w0 w2 w4 (
 ah w4 (fP w 2) 0 [aB]/\ae 84 #[aB] w4 (Ri λx7 w6=>K2 w w0 w4 w6 (
 Sw w6 w0 #[x3,x5,x7] λw8=>
 R (qY #[x3,x5,x7]) w8))))))):ae 30 #[.agg #[aE,au,aB]] w R:=
 cq bG func30 h
def aaf.vc(h:
 ae 141 #[a0] w (λe w0=>∃(x1:Int),e=x1/\
 ae 141 #[a1] w0 (λe w2=>∃(x3:Int),e=x3/\
 ae 141 #[(aw (x1+x3))] w2 (λe w4=>∃(x5:Int),e=x5/\
 R x5 w4)))):ae 142 #[a0,a1] w R:=
 cq bG func142 h
def aai.vc(h:
 Aw w #[aE,au,aB] 28 λw0=>
 Aw w0 #[aH,aG,aM] 28 λw1=>
 Aw w1 #[ai,ai,ai] 28 λw2=>
 ae 142 #[aE,aH] w2.drew (Ri λx4 w3=>K3 w w0 w1 w2.drew w3 (
 ah w3 (fP w0 2) 0 [aM]/\ah w3 (fP w 2) 0 [aB]/\ah w3 (fP w0 1) 0 [aG]/\ah w3 (fP w 1) 0 [au]/\ae 142 #[au,aG] w3 (Ri λx6 w5=>K3 w w0 w1 w3 w5 (
 ah w5 (fP w0 2) 0 [aM]/\ah w5 (fP w 2) 0 [aB]/\ae 142 #[aB,aM] w5 (Ri λx8 w7=>K3 w w0 w1 w5 w7 (
 Sw w7 w1 #[x4,x6,x8] λw9=>
 R (qY #[x4,x6,x8]) w9))))))):ae 85 #[.agg #[aE,au,aB],.agg #[aH,aG,aM]] w R:=
 cq bG func85 h
def aah.vc(h:
 ae 141 #[a0] w (λe w0=>∃(x1:Int),e=x1/\
 ae 141 #[a1] w0 (λe w2=>∃(x3:Int),e=x3/\
 ae 141 #[(aw (x1-x3))] w2 (λe w4=>∃(x5:Int),e=x5/\
 R x5 w4)))):ae 181 #[a0,a1] w R:=
 cq bG func181 h
def Vk.vc(h:
 Aw w #[aE,au,aB] 28 λw0=>
 Br (a1==0)
 (R aE w0)
 (Br (a1==1)
 (R au w0)
 (Br (a1==2)
 (R aB w0)
 (R (0:Int) w0)))):ae 180 #[.agg #[aE,au,aB],a1] w R:=
 cq bG func180 h
def JV.vc(h:(λA B=>
 Aw w #[aE,au,aB,cw,cA,cO] 107 λw0=>
 Aw w0 #[aH,aG,aM,dW,gy,gE] 107 λw1=>(λAa=>
 Br (aE<dW)
 (Br (au<gy)
 (Br A
 (Br B
 (Br (aG<cA)
 (R (uD (decide (aM<cO))) w1)
 Aa)
 Aa)
 (Br B
 (Br (aG<cA)
 Aa
 Aa)
 Aa))
 (Br A
 (Br B
 Aa
 Aa)
 (Br B
 Aa
 Aa)))
 (Br (au<gy)
 (Br A
 Aa
 Aa)
 (Br A
 Aa
 Aa))) (R false w1)) (aB<gE) (aH<cw)):ae 179 #[.agg #[aE,au,aB,cw,cA,cO],.agg #[aH,aG,aM,dW,gy,gE]] w R:=
 cq bG func179 h
def RF.vc(h:(λA B C D=>
 Aw w #[aE,au,aB] 28 λw0=>(λAa=>
 Aw w0 #[ai,ai,ai,ai,ai,ai] 107 λw1=>
 ae 181 #[aE,A] w1.drew (Ri λx3 w2=>Aa w1.drew w2 (
 ah w2 C 0 [aB]/\ah w2 D 0 [au]/\ah w2 w 0 [aE]/\ah w2 C 0 [aB]/\ah w2 D 0 [au]/\ae 141 #[au] w2 (Ri λx5 w4=>Aa w2 w4 (
 ah w4 C 0 [aB]/\ah w4 D 0 [au]/\ah w4 w 0 [aE]/\ah w4 C 0 [aB]/\ae 181 #[aB,A] w4 (Ri λx7 w6=>Aa w4 w6 (
 ah w6 C 0 [aB]/\ah w6 D 0 [au]/\ah w6 w 0 [aE]/\(ae 142 #[aE,A] w6 (Ri λx9 w8=>Aa w6 w8 (
 ah w8 C 0 [aB]/\ah w8 D 0 [au]/\ae 142 B w8 (Ri λbK bo=>Aa w8 bo (
 ah bo C 0 [aB]/\ae 142 #[aB,A] bo (Ri λcR cC=>Aa bo cC (
 Sw cC w0 #[x3,x5,x7,x9,bK,cR] λbH=>
 R (qY #[x3,x5,x7,x9,bK,cR]) bH)))))))/\(ae 142 #[aE,A] w6 (Ri λdu ee=>Aa w6 ee (
 ah ee C 0 [aB]/\ah ee D 0 [au]/\(ae 142 B ee (Ri λdc cL=>Aa ee cL (
 ah cL C 0 [aB]/\ae 142 #[aB,A] cL (Ri λdN fK=>Aa cL fK (
 Sw fK w0 #[x3,x5,x7,du,dc,dN] λdU=>
 R (qY #[x3,x5,x7,du,dc,dN]) dU)))))/\(ae 142 B ee (Ri λfC dm=>Aa ee dm (
 ah dm C 0 [aB]/\(ae 142 #[aB,A] dm (Ri λeZ gC=>Aa dm gC (
 Sw gC w0 #[x3,x5,x7,du,fC,eZ] λgx=>
 R (qY #[x3,x5,x7,du,fC,eZ]) gx)))/\(ae 142 #[aB,A] dm (Ri λnv fy=>(λAb=>Aa dm fy (
 (Sw fy w0 Ab λeG=>
 R (Value.agg Ab) eG)/\(Sw fy w0 Ab λgR=>
 R (Value.agg Ab) gR))) #[x3,x5,x7,du,fC,nv]))))))))))))))) (K2 w w0)) (aw (Int.tdiv (if 0>a1 then 0 else a1) 2)) #[au,.int .i64 (if 0>a2 then 0 else a2)] (fP w 2) (fP w 1)):ae 128 #[.agg #[aE,au,aB],a1,a2] w R:=
 cq bG func128 h
def aaj.vc{eP:Bool}(h:
 Aw w #[aE,au,aB,cw,cA,cO,fO,fi,eP] 75 λw0=>
 Aw w0 #[ai,ai,ai] 28 λw1=>
 ae 86 #[(aw (fi*4)),(5:Int)] w1.drew (Ri λx3 w2=>K2 w w0 w1.drew w2 (
 ah w2 (fP w 7) 0 [fi]/\ah w2 w 0 [aE,au,aB]/\ae 85 #[.agg #[aE,au,aB],.agg #[ai,x3,ai]] w2 (jl λx5 x6 x7 w4=>K2 w w0 w2 w4 (
 ah w4 (fP w 7) 0 [fi]/\Sw w4 w0 #[x5,x6,x7] λw8=>
 R (qY #[x5,x6,x7]) w8))))):ae 31 #[.agg #[aE,au,aB,cw,cA,cO,fO,fi,eP]] w R:=
 cq bG func31 h
def aak.vc{eP:Bool}(h:
 Aw w #[aE,au,aB,cw,cA,cO,fO,fi,eP] 75 λw0=>
 Aw w0 #[ai,ai,ai,ai,ai,ai] 107 λw1=>
 ae 128 #[.agg #[aE,au,aB],fO,fi] w1 (yj λx3 x4 x5 x6 x7 x8 w2=>K2 w w0 w1 w2 (
 Sw w2 w0 #[x3,x4,x5,x6,x7,x8] λw9=>
 R (qY #[x3,x4,x5,x6,x7,x8]) w9))):ae 70 #[.agg #[aE,au,aB,cw,cA,cO,fO,fi,eP]] w R:=
 cq bG func70 h
def MY.vc(h:
 Aw w #[aE,au,aB] 28 λw0=>
 sN (λI1 n2=>aN [aE,au,aB]/\I1 n2 (0) w0) λI1 n2 us3 x4 w5=>
 Br (x4<3)
 (ae 180 #[.agg #[aE,au,aB],x4] w5 (Ri λx8 w7=>Kp w w5 w7/\
 Br (decide (x8<(aw (0-a1))))
 (R false w7)
 (Br (x8>a1)
 (R false w7)
 (∃n6,n6<n2/\aN [aE,au,aB]/\I1 n6 ((aw (x4+1))) w7))))
 (R true w5)):ae 157 #[.agg #[aE,au,aB],a1] w R:=
 cq (Of 2 5) func157 h
def ZF.vc{eP:Bool}(h:
 Aw w #[aE,au,aB,cw,cA,cO,fO,fi,eP] 75 λw0=>
 ae 157 #[.agg #[aE,au,aB],(70368744177664:Int)] w0 (Rb λb2 w1=>Kp w w0 w1/\
 ae 157 #[.agg #[cw,cA,cO],(262144:Int)] w1 (Rb λb4 w3=>(λAa=>Kp w w1 w3/\
 Br b2
 (Br b4
 (Br (fO>=2)
 (Br (fO<=131072)
 (Br (fi>=1)
 (R (uD (decide (fi<=262144))) w3)
 Aa)
 Aa)
 Aa)
 Aa)
 Aa) (R false w3)))):ae 106 #[.agg #[aE,au,aB,cw,cA,cO,fO,fi,eP]] w R:=
 cq bG func106 h
def aaO.vc(h:(λA=>
 Aw w #[aE,au,aB] 41 λw0=>
 Aw w0 #[ai,ai,ai] 41 λw1=>
 Sw w1 w0 A λw2=>
 R (Value.agg A) w2) #[.int .i64 (if 2147483648<(if (-2147483648)>aE then (-2147483648) else aE) then 2147483648 else (if (-2147483648)>aE then (-2147483648) else aE)),.int .i64 (if 2147483648<(if (-2147483648)>au then (-2147483648) else au) then 2147483648 else (if (-2147483648)>au then (-2147483648) else au)),.int .i64 (if 2147483648<(if (-2147483648)>aB then (-2147483648) else aB) then 2147483648 else (if (-2147483648)>aB then (-2147483648) else aB))]):ae 160 #[.agg #[aE,au,aB]] w R:=
 cq bG func160 h
def VF.vc(h:(λA B C=>
 Aw w #[aE,au,aB] 41 λw0=>
 Aw w0 B 186 λw1=>(λAa=>
 Aw w1 B 186 λw2=>
 sN (λI3 n4=>aN C/\I3 n4 (0) w2) λI3 n4 us5 x6 w7=>(λAb Ac Ad Ae=>
 Br (x6<6)
 (ae 160 #[.agg #[aE,au,aB]] w7 (jl λbE bK bW w9=>(λAf Ag Ah Ai=>Kp w w7 w9/\
 Aw w9 #[ai,ai,ai] 41 λbP=>
 Sw bP w9 #[bE,bK,bW] λbH=>
 Br (Ad==0)
 (Sw bH w9 #[Af,bK,bW] λee=>
 Br (Ad==1)
 (Sw ee w9 #[Af,Ag,bW] λcD=>
 Br (Ad==2)
 (Sw cD w9 #[Af,Ag,Ah] λcL=>
 ae 160 #[.agg #[Af,Ag,Ah]] cL (jl λdb dN eO dI=>Ai cL dI (
 (0:Int)<=x6/\x6<A/\(true=true/\Wr dI Ab 3)/\bk Ab≠some w.heap.size/\bk Ab≠some w9.heap.size/\(Pw dI Ab [db,dN,eO] λdm=>
 ∃n8,n8<n4/\aN C/\I3 n8 Ae dm))))
 (ae 160 #[.agg #[Af,Ag,bW]] cD (jl λgW eZ jN fQ=>Ai cD fQ (
 (0:Int)<=x6/\x6<A/\(true=true/\Wr fQ Ab 3)/\bk Ab≠some w.heap.size/\bk Ab≠some w9.heap.size/\(Pw fQ Ab [gW,eZ,jN] λfy=>
 ∃n8,n8<n4/\aN C/\I3 n8 Ae fy)))))
 (Br (Ad==2)
 (Sw ee w9 #[Af,bK,Ah] λiY=>
 ae 160 #[.agg #[Af,bK,Ah]] iY (jl λnu lp lr eG=>Ai iY eG (
 (0:Int)<=x6/\x6<A/\(true=true/\Wr eG Ab 3)/\bk Ab≠some w.heap.size/\bk Ab≠some w9.heap.size/\(Pw eG Ab [nu,lp,lr] λfL=>
 ∃n8,n8<n4/\aN C/\I3 n8 Ae fL))))
 (ae 160 #[.agg #[Af,bK,bW]] ee (jl λoV oW lh lq=>Ai ee lq (
 (0:Int)<=x6/\x6<A/\(true=true/\Wr lq Ab 3)/\bk Ab≠some w.heap.size/\bk Ab≠some w9.heap.size/\(Pw lq Ab [oV,oW,lh] λoE=>
 ∃n8,n8<n4/\aN C/\I3 n8 Ae oE))))))
 (Br (Ad==1)
 (Sw bH w9 #[bE,Ag,bW] λkR=>
 Br (Ad==2)
 (Sw kR w9 #[bE,Ag,Ah] λkz=>
 ae 160 #[.agg #[bE,Ag,Ah]] kz (jl λqU zp pk oF=>Ai kz oF (
 (0:Int)<=x6/\x6<A/\(true=true/\Wr oF Ab 3)/\bk Ab≠some w.heap.size/\bk Ab≠some w9.heap.size/\(Pw oF Ab [qU,zp,pk] λzL=>
 ∃n8,n8<n4/\aN C/\I3 n8 Ae zL))))
 (ae 160 #[.agg #[bE,Ag,bW]] kR (jl λxl Dd Ot sI=>Ai kR sI (
 (0:Int)<=x6/\x6<A/\(true=true/\Wr sI Ab 3)/\bk Ab≠some w.heap.size/\bk Ab≠some w9.heap.size/\(Pw sI Ab [xl,Dd,Ot] λqo=>
 ∃n8,n8<n4/\aN C/\I3 n8 Ae qo)))))
 (Br (Ad==2)
 (Sw bH w9 #[bE,bK,Ah] λuL=>
 ae 160 #[.agg #[bE,bK,Ah]] uL (jl λkS qV oG Ti=>Ai uL Ti (
 (0:Int)<=x6/\x6<A/\(true=true/\Wr Ti Ab 3)/\bk Ab≠some w.heap.size/\bk Ab≠some w9.heap.size/\(Pw Ti Ab [kS,qV,oG] λsJ=>
 ∃n8,n8<n4/\aN C/\I3 n8 Ae sJ))))
 (ae 160 #[.agg #[bE,bK,bW]] bH (jl λzw uo oo nB=>Ai bH nB (
 (0:Int)<=x6/\x6<A/\(true=true/\Wr nB Ab 3)/\bk Ab≠some w.heap.size/\bk Ab≠some w9.heap.size/\(Pw nB Ab [zw,uo,oo] λrI=>
 ∃n8,n8<n4/\aN C/\I3 n8 Ae rI))))))) (aw (bE+Ac)) (aw (bK+Ac)) (aw (bW+Ac)) (K2 w w9)))
 (∃(ox uQ BN sR oI oT qp wN ur uM wM uW BY Fk II x77 Oj Kc:Int),ah w7 Aa 0 [ox,uQ,BN,sR,oI,oT,qp,wN,ur,uM,wM,uW,BY,Fk,II,x77,Oj,Kc]/\
 Wt w7 ⟨w0,0,none⟩ 18/\Nb w0 w/\(Pw w7 (aD w0) [ox,uQ,BN,sR,oI,oT,qp,wN,ur,uM,wM,uW,BY,Fk,II,x77,Oj,Kc] λxX=>
 ∃(zJ zK Fl Ke Kf x86 vX x88 x89 x90 FZ LZ Ep x94 Oo Oq IL x98:Int),ah xX (aD w0) 0 [zJ,zK,Fl,Ke,Kf,x86,vX,x88,x89,x90,FZ,LZ,Ep,x94,Oo,Oq,IL,x98]/\
 R (qY #[zJ,zK,Fl,Ke,Kf,x86,vX,x88,x89,x90,FZ,LZ,Ep,x94,Oo,Oq,IL,x98]) xX))) (af Aa ((x6:Int).toNat*3)) (aw ((aw (2*(Int.tmod x6 2)))-1)) ((aw (Int.tdiv x6 2)):Int) ((aw (x6+1)))) (aD w1)) ((6:Nat):Int) #[ai,ai,ai,ai,ai,ai,ai,ai,ai,ai,ai,ai,ai,ai,ai,ai,ai,ai] [aE,au,aB]):ae 112 #[.agg #[aE,au,aB]] w R:=
 cq (Of 3 4) func112 h
def aaP.vc(h:(λA=>
 Aw w #[aE,au,aB] 41 λw0=>
 Aw w0 #[ai,ai,ai,ai,ai,ai] 107 λw1=>
 ae 160 #[.agg #[aE,au,aB]] w1 (jl λx3 x4 x5 w2=>(λAa Ab Ac=>K2 w w0 w1 w2 (
 Aw w2 #[ai,ai,ai] 41 λw6=>
 Sw w6 w2 #[x3,x4,x5] λw7=>
 Aw w7 #[ai,ai,ai] 28 λw8=>
 Sw w8 w7 #[Aa,Ab,Ac] λw9=>
 ae 85 #[.agg #[Aa,Ab,Ac],.agg #[A,A,A]] w9.drew (jl λbK bW cR bo=>K4 w w0 w2 w7 w9.drew bo (
 ah bo (aD w7) 0 [Aa,Ab,Ac]/\Sw bo w0 #[Aa,Ab,Ac,bK,bW,cR] λbH=>
 R (qY #[Aa,Ab,Ac,bK,bW,cR]) bH)))) (aw (x3*65536)) (aw (x4*65536)) (aw (x5*65536)))) (65536:Int)):ae 126 #[.agg #[aE,au,aB]] w R:=
 cq bG func126 h
def RH.vc(h:(λA B=>
 Aw w A 107 λw0=>
 Aw w0 B 107 λw1=>
 ae 179 #[.agg A,.agg B] w1 (Rb λb3 w2=>K2 w w0 w1 w2 (
 R b3 w2))) #[aE,au,aB,cw,cA,cO] #[aH,aG,aM,dW,gy,gE]):ae 125 #[.agg #[aE,au,aB,cw,cA,cO],.agg #[aH,aG,aM,dW,gy,gE]] w R:=
 cq bG func125 h
def Vn.vc(h:(λA=>
 Aw w #[aE,au,aB] 28 λw0=>
 Aw w0 #[ai,ai,ai] 28 λw1=>
 ae 10 #[aE,A] w1.drew (Ri λx3 w2=>K2 w w0 w1.drew w2 (
 ah w2 (fP w 2) 0 [aB]/\ah w2 (fP w 1) 0 [au]/\ae 10 #[au,A] w2 (Ri λx5 w4=>K2 w w0 w2 w4 (
 ah w4 (fP w 2) 0 [aB]/\ae 10 #[aB,A] w4 (Ri λx7 w6=>(λAa=>K2 w w0 w4 w6 (
 Sw w6 w0 Aa λw8=>
 R (Value.agg Aa) w8)) #[(aw (196608+x3)),(aw (589824+x5)),(aw (196608+x7))])))))) (589825:Int)):ae 52 #[.agg #[aE,au,aB]] w R:=
 cq bG func52 h
def RI.vc(h:
 Br (a0<0)
 (R a0 w)
 (ae 110 #[a0] w (kX λx1 w0=>R x1 w0))):ae 56 #[a0] w R:=
 cq bG func56 h
def Nw.vc(h:(λA=>
 Br (a0<0)
 (∃I0:Nat->Int->Sl->Int->World->Prop,
 (∃n1,I0 n1 (0) ⟨none,0,0⟩ (1099511627776) w)/\
 ∀(n1:Nat)(zF:Nat->Value)(x3:Int)(s4:Sl)(x5:Int)(w6:World),I0 n1 x3 s4 x5 w6->
 Br (x3<6)
 (aT (Oe x5) (Aw w6 #[.int .u8 (jn (Int.tmod (aw (Int.tdiv A x5)) 256))] 5 λw8=>
 ba 1 1 w8 s4 1 [.int .u8 (jn (Int.tmod (aw (Int.tdiv A x5)) 256))]/\∀(s9:Sl)(bo:World),aX 5 1 w8 s4 1 [.int .u8 (jn (Int.tmod (aw (Int.tdiv A x5)) 256))] s9 bo->Kp w6 w8 bo/\
 ∃n7,n7<n1/\I0 n7 ((aw (x3+1))) s9 ((aw (Int.tdiv x5 256))) bo))
 (R s4 w6))
 (∃I11:Nat->Int->Sl->Int->World->Prop,
 (∃Ou,I11 Ou (0) ⟨none,0,0⟩ (1099511627776) w)/\
 ∀(Ou:Nat)(aBA:Nat->Value)(cB:Int)(pr:Sl)(du:Int)(cL:World),I11 Ou cB pr du cL->
 Br (cB<6)
 (aT (Oe du) (Aw cL #[.int .u8 (jn (Int.tmod (aw (Int.tdiv a0 du)) 256))] 5 λfK=>
 ba 1 1 fK pr 1 [.int .u8 (jn (Int.tmod (aw (Int.tdiv a0 du)) 256))]/\∀(xZ:Sl)(dU:World),aX 5 1 fK pr 1 [.int .u8 (jn (Int.tmod (aw (Int.tdiv a0 du)) 256))] xZ dU->Kp cL fK dU/\
 ∃n18,n18<Ou/\I11 n18 ((aw (cB+1))) xZ ((aw (Int.tdiv du 256))) dU))
 (R pr cL))) (aw (a0+281474976710656))):ae 89 #[a0] w R:=
 cq ⟨[(6,⟨[(5,.int .i64),(3,.slice),(4,.int .i64)],[],[]⟩),(6,⟨[(5,.int .i64),(3,.slice),(4,.int .i64)],[],[]⟩)],[],[]⟩ func89 h
def JY.vc{a0:Sl}(h:
 oz (λI0 n1=>I0 n1 (0) ⟨none,0,0⟩ w) λI0 n1 zF x3 s4 w5=>
 Br (decide (x3<((a0.n:Nat):Int)))
 (eL a0.a x3 a0.n/\kW w5 (af a0.a ((x3:Int).toNat*1)) λx7=>
 ae 89 #[x7] w5 (ua λs9 w8=>∃l10:LV,Rd w8 s9.a l10/\ba 1 1 w8 s4 s9.n l10/\∀(SS:Sl)(cC:World),aX 5 1 w8 s4 s9.n l10 SS cC->
 ∃n6,n6<n1/\I0 n6 ((aw (x3+1))) SS cC))
 (R s4 w5)):ae 90 #[a0] w R:=
 cq (anS 3 4 3) func90 h
def R3.vc{au:Sl}{aB:Sl}(h:(λA B C D E G=>
 Aw w #[aE,au,aB] 86 λw0=>
 ae 89 #[aE] w0 (Rs λs2 w1=>Kp w w0 w1/\
 Aw w1 #[.int .u8 (jn G)] 5 λw3=>
 ba 1 1 w3 s2 1 B/\∀(s4:Sl)(w5:World),aX 5 1 w3 s2 1 B s4 w5->K2 w w1 w3 w5 (
 oz (λI6 n7=>aN C/\aN B/\I6 n7 (0) s4 w5) λI6 n7 us8 x9 IJ bw=>(λAa Ab=>
 Br (decide (x9<G))
 (eL au.a x9 au.n/\aT (fq Aa) (ij bw (af Aa 1) λcR cB cW du dH dc db dN Th=>
 Aw bw #[ai,ai,ai,ai,ai,ai,ai,ai,false] 75 λdm=>
 Sw dm bw #[cR,cB,cW,du,dH,dc,db,dN,Th] λfQ=>(λAc=>
 eL au.a x9 au.n/\aT (fq Aa) (kW fQ (af Aa 0) λgW=>
 Aw fQ #[.int .u8 (jn gW)] 5 λcZ=>
 ba 1 1 cZ IJ 1 [.int .u8 (jn gW)]/\∀(V4:Sl)(fy:World),aX 5 1 cZ IJ 1 [.int .u8 (jn gW)] V4 fy->Ac cZ fy (
 Aw fy #[cR,cB,cW,du,dH,dc,db,dN] 3 λiY=>
 ae 90 #[.slice (aD fy) 8 8] iY (Rs λxY eG=>Ac iY eG (
 ∃l31:LV,Rd eG xY.a l31/\ba 1 1 eG V4 xY.n l31/\∀(BJ:Sl)(fL:World),aX 5 1 eG V4 xY.n l31 BJ fL->Ac eG fL (
 Br Th
 (Aw fL #[.int .u8 (jn 1)] 5 λlq=>
 ba 1 1 lq BJ 1 D/\∀(s35:Sl)(kH:World),aX 5 1 lq BJ 1 D s35 kH->K5 w w1 bw fQ fL lq kH (
 ∃Ou,Ou<n7/\aN C/\aN B/\I6 Ou Ab s35 kH))
 (Aw fL #[.int .u8 (jn 0)] 5 λiR=>
 ba 1 1 iR BJ 1 E/\∀(s38:Sl)(kR:World),aX 5 1 iR BJ 1 E s38 kR->K5 w w1 bw fQ fL iR kR (
 ∃Ou,Ou<n7/\aN C/\aN B/\I6 Ou Ab s38 kR)))))))) (K4 w w1 bw fQ)))
 (Aw bw #[.int .u8 (jn (aw (Int.tdiv A 256))),.int .u8 (jn (Int.tmod A 256))] 5 λkz=>
 ba 1 1 kz IJ 2 [.int .u8 (jn (aw (Int.tdiv A 256))),.int .u8 (jn (Int.tmod A 256))]/\∀(s41:Sl)(lf:World),aX 5 1 kz IJ 2 [.int .u8 (jn (aw (Int.tdiv A 256))),.int .u8 (jn (Int.tmod A 256))] s41 lf->K3 w w1 bw kz lf (
 oz (λI43 n44=>aN C/\aN B/\aN [.int .u8 (jn (aw (Int.tdiv A 256))),.int .u8 (jn (Int.tmod A 256))]/\I43 n44 (0) s41 lf) λI43 n44 aJw oH IS iw=>(λAd Ae=>
 Br (decide (oH<A))
 (eL aB.a oH aB.n/\aT (fq Ad) (gM iw (af Ad 1) λsS rA rq=>
 Aw iw #[ai,ai,ai] 41 λTp=>
 Sw Tp iw #[sS,rA,rq] λJi=>
 eL aB.a oH aB.n/\aT (fq Ad) (kW Ji.drew (af Ad 0) λoG=>
 Aw Ji.drew #[oG,sS,rA,rq] 3 λsJ=>
 ae 90 #[.slice (aD Ji.drew.heap.size) 4 4] sJ (Rs λEt nB=>Ae sJ nB (
 ah nB (fP w 2) 0 [aB]/\∃l59:LV,Rd nB Et.a l59/\ba 1 1 nB IS Et.n l59/\∀(Wh:Sl)(rI:World),aX 5 1 nB IS Et.n l59 Wh rI->Ae nB rI (
 ah rI (fP w 2) 0 [aB]/\∃n49,n49<n44/\aN C/\aN B/\aN [.int .u8 (jn (aw (Int.tdiv A 256))),.int .u8 (jn (Int.tmod A 256))]/\I43 n49 ((aw (oH+1))) Wh rI))))))
 (R IS iw)) (af aB.a ((oH:Int).toNat*4)) (K4 w w1 bw iw)))) (af au.a ((x9:Int).toNat*10)) ((aw (x9+1)))))) (if 2000<((aB.n:Nat):Int) then 2000 else ((aB.n:Nat):Int)) [.int .u8 (jn ((au.n:Nat):Int))] [aE,au,aB] [.int .u8 (jn 1)] [.int .u8 (jn 0)] ((au.n:Nat):Int)):ae 34 #[.agg #[aE,au,aB]] w R:=
 cq ⟨[(16,⟨[(8,.int .i64),(3,.slice)],[],[]⟩),(4,⟨[(4,.int .i64),(3,.slice)],[],[]⟩)],[],[]⟩ func34 h
def uJ.vc{c0:Addr}(h:(λA=>
 Br (!(A).isNone)
 (aT (fq A) (aT (fq A) (ij w.drew (af A 0) λx0 x1 x2 x3 x4 x5 x6 x7 b8=>
 DM w.drew (some c0) λx9 bE bK bW cR cB=>
 ae 48 #[.agg #[x0,x1,x2,x3,x4,x5,x6,x7,b8]] w.drew (aln λdu dH dc db dN eO ee=>ah ee (some c0) 0 [x9,bE,bK,bW,cR,cB]/\ae 124 #[.agg #[du,dH,dc,db,dN,eO],.agg #[x9,bE,bK,bW,cR,cB]] ee (EK λb23 dm=>R b23 dm)))))
 (R false w.drew)) (none:Option Addr)):ae 123 #[.pointer (none:Option Addr),c0] w R:=
 cq bG func123 h
def EU(h:Vj):Ce × Bool:=if 0<=h.2.2.1/\h.2.2.1<6 then ((rG h.1).getD h.2.2.1.toNat (0,0,0),true) else ((0,0,0),false)
def R0(h:Vj)(hc:fm h.1)(w:World):ae 109 #[htV h] w λe w'=>e=Value.tuple #[eg (EU h).1,.bool (EU h).2]/\Ext w w':=by
 obtain ⟨c,b,f,t⟩:=h;apply Uy.vc;intro w0 e0 w1 e1;have x0:=aQ e0;have z0:=zA e0;have r0:∃τ,Row w0 w [c.1,c.2.1,c.2.2,b,f,t] τ:=⟨_,by rw [e0];exact Row.new w [_,_,_,_,_,_] _⟩;have x1:=aQ e1;have z1:=zA e1;have lg:=x0.tr x1;have hd:=m7 w1;obtain ⟨τ,r0⟩:=r0;unfold EU;simp only;refine Br.mk (λh=>λw2 e2=> ?_) (λh=>Br.mk (λh2=>λw3 e3=> ?_) (λh2=>(jP c hc w1.drew).mono ?_))
 ·have h:=cS h;rw [if_neg aa];exact ⟨rfl,lg.ab e2 aa⟩
 ·have h2:=cS h2;rw [if_neg aa];exact ⟨rfl,lg.ab e3 aa⟩
 ·have h:=cS h;have h2:=cS h2;obtain ⟨k,rfl⟩:∃k:Nat,f=k:=⟨f.toNat,aa⟩;rw [if_pos aa,dQ];rintro e w4 ⟨rfl,x4⟩;have z4:=x4.size;refine ⟨_,_,_,_,_,_,_,_,_,_,_,_,_,_,_,_,_,_,rfl,x4.heap aa,x4.heap aa,oP (r0.ext (x1.tr ((Ext.dr w1).tr x4))) rfl,⟨aa,aa⟩,((rG c).getD k (0,0,0)).1,((rG c).getD k (0,0,0)).2.1,((rG c).getD k (0,0,0)).2.2,?_,λgx BZ=>⟨rfl,(lg.tr ((Ext.dr w1).tr x4)).ab BZ aa⟩⟩;have:k=0\/k=1\/k=2\/k=3\/k=4\/k=5:=by omega
  rcases this with rfl|rfl|rfl|rfl|rfl|rfl<;>rfl
def kP(b:dw):Ce:=kf b.aq (0,Int.tdiv (b.ht*4) 5,0)
def Iu(b:dw)(hh: -1000000000<=b.ht/\b.ht<=1000000000)(w:World):ae 88 #[FJ b] w λe w'=>e=(eg (kP b))/\Ext w w':=by
 apply JK.vc;intro w0 e0 w1 e1;have x0:=aQ e0;have z0:=zA e0;have x1:=aQ e1;have z1:=zA e1;have e4:aw (Int.tdiv (aw (b.ht*4)) 5)=Int.tdiv (b.ht*4) 5:=by
  have h5: -4000000000<=Int.tdiv (b.ht*4) 5/\Int.tdiv (b.ht*4) 5<=4000000000:=by
   rcases Int.le_total 0 (b.ht*4) with h|h
   ·rw [sa h];omega
   ·have e:b.ht*4= -(-(b.ht*4)):=by omega
    rw [e,Int.neg_tdiv,sa aa];omega
  rw [aK (n:=b.ht*4) gA,wI]
 rw [e4];refine (jS b.aq (0,Int.tdiv (b.ht*4) 5,0) w1).mono ?_;rintro e w2 ⟨rfl,x2⟩;have z2:=x2.size;exact ⟨_,_,_,rfl,x2.heap aa,x2.heap aa,λw6 e6=>⟨rfl,(x0.tr (x1.tr x2)).ab e6 aa⟩⟩
def ub(c:Ce):Bx:=((nO c.1,nO c.2.1,nO c.2.2),kf (nO c.1,nO c.2.1,nO c.2.2) (65536,65536,65536))
def Yp(c:Ce)(w:World):ae 121 #[eg c] w λe w'=>e=(td (ub c))/\Ext w w':=by
 apply adp.vc;intro w0 e0 w1 e1;have x0:=aQ e0;have z0:=zA e0;have r0:∃τ,Row w0 w [c.1,c.2.1,c.2.2] τ:=⟨_,by rw [e0];exact Row.new w [_,_,_] _⟩;have x1:=aQ e1;have z1:=zA e1;have hd:=m7 w1;obtain ⟨τ,r0⟩:=r0;have r1:=r0.ext (x1.tr (Ext.dr w1));have lg:=x0.tr (x1.tr (Ext.dr w1));have last:∀v1 v2:World,v1=w1.drew.alloc (.cells #[ai,ai,ai] iM)->v2=v1.setRow w1.drew.heap.size #[(nO c.1),(nO c.2.1),(nO c.2.2)]->
   ae 145 #[eg (nO c.1,nO c.2.1,nO c.2.2),eg (65536,65536,65536)] v2.drew λe bo=>∃x y z:Int,e=Value.agg #[x,y,z]/\bo.heap[w.heap.size]? =v2.drew.heap[w.heap.size]?/\bo.heap[w0.heap.size]? =v2.drew.heap[w0.heap.size]?/\bo.heap[w1.drew.heap.size]? =v2.drew.heap[w1.drew.heap.size]?/\
    ah bo (aD w1.drew.heap.size) 0 [(nO c.1),(nO c.2.1),(nO c.2.2)]/\∀bH:World,bH=bo.setRow w0 #[(nO c.1),(nO c.2.1),(nO c.2.2),x,y,z]->
    Ending.returned (.agg #[(nO c.1),(nO c.2.1),(nO c.2.2),x,y,z])=(td (ub c))/\Ext w bH:=by
  intro v1 v2 f1 f2;have y1:Ext w1.drew v2:=(aQ f1).ab f2 (ak _);have s2:v2.drew.heap.size=w1.heap.size+1:=by show v2.heap.size=_;rw [zR f2,zA f1];rfl
  have rv:Row v2 w1.drew.heap.size [(nO c.1),(nO c.2.1),(nO c.2.2)] iM:=by rw [f2,f1];exact Row.set (Row.new w1.drew [_,_,_] _) [_,_,_]
  refine (jS (nO c.1,nO c.2.1,nO c.2.2) (65536,65536,65536) v2.drew).mono ?_;rintro e bo ⟨rfl,bE⟩;exact ⟨_,_,_,rfl,bE.heap aa,bE.heap aa,bE.heap aa,Lo.wv (rv.ext ((Ext.dr v2).tr bE)),λbH uU=>⟨rfl,(lg.tr (y1.tr ((Ext.dr v2).tr bE))).ab uU aa⟩⟩
 have of1:∀(n:Int) {u:World} {R:Ending->World->Prop},R (.returned (.int .i64 (nO n))) u->ae 174 #[.int .i64 n] u R:=λn u R h=>(tn n u).mono (by rintro e w' ⟨rfl,rfl⟩;exact h)
 have l2:ah w1.drew (fP w.heap.size 2) 0 [c.2.2]:=oP r1 rfl;have l1:ah w1.drew (fP w.heap.size 1) 0 [c.2.1]:=oP r1 rfl;refine ⟨of1 _ ⟨_,rfl,rfl,rfl,l2,l1,of1 _ ⟨_,rfl,rfl,rfl,l2,of1 _ ⟨_,rfl,rfl,rfl,λw8 e8 w9 e9=>last _ _ e8 e9,λw8 e8 w9 e9=>last _ _ e8 e9⟩,λdm zi=> ?_⟩,λgS e31=> ?_⟩,λlf XE=> ?_⟩
 ·exact of1 _ ⟨_,rfl,rfl,rfl,rfl,λcZ zk=>last _ _ zi zk⟩
 ·have xa:=aQ e31;exact of1 _ ⟨_,rfl,rfl,rfl,rfl,oP (r1.ext xa) rfl,of1 _ ⟨_,rfl,rfl,rfl,rfl,λkH e36=>last _ _ e31 e36⟩⟩
 ·have xa:=aQ XE;exact of1 _ ⟨_,rfl,rfl,rfl,rfl,oP (r1.ext xa) rfl,oP (r1.ext xa) rfl,of1 _ ⟨_,rfl,rfl,rfl,rfl,oP (r1.ext xa) rfl,of1 _ ⟨_,rfl,rfl,rfl,rfl,λpG e49=>last _ _ XE e49⟩⟩⟩
def G9(c:Ce)(x:Option cM):Bool:=match x with|some y=>iW y.1.box (ub c)|none=>false
def mE(L:List (Option cM))(c:Ce):Bool:=L.any (G9 c)
def T8{w:World}{a:Option Nat}{x:Option cM}(ha:∀b,a=some b->∃y,x=some y/\Row w b (G8 y) jF/\dJ y.1.wd)(hn:a=none->x=none){c:Ce}{g:Nat}{τ:TypeId}(hg:Row w g (qA (ub c)) τ):
  ae 123 #[pA a,g] w λe w'=>e=Value.bool (G9 c x)/\Ext w w':=by
 cases a with
 |none=>
  rw [hn rfl];apply uJ.vc;exact gd rfl ⟨rfl,Ext.dr w⟩
 |some b=>
  obtain ⟨y,rfl,hr,hw⟩:=ha b rfl;apply (vw.vc (a0:=⟨b,0,none⟩));refine ⟨_,_,_,_,_,_,_,_,_,(hr.ext (Ext.dr w)).bI (vs:=kc y.1) (o:=0) (λj hj=> ?_),_,_,_,_,_,_,Lo.wv (hg.ext (Ext.dr w)),(kY y.1 hw w.drew).mono ?_⟩
  ·have hj:j<9:=hj;have:j=0\/j=1\/j=2\/j=3\/j=4\/j=5\/j=6\/j=7\/j=8:=by omega
   rcases this with rfl|rfl|rfl|rfl|rfl|rfl|rfl|rfl|rfl<;>rfl
  rintro e ee ⟨rfl,cW⟩;refine ⟨_,_,_,_,_,_,rfl,Lo.wv (hg.ext ((Ext.dr w).tr cW)),(Bt y.1.box (ub c) ee).mono ?_⟩;rintro e dm ⟨rfl,fN⟩;exact ⟨_,rfl,rfl,(Ext.dr w).tr (cW.tr fN)⟩
def qB(m:Int)(L:List (Option cM)):Prop:=∀y,some y ∈ L->okB m y.1
def qB.up{m n:Int}{L:List (Option cM)}(h:qB m L)(hn:m<=n):qB n L:=λy hy=>(h y hy).up hn
section
variable {F F':Nat->Prop} {w w':World} {g s o t:Nat} {M M':Sm} {occ:Value} {L:List (Option cM)}
def EL.held{av:List (Option Nat)}(he:EL w av L){m:Int}(hL:qB m L){k:Nat}{a:Option Nat}(ha:av[k]? =some a):
  ∃x,L[k]? =some x/\(∀b,a=some b->∃y,x=some y/\Row w b (G8 y) jF/\dJ y.1.wd)/\(a=none->x=none):=by
 cases a with
 |none=>exact ⟨none,he.z k ha,λb hb=>(by cases hb),λ_=>rfl⟩
 |some b=>
  obtain ⟨y,hy,hr⟩:=he.s k b ha;exact ⟨some y,hy,λb' hb=>by cases hb;exact ⟨y,rfl,hr,(hL y (aO hy)).wdi⟩,λq=>(by cases q)⟩
def PM{p:Value}{av:List (Option Nat)}{τ τ':TypeId}(hr:Row w g (p::av.map pA) τ)(he:EL w av L){m:Int}(hL:qB m L){c:Ce}{b:Nat}(hb:Row w b (qA (ub c)) τ'):
  ae 175 #[.slice (aI (af (some ⟨g,0,none⟩) 1) 0 16 1) (16-0) (16-0),.func (.func 123) #[] #[b]] w λe w'=>(∃n:Int,e=Value.int .i64 n/\decide (n>=0)=mE L c)/\Ext w w':=by
 apply (uE.vc (a0:=⟨aI (af (some ⟨g,0,none⟩) 1) 0 16 1,16-0,16-0⟩));rw [dz];refine ⟨λn x wr=>∃k:Nat,x=k/\k+n=16/\Ext w wr/\∀j,j<k->∀y,L[j]? =some y->G9 c y=false,⟨16,0,rfl,rfl,Ext.cG _,λj hj=>by omega⟩,?_⟩;rintro n us x wr ⟨k,rfl,hk,xr,l8⟩;apply Br.mk<;>intro hq
 ·have hq:(k:Int)<((16-0:Nat):Int):=by simpa using hq
  obtain ⟨a,ha⟩:=bq (l:=av) (i:=k) (by have:=he.n;omega);obtain ⟨y,hy,h1,h2⟩:=he.held hL ha;refine ⟨⟨rfl,aa,hq⟩,_,MB (hr.ext xr) ha,cH (by kernel_rfl) rfl ((T8 (a:=a) (x:=y) (λb' e=> ?_) h2 (hb.ext xr)).mono ?_)⟩
  ·obtain ⟨z,e1,e2,e3⟩:=h1 b' e;exact ⟨z,e1,e2.ext xr,e3⟩
  rintro e w7 ⟨rfl,x7⟩;refine ⟨_,rfl,Br.mk (λhm=>⟨⟨_,rfl,?_⟩,xr.tr x7⟩) (λhm=> ?_)⟩
  ·rw [decide_eq_true (by omega:(k:Int)>=0)];exact (List.any_eq_true.2 ⟨y,aO hy,hm⟩).symm
  ·have wk:=ov (j:=k);refine ⟨n-1,aa,k+1,wk,aa,xr.tr x7,λj hj z hz=> ?_⟩;by_cases q:j<k
   ·exact l8 j q z hz
   ·rw [show j=k from by omega,hy] at hz;rw [<-Option.some.inj hz];exact hm
 ·have hq:¬(k:Int)<((16-0:Nat):Int):=by simpa using hq
  refine ⟨⟨_,rfl,?_⟩,xr⟩;rw [decide_eq_false aA];refine (List.any_eq_false.2 λy hy=> ?_).symm;obtain ⟨j,hj⟩:=List.mem_iff_getElem?.1 hy;have:=(bZ.1 hj).1;have:=he.m;rw [l8 j aa y hj];decide
def KQ{p:Value}{av:List (Option Nat)}{τ:TypeId}(hr:Row w g (p::av.map pA) τ)(he:EL w av L){m:Int}(hL:qB m L)(c:Ce):
  ae 66 #[g,eg c] w λe w'=>e=Value.bool (mE L c)/\Ext w w':=by
 apply yn.vc;intro w0 e0;have x0:=aQ e0;have z0:=zA e0;refine (Yp c w0).mono ?_;rintro e w1 ⟨rfl,x1⟩;have z1:=x1.size;refine ⟨_,_,_,_,_,_,rfl,x1.heap aa,λw8 e8 w9 e9=> ?_⟩;have x9:Ext w1 w9:=(aQ e8).ab e9 (ak _);have r9:∃τ',Row w9 w1 (qA (ub c)) τ':=⟨_,by rw [e9,e8];exact Row.set (Row.new w1 [_,_,_,_,_,_] _) [_,_,_,_,_,_]⟩;have z9:w9.heap.size=w1.heap.size+1:=by rw [zR e9,zA e8]
 obtain ⟨τ',r9⟩:=r9;have Sx:=x0.tr (x1.tr x9);refine Calls.mono (qZ.vc (a0:=⟨aI (af (aD g) 1) 0 16 1,16-0,16-0⟩) (R:=λe w'=>e=Value.bool (mE L c)/\Ext w9 w') ?_) ?_
 ·refine (PM (hr.ext Sx) (he.same λa ha=>Sx.heap (he.lt ha)) hL r9).mono ?_;rintro e bo ⟨⟨n,rfl,hn⟩,bE⟩;exact ⟨n,rfl,by rw [hn],bE⟩
 ·rintro e bo ⟨rfl,bE⟩;exact ⟨_,rfl,bE.heap aa,rfl,Sx.tr bE⟩
end
def PN(a b:Ce)(n:Nat):Prop:=(-(n:Int)<=a.1-b.1/\a.1-b.1<=n)/\(-(n:Int)<=a.2.1-b.2.1/\a.2.1-b.2.1<=n)/\-(n:Int)<=a.2.2-b.2.2/\a.2.2-b.2.2<=n
def alf(c:Ce)(i:Nat):PN (nbN c i) c 1:=by unfold nbN PN;split<;>(simp only;omega)
def acZ{d c0:Ce}{r:Int}:∀{n:Nat} {s:S3} {h0 h:Hi},h ∈ goK d c0 r n s h0->nk c0 h.1 r=true/\(h.2.1=h0.2.1\/0<=h.2.1/\h.2.1<6)/\PN h.1 h0.1 n
 |0,s,h0,h,hm=>by cases hm
 |n+1,s,h0,h,hm=>by
  unfold goK at hm
  split at hm
  ·rename_i hw
   rcases cp.1 hm with rfl|hm
   ·exact ⟨hw,.inl rfl,by unfold PN;omega⟩
   ·cases hq:ig d s h0 with
    |none=>rw [hq] at hm;cases hm
    |some q=>
     rw [hq] at hm
     obtain ⟨h1,h2,h3⟩:=acZ hm
     unfold ig at hq
     split at hq
     ·cases hq
     injection hq with hq
     refine ⟨h1,.inr ?_,?_⟩
     ·rcases h2 with h2|h2
      ·rw [h2,<-hq]
       have:=at3 s
       simp only
       split<;>omega
      ·exact h2
     ·have hn:PN q.2.1 h0.1 1:=by rw [<-hq];exact alf _ _
      unfold PN at hn h3 ⊢;omega
  ·cases hm
def VE:Vj:=((0,0,0),0,0,0)
def cj(M:Sm)(L:List (Option cM))(n:Int)(cV:Ce):Vj × Int:=
 match bC L n with
 |none=>(VE,6)
 |some y=>if (ji (gz M.T.2) (kP y.1) cV 5).2=false then (VE,13) else if (ji (gz M.T.2) (kP y.1) cV 5).1.2.1= -1 then (VE,11) else ((ji (gz M.T.2) (kP y.1) cV 5).1,0)
def Ir{b:dw}{m:Int}(h:okB m b)(hm:m<=99970000000000):(-1600000000<=(bj (fh (kP b))).1/\(bj (fh (kP b))).1<=1600000000)/\(-1600000000<=(bj (fh (kP b))).2.1/\(bj (fh (kP b))).2.1<=1600000000)/\-1600000000<=(bj (fh (kP b))).2.2/\(bj (fh (kP b))).2.2<=1600000000:=by
 obtain ⟨⟨h1,h2,h3⟩,-,h5,-⟩:=h;have ht:0<=Int.tdiv (b.ht*4) 5/\Int.tdiv (b.ht*4) 5<=1000000:=by rw [sa aa];omega
 have e1:(bj (fh (kP b))).1=bO (cU (fZ b.aq.1 0)):=rfl;have e2:(bj (fh (kP b))).2.1=bO (cU (fZ b.aq.2.1 (Int.tdiv (b.ht*4) 5))):=rfl;have e3:(bj (fh (kP b))).2.2=bO (cU (fZ b.aq.2.2 0)):=rfl;rw [e1,e2,e3];unfold bO fZ cU;omega
def C9{a b r:Int}(h:tL a b r=true)(ha: -4000000000<=a/\a<=4000000000)(hb: -4000000000<=b/\b<=4000000000):a-b<=r/\b-a<=r:=by unfold tL at h;simp only [fk,cJ] at h;rw [wI,wI] at h;exact h
def Is{f d:Ce}{r:Int}(hr:oa r<=5):∀h ∈ mW (fh f) (l6 d) (oa r),(((bj (fh f)).1-h.1.1<=5/\h.1.1-(bj (fh f)).1<=5)/\((bj (fh f)).2.1-h.1.2.1<=5/\h.1.2.1-(bj (fh f)).2.1<=5)/\(bj (fh f)).2.2-h.1.2.2<=5/\h.1.2.2-(bj (fh f)).2.2<=5)/\(h.2.1= -1\/0<=h.2.1/\h.2.1<6):=by
 intro h hh;obtain ⟨h1,h2,h3⟩:=acZ hh;replace h3:PN h.1 (bj (fh f)) _:=h3;have hc:=wx (fh f);have hn:((3*(oa r).toNat+2:Nat):Int)<=17:=by omega
 unfold PN at h3;unfold nk at h1;simp only [fk] at h1;have q1:=C9 h1.1 aa aa;have q2:=C9 h1.2.1 aa aa;have q3:=C9 h1.2.2 aa aa;exact ⟨⟨aa,aa,aa⟩,h2⟩
def P9{V:Ce->Int}{f d:Ce}{r:Int}(hr:oa r<=5){h:Vj}(e:ji V f d r=(h,true)):
  ((bj (fh f)).1-h.1.1<=5/\h.1.1-(bj (fh f)).1<=5)/\((bj (fh f)).2.1-h.1.2.1<=5/\h.1.2.1-(bj (fh f)).2.1<=5)/\((bj (fh f)).2.2-h.1.2.2<=5/\h.1.2.2-(bj (fh f)).2.2<=5)/\V h.1=h.2.1/\(h.2.2.1= -1\/0<=h.2.2.1/\h.2.2.1<6):=by
 unfold ji at e;split at e
 ·rename_i x hx;obtain ⟨⟨h1,h2,h3⟩,h4⟩:=Is hr x (W5 hx);injection e with e1 e2;subst e1;exact ⟨h1,h2,h3,rfl,h4⟩
 ·injection e with e1 e2
  cases e2
def RY{f d:Ce}{r:Int}(hr:oa r<=5)(hf:(-1600000000<=(bj (fh f)).1/\(bj (fh f)).1<=1600000000)/\(-1600000000<=(bj (fh f)).2.1/\(bj (fh f)).2.1<=1600000000)/\-1600000000<=(bj (fh f)).2.2/\(bj (fh f)).2.2<=1600000000):
  ∀h ∈ mW (fh f) (l6 d) (oa r),rT h.1:=by
 intro h hh;obtain ⟨h1,-⟩:=Is hr h hh;unfold rT dJ;omega
def ahm:oa 5=5:=by decide
section
variable {F F':Nat->Prop} {w w':World} {g s o t:Nat} {M M':Sm} {occ:Value} {L:List (Option cM)}
def EL.at{av:List (Option Nat)}(he:EL w av L){k b:Nat}(ha:av[k]? =some (some b)):∃y,bC L k=some y/\some y ∈ L/\Row w b (G8 y) jF:=by obtain ⟨y,hy,hr⟩:=he.s k b ha;refine ⟨y,?_,aO hy,hr⟩;unfold bC;rw [if_pos aa,dQ,hy];rfl
def EL.at0{av:List (Option Nat)}(he:EL w av L){k:Nat}(ha:av[k]? =some none):bC L k=none:=by unfold bC;rw [if_pos aa,dQ,he.z k ha];rfl
def adj{b:Nat}{y:cM}(hr:Row w b (G8 y) jF):ah w (af (aD b) 0) 0 (kc y.1):=by
 rw [aV];refine hr.bI (o:=0) λj hj=> ?_
 have hj:j<9:=hj;have:j=0\/j=1\/j=2\/j=3\/j=4\/j=5\/j=6\/j=7\/j=8:=by omega
 rcases this with rfl|rfl|rfl|rfl|rfl|rfl|rfl|rfl|rfl<;>rfl
def aqd{b:Nat}{y:cM}(hr:Row w b (G8 y) jF):ah w (af (aD b) 9) 0 [y.2.1,y.2.2.1,.bool y.2.2.2]:=by
 rw [aV];refine hr.bI (o:=9) λj hj=> ?_
 have hj:j<3:=hj;have:j=0\/j=1\/j=2:=by omega
 rcases this with rfl|rfl|rfl<;>rfl
def CZ(h:EF F w g s o t M occ L){m:Int}(hL:qB m L)(hm:m<=99970000000000)(n:Int)(cV:Ce):
  ae 32 #[g,n,eg cV] w λe w'=>e=Value.tuple #[htV (cj M L n cV).1,.int .i64 (cj M L n cV).2]/\Ext w w':=by
 apply yz.vc;intro w0 e0 w1 e1;have x0:=aQ e0;have z0:=zA e0;have r0:∃τ,Row w0 w (dZ cV) τ:=⟨_,by rw [e0];exact Row.new w [_,_,_] _⟩;have x1:=aQ e1;have z1:=zA e1;obtain ⟨τ,r0⟩:=r0;have r1:=r0.ext x1;have lg:=x0.tr x1;have h1:=h.ext lg;obtain ⟨av,c9,kq,-,-,-⟩:=h1.row;refine (MX c9 kq.n n).mono ?_;rintro e w2 ⟨a,rfl,Df,hc⟩;subst Df;refine ⟨_,rfl,rfl,rfl,?_⟩;rcases hc with ⟨k,rfl,hk,ha⟩|⟨BR,rfl⟩
 case inr=>
  refine yes rfl λw4 e4=>⟨?_,lg.ab e4 aa⟩
  unfold cj;rw [wG kq.m BR];rfl
 cases a with
 |none=>
  refine yes rfl λw4 e4=>⟨?_,lg.ab e4 aa⟩
  unfold cj;rw [kq.at0 ha];rfl
 |some b=>
  obtain ⟨y,hy,fw,hrb⟩:=kq.at ha;have oky:=hL y fw;refine gd rfl (iS rfl (iS rfl ?_));have xd:=Ext.dr w2;have hd:=m7 w2;have eyn:=Ir oky hm;have hhb: -1000000000<=y.1.ht/\y.1.ht<=1000000000:=by have:=oky.2.2.1;omega
  have sM:cj M L k cV=if (ji (gz M.T.2) (kP y.1) cV 5).2=false then (VE,13) else if (ji (gz M.T.2) (kP y.1) cV 5).1.2.1= -1 then (VE,11) else ((ji (gz M.T.2) (kP y.1) cV 5).1,0):=by unfold cj;rw [hy]
  have castS:∀{u:World},Ext w2.drew u->ae 87 #[.func (.func 83) #[t] #[],eg (kP y.1),eg cV,(5:Int)] u λe w'=>e=Value.tuple #[htV (ji (gz M.T.2) (kP y.1) cV 5).1,.bool (ji (gz M.T.2) (kP y.1) cV 5).2]/\Ext u w':=λ{u} xu=>
   LO (h1.ext (xd.tr xu)).tl rfl (kP y.1) cV 5 ⟨aa,aa,aa⟩ (RY (by rw [ahm];decide) eyn)
  generalize ji (gz M.T.2) (kP y.1) cV 5=ck at sM castS;obtain ⟨⟨⟨cx,cy,cz⟩,cb,cf,ct⟩,cq⟩:=ck;have fin:∀{u:World},Ext w2.drew u->Br (!cq)
    (∀gR:World,gR=u.setRow w0 #[ai,ai,ai,ai,ai,ai]->Ending.returned (.tuple #[.agg #[ai,ai,ai,ai,ai,ai],(13:Int)])=Value.tuple #[htV (cj M L k cV).1,.int .i64 (cj M L k cV).2]/\Ext w gR)
    (Br (cb==(-1))
     (∀gR:World,gR=u.setRow w0 #[ai,ai,ai,ai,ai,ai]->Ending.returned (.tuple #[.agg #[ai,ai,ai,ai,ai,ai],(11:Int)])=Value.tuple #[htV (cj M L k cV).1,.int .i64 (cj M L k cV).2]/\Ext w gR)
     (∀gR:World,gR=u.setRow w0 #[cx,cy,cz,cb,cf,ct]->Ending.returned (.tuple #[.agg #[cx,cy,cz,cb,cf,ct],(0:Int)])=Value.tuple #[htV (cj M L k cV).1,.int .i64 (cj M L k cV).2]/\Ext w gR)):=by
   intro u xu;have xx:=lg.tr (xd.tr xu);rw [sM];refine Br.mk (λhb=>λgR XD=>⟨?_,xx.ab XD aa⟩) (λhb=>Br.mk (λj8=>λgR XD=>⟨?_,xx.ab XD aa⟩) (λj8=>λgR XD=>⟨?_,xx.ab XD aa⟩))
   ·have hb:cq=false:=by simpa using hb
    rw [if_pos hb];rfl
   ·have hb:cq=true:=by simpa using hb
    have j8:cb= -1:=by simpa using j8
    rw [if_neg (by simp [hb]),if_pos j8];rfl
   ·have hb:cq=true:=by simpa using hb
    have j8:¬cb= -1:=by simpa using j8
    rw [if_neg (by simp [hb]),if_neg j8]
  have wayL:∀{u:World},Ext w2.drew u->ah u (some ⟨w.heap.size,0,none⟩) 0 (dZ cV):=λxu=>Lo.wv (r1.ext (xd.tr xu))
  have bdyL:∀{u:World},Ext w2.drew u->ah u (af (some ⟨b,0,none⟩) 0) 0 (kc y.1):=λxu=>adj (hrb.ext (xd.tr xu))
  refine ⟨_,_,_,_,_,_,_,_,_,bdyL (Ext.cG _),?_,?_⟩
  ·refine (mR (h1.ext xd)).mono ?_;rintro e bH ⟨rfl,aoL⟩;subst aoL;refine ⟨_,rfl,rfl,rfl,wayL (Ext.cG _),bdyL (Ext.cG _),?_,λsI e46=> ?_⟩
   ·refine (Iu y.1 hhb w2.drew).mono ?_;rintro e cD ⟨rfl,du⟩;have z16:=du.size;refine ⟨_,_,_,rfl,du.heap aa,du.heap aa,wayL du,?_,λfL e33=> ?_⟩
    ·refine (castS du).mono ?_;rintro e fx ⟨rfl,dN⟩;have z20:=dN.size;refine ⟨_,_,_,_,_,_,_,rfl,dN.heap aa,dN.heap aa,λiY e28 eG Se=> ?_⟩;exact fin ((du.tr dN).tr ((aQ e28).ab Se (ak _)))
    ·have fD:=aQ e33;have z33:=zA e33;refine (castS (du.tr fD)).mono ?_;rintro e lq ⟨rfl,jO⟩;have z34:=jO.size;refine ⟨_,_,_,_,_,_,_,rfl,jO.heap aa,jO.heap aa,jO.heap aa,λlf XE=> ?_⟩;exact fin (((du.tr fD).tr jO).ab XE aa)
   ·have oH:=aQ e46;have z46:=zA e46;refine (Iu y.1 hhb sI).mono ?_;rintro e nA ⟨rfl,xl⟩;have z47:=xl.size;refine ⟨_,_,_,rfl,xl.heap aa,xl.heap aa,xl.heap aa,wayL (oH.tr xl),(castS (oH.tr xl)).mono ?_⟩;rintro e uL ⟨rfl,rA⟩;have z51:=rA.size;refine ⟨_,_,_,_,_,_,_,rfl,rA.heap aa,rA.heap aa,rA.heap aa,λqE Tn=> ?_⟩;exact fin (((oH.tr xl).tr rA).ab Tn aa)
  ·intro Kb e63;have uQ:=aQ e63;have z63:=zA e63;refine (mR (h1.ext (xd.tr uQ))).mono ?_;rintro e uV ⟨rfl,aBg⟩;subst aBg;refine ⟨_,rfl,rfl,rfl,rfl,wayL uQ,bdyL uQ,(Iu y.1 hhb uV).mono ?_⟩;rintro e sQ ⟨rfl,oI⟩;have z66:=oI.size;refine ⟨_,_,_,rfl,oI.heap aa,oI.heap aa,oI.heap aa,wayL (uQ.tr oI),(castS (uQ.tr oI)).mono ?_⟩;rintro e qD ⟨rfl,ur⟩;have z70:=ur.size;refine ⟨_,_,_,_,_,_,_,rfl,ur.heap aa,ur.heap aa,ur.heap aa,λrD e78=> ?_⟩;exact fin (((uQ.tr oI).tr ur).ab e78 aa)
end
def nM{w:World}{g:Nat}{cs vs:LV}{E:TypeId}(hr:Row w g cs E){off:Nat}(hl:off+vs.length<=cs.length)(h1:One vs):
  Wr w (af (aD g) off) vs.length/\∀w',w'=Vc.bF w (af (aD g) off) vs->Row w' g (aP cs off vs) E/\Mod (λi=>i=g) w w':=by
 rw [aV,eC];refine ⟨hr.wr hl,λw' e=> ?_⟩;rw [hr.bF hl h1] at e;subst e;exact ⟨hr.set _,rfl,rfl,rfl,by rw [setRow_size];exact ak _,λi _ hn=>setRow_other _ _ _ _ hn⟩
section
variable {F F':Nat->Prop} {w w':World} {g s o t:Nat} {M M':Sm} {occ:Value} {L:List (Option cM)}
def EL.put{av:List (Option Nat)}(he:EL w av L){k b:Nat}(ha:av[k]? =some (some b)){y:cM}(hr:Row w' b (G8 y) jF)(hs:∀a,some a ∈ av->a≠b->w'.heap[a]? =w.heap[a]?):EL w' av (L.set k (some y)):=by
 have hk:k<16:=by rw [<-he.n];exact (bZ.1 ha).1
 refine ⟨he.n,by rw [iE];exact he.m,λi a hi=> ?_,λi hi=> ?_,he.d⟩
 ·by_cases q:i=k
  ·subst q;rw [ha] at hi
   cases hi
   exact ⟨y,oM (by rw [he.m];exact hk),hr⟩
  ·obtain ⟨x,h1,h2⟩:=he.s i a hi;refine ⟨x,by rw [xK (Ne.symm q)];exact h1,h2.same (hs a (aO hi) λe=> ?_)⟩;subst e;exact q (he.d i k a hi ha)
 ·have q:i≠k:=λe=>by subst e;rw [ha] at hi;cases hi
  rw [xK (Ne.symm q)];exact he.z i hi
def gJ.aC{w0:World}(x:Ext w w0)(h:gJ F w0 g s o t M occ L w'):gJ F w g s o t M occ L w':=by obtain ⟨F',h1,h2⟩:=h;exact ⟨F',h1,(aJ.aC x).trans h2⟩
def pY(L:List (Option cM))(n:Int)(i:Int × Int × Bool):Int × List (Option cM):=match bC L n with|none=>(6,L)|some y=>(0,L.set n.toNat (some (y.1,i)))
def ZO(h:EF F w g s o t M occ L)(n:Int)(i:Int × Int × Bool):ae 54 #[g,n,.agg #[i.1,i.2.1,.bool i.2.2]] w λe w'=>e=Value.int .i64 (pY L n i).1/\gJ F w g s o t M occ (pY L n i).2 w':=by
 apply yB.vc;intro w0 e0;have x0:=aQ e0;have z0:=zA e0;have h0:=h.ext x0;obtain ⟨av,c9,kq,hFg,hFa,bf⟩:=h0.row;refine (MX c9 kq.n n).mono ?_;rintro e w1 ⟨a,rfl,SZ,hc⟩;subst SZ;unfold pY;refine ⟨_,rfl,rfl,?_⟩;rcases hc with ⟨k,rfl,hk,ha⟩|⟨BR,rfl⟩
 case inr=>
  rw [wG kq.m BR];exact yes rfl ⟨rfl,gJ.aC x0 (h0.res (Ext.cG _))⟩
 cases a with
 |none=>
  rw [kq.at0 ha];exact yes rfl ⟨rfl,gJ.aC x0 (h0.res (Ext.cG _))⟩
 |some b=>
  obtain ⟨y,hy,fw,hrb⟩:=kq.at ha;have hb:=h.lt (i:=b);rw [hy];have xg:One [i.1,i.2.1,.bool i.2.2]:=by intro u hu;simp at hu;rcases hu with rfl|rfl|rfl<;>rfl
  obtain ⟨p1,p2⟩:=nM hrb (off:=9) (vs:=[.int .i64 i.1,.int .i64 i.2.1,.bool i.2.2]) (by show 9+3<=12;decide) xg;have hbw:b<w:=h.lt (hFa b (aO ha));refine gd rfl (iS rfl (iS rfl ⟨⟨rfl,p1⟩,?_,λw3 e3=> ?_⟩))
  ·intro q;have q:some b=some w.heap.size:=q;have q:b=w.heap.size:=Option.some.inj q;omega
  obtain ⟨q1,q2⟩:=p2 w3 e3;have q1:Row w3 b (G8 (y.1,i)) jF:=q1;have hZ:b≠g:=λe=>c9.ne hrb lA.2.2 e.symm
  refine ⟨rfl,gJ.aC x0 (bf (q2.mono λj _ hj=> .inr (by rw [hj];exact aO ha)) (c9.same (q2.same _ c9.lt λe=>hZ e.symm)) ?_ λa ha=> .inl ha)⟩;show EL w3 av (L.set ((k:Nat):Int).toNat (some (y.1,i)));rw [dQ];exact kq.put ha q1 λa ha' hn=>q2.same _ (kq.lt ha') hn
def Py:dw:=⟨(0,0,0),(0,0,0),0,0,false⟩
def c8(M:Sm)(L:List (Option cM))(c:Ce)(b:Int):Int × Sm:=if ao b=true/\mE L c=true then (12,M) else ((fb M.T.2 c b).2,vA M c b)
def yP(h:EF F w g s o t M occ L){m:Int}(hL:qB m L)(c:Ce)(hc:fm c)(b:Int)(hk:sO M 800000):ae 59 #[g,eg c,b] w λe w'=>e=Value.int .i64 (c8 M L c b).1/\gJ F w g s o t (c8 M L c b).2 occ L w':=by
 apply yA.vc;intro w0 e0;have x0:=aQ e0;have z0:=zA e0;have inner:∀{u:World},Ext w0 u->¬(ao b=true/\mE L c=true)->∃p:Option Addr,Vc.ld u (af (aD g) 0)=some (.pointer p)/\
   ae 113 #[p,eg c,b] u λe w6=>∃x7:Int,e=x7/\w6.heap[w.heap.size]? =u.heap[w.heap.size]?/\Ending.returned x7=Value.int .i64 (c8 M L c b).1/\gJ F w g s o t (c8 M L c b).2 occ L w6:=by
  intro u xu hn;have hu:=h.ext (x0.tr xu);have zu:=xu.size;obtain ⟨Fs,hs,ko,fa,bf⟩:=hu.xz;refine ⟨_,ko,(yN hs c hc b hk).mono ?_⟩;rintro e w6 ⟨rfl,hr⟩;have hk6:w6.heap[w.heap.size]? =u.heap[w.heap.size]? :=by obtain ⟨F6,-,t6⟩:=hr;exact t6.mod.same _ aa λq=>by have:=h.lt (fa _ q);omega
  unfold c8;rw [if_neg hn];exact ⟨_,rfl,hk6,rfl,gJ.aC (x0.tr xu) (bf hr)⟩
 refine (sk b w0).mono ?_;rintro e w1 ⟨rfl,SZ⟩;subst SZ;refine ⟨_,rfl,rfl,Br.mk (λhb=> ?_) (λhb=>inner (Ext.dr _) λq=>by rw [hb] at q;cases q.1)⟩;have h1:=h.ext x0;obtain ⟨av,c9,kq,-,-,-⟩:=h1.row;refine (KQ c9 kq hL c).mono ?_;rintro e w3 ⟨rfl,x3⟩;have z3:=x3.size;refine ⟨_,rfl,x3.heap aa,Br.mk (λhq=> ?_) (λhq=> ?_)⟩
 ·unfold c8;rw [if_pos ⟨hb,hq⟩];exact ⟨rfl,h.res (x0.tr x3)⟩
 ·exact inner (x3.tr (Ext.dr _)) λq=>by rw [hq] at q;cases q.2
end
def kx(c:Ce)(m:Int):Prop:=(-m<=c.1/\c.1<=m)/\(-m<=c.2.1/\c.2.1<=m)/\-m<=c.2.2/\c.2.2<=m
def kx.wide{c:Ce}{m:Int}(h:kx c m)(hm:m<=2000000000):fm c:=by unfold kx at h;unfold fm;omega
def P8{M:Sm}{L:List (Option cM)}{n:Int}{cV:Ce}(e:(cj M L n cV).2=0):∃y,bC L n=some y/\some y ∈ L/\ji (gz M.T.2) (kP y.1) cV 5=((cj M L n cV).1,true)/\(cj M L n cV).1.2.1≠-1:=by
 unfold cj at e ⊢
 cases hq:bC L n with
 |none=>rw [hq] at e;simp only at e;omega
 |some y=>
  rw [hq] at e;simp only at e ⊢;have hm:some y ∈ L:=by
   unfold bC at hq;split at hq
   ·rcases Hw.1 hq with hq;exact aO hq
   ·cases hq
  refine ⟨y,rfl,hm,?_⟩;split at e
  ·simp only at e;omega
  split at e
  ·simp only at e;omega
  rename_i h1 h2;rw [if_neg h1,if_neg h2];exact ⟨Prod.ext rfl (by simpa using h1),h2⟩
def wA{M:Sm}{L:List (Option cM)}{m:Int}(hL:qB m L)(hm:m<=99970000000000){n:Int}{cV:Ce}(e:(cj M L n cV).2=0):kx (cj M L n cV).1.1 1600000005/\kx (EU (cj M L n cV).1).1 1600000006:=by
 obtain ⟨y,h1,h2,h3,h4⟩:=P8 e;have hn:=P9 (by rw [ahm];decide) h3;have he:=Ir (hL y h2) hm;have hc:kx (cj M L n cV).1.1 1600000005:=by unfold kx;omega
 refine ⟨hc,?_⟩;generalize (cj M L n cV).1=h at hc;obtain ⟨c,b,f,tt⟩:=h;unfold EU;split
 ·rename_i hf;simp only at hf ⊢;obtain ⟨k,rfl⟩:∃k:Nat,f=k:=⟨f.toNat,aa⟩;rw [dQ];unfold kx at hc;have:k=0\/k=1\/k=2\/k=3\/k=4\/k=5:=by omega
  rcases this with rfl|rfl|rfl|rfl|rfl|rfl
  ·show kx (c.1-1,c.2.1,c.2.2) _;unfold kx;simp only;simp only at hc;omega
  ·show kx (c.1+1,c.2.1,c.2.2) _;unfold kx;simp only;simp only at hc;omega
  ·show kx (c.1,c.2.1-1,c.2.2) _;unfold kx;simp only;simp only at hc;omega
  ·show kx (c.1,c.2.1+1,c.2.2) _;unfold kx;simp only;simp only at hc;omega
  ·show kx (c.1,c.2.1,c.2.2-1) _;unfold kx;simp only;simp only at hc;omega
  ·show kx (c.1,c.2.1,c.2.2+1) _;unfold kx;simp only;simp only at hc;omega
 ·unfold kx;simp only;omega
def gg(M:Sm)(L:List (Option cM))(n:Int)(cV:Ce)(b:Int):Int × Sm:=
 if (cj M L n cV).2=6 then (6,M) else if cE b=false then (1,M) else if b=0 then (1,M) else if (cj M L n cV).2≠0 then ((cj M L n cV).2,M) else if (EU (cj M L n cV).1).2=false then (12,M) else c8 M L (EU (cj M L n cV).1).1 b
def fu(M:Sm)(L:List (Option cM))(n:Int)(cV:Ce):(Int × Int) × Sm:=
 if (cj M L n cV).2≠0 then ((0,(cj M L n cV).2),M) else if (c8 M L (cj M L n cV).1.1 0).1≠0 then ((0,(c8 M L (cj M L n cV).1.1 0).1),(c8 M L (cj M L n cV).1.1 0).2) else (((cj M L n cV).1.2.1,0),(c8 M L (cj M L n cV).1.1 0).2)
section
variable {F F':Nat->Prop} {w w':World} {g s o t:Nat} {M M':Sm} {occ:Value} {L:List (Option cM)}
def gJ.aW{k:Nat}(h:EF F w g s o t M occ L){w0:World}(x:Ext w w0)(hk:w.heap.size<=k)(Ts:k<w0)(h0:∀i,F i->i<w.heap.size){M':Sm}{occ':Value}{L':List (Option cM)}(r:gJ F w0 g s o t M' occ' L' w'):w'.heap[k]? =w0.heap[k]? :=by obtain ⟨F',-,h2⟩:=r;exact h2.mod.same _ Ts λq=>by have:=h0 _ q;omega
def Q1(h:EF F w g s o t M occ L){m:Int}(hL:qB m L)(hm:m<=99970000000000)(n:Int)(cV:Ce)(b:Int)(hk:sO M 800000):
  ae 55 #[g,n,eg cV,b] w λe w'=>e=Value.int .i64 (gg M L n cV b).1/\gJ F w g s o t (gg M L n cV b).2 occ L w':=by
 apply wT.vc;intro w0 e0;have x0:=aQ e0;have z0:=zA e0;refine (CZ (h.ext x0) hL hm n cV).mono ?_;rintro e w1 ⟨rfl,x1⟩;have z1:=x1.size;refine ⟨_,_,_,_,_,_,_,rfl,x1.heap aa,λw9 e9 bo wO=> ?_⟩;have bE:Ext w1 bo:=(aQ e9).ab wO (ak _);have XB:bo.heap.size=w1.heap.size+1:=by rw [zR wO,zA e9]
 have qt:=x0.tr (x1.tr bE);unfold gg;refine Br.mk (λh6=> ?_) (λh6=>(iu b bo).mono ?_)
 ·rw [if_pos (by simpa using h6)];have h6:=cS h6;rw [h6];exact ⟨rfl,h.res qt⟩
 rw [if_neg (by simpa using h6)];rintro e bw ⟨rfl,bK⟩;have z11:=bK.size;have abK:=qt.tr bK;refine ⟨_,rfl,bK.heap aa,bK.heap aa,Br.mk (λhb=> ?_) (λhb=>Br.mk (λF7=> ?_) (λF7=>Br.mk (λhn=> ?_) (λhn=> ?_)))⟩
 ·rw [if_pos (by simpa using hb)];exact ⟨rfl,h.res abK⟩
 ·rw [if_neg (by simpa using hb),if_pos (by simpa using F7)];exact ⟨rfl,h.res abK⟩
 ·rw [if_neg (by simpa using hb),if_neg (by simpa using F7),if_pos (by simpa using hn)];exact ⟨rfl,h.res abK⟩
 rw [if_neg (by simpa using hb),if_neg (by simpa using F7),if_neg (by simpa using hn)];have Jk:=cS hn;obtain ⟨Ov,VM⟩:=wA hL hm Jk;refine (R0 (cj M L n cV).1 (Ov.wide aA) bw).mono ?_;rintro e bP ⟨rfl,cR⟩;have z13:=cR.size;refine ⟨_,_,_,_,rfl,cR.heap aa,cR.heap aa,λdI e18 fK e19=> ?_⟩;have db:Ext bP fK:=(aQ e18).ab e19 (ak _);have z19:fK.heap.size=bP.heap.size+1:=by rw [zR e19,zA e18]
 have I9:=abK.tr (cR.tr db);apply Br.mk<;>intro hq
 ·rw [if_pos (by simpa using hq)];exact ⟨rfl,h.res I9⟩
 rw [if_neg (by simpa using hq)];refine (yP (h.ext I9) hL (EU (cj M L n cV).1).1 (VM.wide aA) b hk).mono ?_;rintro e fx ⟨rfl,r⟩;have hh:∀i,F i->i<w.heap.size:=λi=>h.lt
 exact ⟨_,rfl,gJ.aW h I9 aa aa hh r,gJ.aW h I9 aa aa hh r,gJ.aW h I9 aa aa hh r,rfl,gJ.aC I9 r⟩
def Q2(h:EF F w g s o t M occ L){m:Int}(hL:qB m L)(hm:m<=99970000000000)(n:Int)(cV:Ce)(hk:sO M 800000):
  ae 33 #[g,n,eg cV] w λe w'=>e=Value.tuple #[.int .i64 (fu M L n cV).1.1,.int .i64 (fu M L n cV).1.2]/\gJ F w g s o t (fu M L n cV).2 occ L w':=by
 apply wU.vc;intro w0 e0;have x0:=aQ e0;have z0:=zA e0;refine (CZ (h.ext x0) hL hm n cV).mono ?_;rintro e w1 ⟨rfl,x1⟩;have z1:=x1.size;refine ⟨_,_,_,_,_,_,_,rfl,x1.heap aa,λw9 e9 bo wO=> ?_⟩;have bE:Ext w1 bo:=(aQ e9).ab wO (ak _);have XB:bo.heap.size=w1.heap.size+1:=by rw [zR wO,zA e9]
 have qt:=x0.tr (x1.tr bE);unfold fu;refine Br.mk (λh0=> ?_) (λh0=>yes (by simpa using h0) ?_)
 ·have Jk:=cS h0;rw [if_neg (by simp [Jk])];obtain ⟨Ov,-⟩:=wA hL hm Jk;refine (yP (h.ext qt) hL (cj M L n cV).1.1 (Ov.wide aA) 0 hk).mono ?_;rintro e bw ⟨rfl,r⟩;have hh:∀i,F i->i<w.heap.size:=λi=>h.lt
  refine ⟨_,rfl,gJ.aW h qt aa aa hh r,gJ.aW h qt aa aa hh r,Br.mk (λhq=> ?_) (λhq=> ?_)⟩
  ·rw [if_pos (by simpa using hq)];exact ⟨rfl,gJ.aC qt r⟩
  ·rw [if_neg (by simpa using hq)];exact ⟨rfl,gJ.aC qt r⟩
 ·rw [if_pos (by simpa using h0)];exact ⟨rfl,h.res qt⟩
end
def mF(M:Sm)(L:List (Option cM))(i:Nat):Bool:=match bC L i with|some y=>pP M y.1|none=>false
def fg(M:Sm)(L:List (Option cM)):List Nat:=(List.range 16).filter (mF M L)
def lT(M:Sm)(L:List (Option cM))(i:Nat):dw:=match bC L i with|some y=>su (gz M.T.2) y.1 y.2|none=>Py
def sm(M:Sm)(L:List (Option cM)):List dw:=re (gz M.T.2) ((fg M L).map (lT M L))
def vp(L:List (Option cM))(i:Nat)(b:dw):List (Option cM):=match bC L i with|some y=>L.set i (some (b,y.2))|none=>L
def AP(L:List (Option cM))(l:List (Nat × dw)):List (Option cM):=l.foldl (λL x=>vp L x.1 x.2) L
def kD(M:Sm)(L:List (Option cM)):List (Option cM):=AP L ((fg M L).zip (sm M L))
def jH(M:Sm)(L:List (Option cM)):Sm × List (Option cM):=(AZ (mE (kD M L)) M,kD M L)
abbrev tLp:TypeId:=53
def aqc(p:Option Addr):One [.pointer p]:=by intro u hu;simp at hu;subst hu;rfl
def AQ{L:List (Option cM)}{i:Nat}{y:cM}(h:bC L i=some y):some y ∈ L:=by unfold bC at h;rw [if_pos aa,dQ] at h;exact aO (Hw.1 h)
def vq{M:Sm}{L:List (Option cM)}{i:Nat}(h:i ∈ fg M L):i<16/\∃y,bC L i=some y:=by
 unfold fg at h;obtain ⟨h1,h2⟩:=ju.1 h;refine ⟨nQ.1 h1,?_⟩;unfold mF at h2
 cases hq:bC L i with
 |none=>rw [hq] at h2;cases h2
 |some y=>exact ⟨y,rfl⟩
def aeT{L:List (Option cM)}{i j:Nat}{b:dw}:(bC (vp L i b) j).isSome=(bC L j).isSome:=by
 unfold vp
 cases hq:bC L i with
 |none=>rfl
 |some y=>
  simp only;unfold bC at hq ⊢;rw [if_pos aa,dQ] at hq ⊢;rw [if_pos aa];by_cases e:i=j
  ·subst e;have hq:=Hw.1 hq;rw [oM (bZ.1 hq).1,hq];rfl
  ·rw [xK e]
def KT{j:Nat}:∀(l:List (Nat × dw))(L:List (Option cM)),(bC (AP L l) j).isSome=(bC L j).isSome
 | [],L=>rfl
 |x::l,L=>(KT l (vp L x.1 x.2)).trans aeT
def ame{L:List (Option cM)}{i:Nat}{b:dw}{m:Int}(h:qB m L)(hb:okB m b):qB m (vp L i b):=by
 unfold vp
 cases hq:bC L i with
 |none=>exact h
 |some y=>
  intro z hz;rcases iV hz with hz|hz
  ·exact h z hz
  ·cases hz
   exact hb
def FM{m:Int}:∀(l:List (Nat × dw)) {L:List (Option cM)},qB m L->(∀x ∈ l,okB m x.2)->qB m (AP L l)
 | [],L,h,_=>h
 |x::l,L,h,hl=>FM l (ame h (hl x bg)) λy hy=>hl y (by simp [hy])
def FL(M:Sm)(L:List (Option cM)):(fg M L).length<=16:=by have:=Au (mF M L) (List.range 16);rw [DT] at this;exact this
def Hn{M:Sm}{L:List (Option cM)}{m:Int}(h:qB m L)(hm:m<=99970000000000):∀b ∈(fg M L).map (lT M L),okB (m+16777216) b:=by intro b hb;obtain ⟨i,hi,rfl⟩:=aU.1 hb;obtain ⟨-,y,hy⟩:=vq hi;unfold lT;rw [hy];exact W2 (h y (AQ hy)) hm
section
variable {F F':Nat->Prop} {w w':World} {g s o t:Nat} {M M':Sm} {occ:Value} {L:List (Option cM)}
def EL.awg{av:List (Option Nat)}(he:EL w av L){k b:Nat}(ha:av[k]? =some (some b)){y:cM}(hy:bC L k=some y)(x:dw){w':World}(hr:Row w' b (G8 (x,y.2)) jF)(hs:∀a,some a ∈ av->a≠b->w'.heap[a]? =w.heap[a]?):EL w' av (vp L k x):=by
 have e:vp L k x=L.set k (some (x,y.2)):=by unfold vp;rw [hy]
 rw [e];exact he.put ha hr hs
def EL.full{av:List (Option Nat)}(he:EL w av L){k:Nat}{y:cM}(hk:k<16)(hy:bC L k=some y):∃b,av[k]? =some (some b)/\Row w b (G8 y) jF:=by
 obtain ⟨a,ha⟩:=bq (l:=av) (i:=k) (by rw [he.n];exact hk)
 cases a with
 |none=>rw [he.at0 ha] at hy;cases hy
 |some b=>
  obtain ⟨z,h1,-,h3⟩:=he.at ha;rw [h1] at hy
  cases hy
  exact ⟨b,ha,h3⟩
def SF.oc{Fs:Nat->Prop}(h2:SF Fs w s o t M occ){p:Value}{av:List (Option Nat)}(h1:Row w g (p::av.map pA) rZ)(h3:EL w av L){m:Int}(hL:qB m L):Oc (.func (.func 66) #[g] #[]) (mE L) Fs w:=by
 have ng:¬Fs g:=h2.jf h1 lA.1.1 lA.1.2.1 lA.1.2.2.1 lA.1.2.2.2.1 lA.1.2.2.2.2.1 lA.1.2.2.2.2.2.1 lA.1.2.2.2.2.2.2;have na:∀a,some a ∈ av->¬Fs a:=λa ha=>by obtain ⟨i,hi⟩:=pS ha;obtain ⟨x,-,hr⟩:=h3.s i a hi;exact h2.jf hr lA.2.1.1 lA.2.1.2.1 lA.2.1.2.2.1 lA.2.1.2.2.2.1 lA.2.1.2.2.2.2.1 lA.2.1.2.2.2.2.2.1 lA.2.1.2.2.2.2.2.2
 refine ⟨λi=>i=g\/some i ∈ av,λi hi=> ?_,λw' hk c _=>cH (by kernel_rfl) rfl (KQ (h1.same (hk _ (.inl rfl))) (h3.same λa ha=>hk a (.inr ha)) hL c)⟩;rcases hi with rfl|hi
 ·exact ⟨h1.lt,ng⟩
 ·exact ⟨h3.lt hi,na i hi⟩
end
section
variable {F F':Nat->Prop} {w w':World} {g s o t:Nat} {M M':Sm} {occ:Value} {L:List (Option cM)}
abbrev Qd(M:Sm)(L:List (Option cM))(j:Nat):List (Option cM):=AP L (((fg M L).zip (sm M L)).take j)
def YU{j:Nat}{i:Nat}{b:dw}(hi:(fg M L)[j]? =some i)(hb:(sm M L)[j]? =some b):Qd M L (j+1)=vp (Qd M L j) i b:=by
 have e:((fg M L).zip (sm M L))[j]? =some (i,b):=by rw [List.getElem?_zip_eq_some];exact ⟨hi,hb⟩
 unfold Qd AP;rw [dy,e,pW];rfl
def adi(h:(sm M L).length=(fg M L).length):Qd M L (fg M L).length=kD M L:=by unfold Qd kD;rw [fl (by rw [List.length_zip,h];omega)]
def YV(h:EF F w g s o t M occ L){m:Int}(hL:qB m L)(hm0:0<=m)(hm:m<=99900000000000)(hd:KS (pc M))(hk:sO M 600000)(anK:1<=M.dD/\M.dD<=64):
  ae 64 #[g] w λe w'=>e=Value.int .i64 (pc M).length/\gJ F w g s o t (jH M L).1 (.func (.func 66) #[g] #[]) (jH M L).2 w'/\qB (m+3300000000) (jH M L).2:=by
 apply yy.vc;obtain ⟨av,c9,kq,hFg,hFa,bf⟩:=h.row;have ko:ah w (af (aD g) 1) 0 (av.map pA):=by rw [aV];exact c9.bI λj hj=>by rw [show 0+1+j=j+1 from by omega,DS]
 obtain ⟨b0,b1,b2,b3,b4,b5,b6,b7,b8,b9,b10,b11,b12,Oi,b14,Te,hav⟩:=WU kq.n;have eI:∀k:Nat,k<16->∃a:Option Nat,(([b0,b1,b2,b3,b4,b5,b6,b7,b8,b9,b10,b11,b12,Oi,b14,Te]:List (Option Nat)).map pA)[((k:Nat):Int).toNat*1]? =some (pA a)/\av[k]? =some a:=λk hk=>by obtain ⟨a,ha⟩:=bq (l:=av) (i:=k) (by rw [kq.n];exact hk);exact ⟨a,by rw [<-hav,dQ,As,aS,ha];rfl,ha⟩
 rw [hav] at ko;have atk:∀i:Nat,i ∈ fg M L->∃b y,av[i]? =some (some b)/\bC L i=some y/\Row w b (G8 y) jF:=λi hi=>by obtain ⟨h1,y,hy⟩:=vq hi;obtain ⟨b,h2,h3⟩:=kq.full h1 hy;exact ⟨b,y,h2,hy,h3⟩
 have hwl:=FL M L
 let ptr:Nat->LV:=λi=> [pA (av.getD i none)]
 have ptr_eq:∀{i:Nat} {a:Option Nat},av[i]? =some a->ptr i=[pA a]:=λ{i a} ha=>by show [pA (av.getD i none)]=_;rw [dO,ha];rfl
 refine ⟨_,_,_,_,_,_,_,_,_,_,_,_,_,_,_,_,ko,λn x sl wr=>∃k:Nat,x=k/\k+n=16/\ar w tLp 1 wr sl (((List.range k).filter (mF M L)).map ptr)/\Ext w wr,⟨16,0,rfl,rfl,ar.nil,Ext.cG _⟩,?_⟩;rintro n us x sl wr ⟨k,rfl,hk',ho,xr⟩;have zr:=xr.size;apply Br.mk<;>intro hb
 ·have hb:=cS hb;obtain ⟨a,ha,ha'⟩:=eI k aa;have wk:=ov (j:=k);have dp:sl.n<=16:=by have h1:=(ho.rd (show 0<1 by decide)).n;have h2:=Au (mF M L) (List.range k);rw [aL] at h1;rw [DT] at h2;omega
  have skip:mF M L k=false->∀{u:World},Ext wr u->∃SW,SW<n/\∃k':Nat,aw ((k:Int)+1)=k'/\k'+SW=16/\ar w tLp 1 u ⟨sl.a,sl.n,sl.c⟩ (((List.range k').filter (mF M L)).map ptr)/\Ext w u:=λhq {u} xu=>by refine ⟨n-1,aa,k+1,wk,aa,?_,xr.tr xu⟩;rw [DU,tV,bJ,Px (by rw [hq];decide)];simpa using ho.ext xu
  refine ⟨⟨aa,aa⟩,_,ha,?_⟩
  cases a with
  |none=>
   refine gd rfl (skip ?_ (Ext.cG _));unfold mF;rw [kq.at0 ha']
  |some b=>
   obtain ⟨y,hy,fw,hrb⟩:=kq.at ha';refine yes rfl (iS rfl (iS rfl ⟨_,_,_,_,_,_,_,_,_,adj (hrb.ext xr),(DP (h.ext xr) y.1).mono ?_⟩));rintro e fL ⟨rfl,fD⟩;have z33:=fD.size;have hwake:mF M L k=pP M y.1:=by unfold mF;rw [hy]
   refine ⟨_,rfl,Br.mk (λhq=>λgT e35=> ?_) (λhq=>skip (by rw [hwake];exact hq) fD)⟩;subst e35;obtain ⟨J7,hres8⟩:=(ho.ext fD).j9 (bytes:=8) (news:=[pA (some b)]) (.cells #[pA (some b)] tLp) aa rfl (aqc _) aa aa;refine ⟨J7,λs36 iR ayE=> ?_⟩;obtain ⟨f8,FW,hn8,x8,LX,-⟩:=hres8 s36 iR ayE;refine ⟨f8,n-1,aa,k+1,wk,aa,?_,(Below.trans (xr.tr fD) x8:Below w w iR)⟩;rw [DU,tV,bJ,Pu (by rw [hwake];exact hq)];show ar _ _ _ _ _ (_++ [ptr k]);rw [ptr_eq ha'];exact FW
 have hb:=cS hb;have xk:k=16:=by omega
 subst xk;replace ho:ar w tLp 1 wr sl ((fg M L).map ptr):=ho;have uT:sl.n=(fg M L).length:=by rw [(ho.rd (show 0<1 by decide)).n,aL]
 have slk:∀b,sl.aZ=some b->w.heap.size<=b/\b<wr.heap.size:=λb hb=>ho.own.lt hb
 refine ⟨λn x s2 jW=>∃j:Nat,x=j/\j+n=(fg M L).length/\ar wr BV 9 jW s2 ((((fg M L).take j).map (lT M L)).map kc)/\Ext wr jW,⟨(fg M L).length,0,rfl,aa,ar.nil,Ext.cG _⟩,?_⟩;rintro n2 zF x s2 jW ⟨j,rfl,hj,Jl,zp⟩;have z43:=zp.size;apply Br.mk<;>intro hb
 ·have hb:=cS hb;have hjw:j<(fg M L).length:=by omega
  obtain ⟨i,hi⟩:=bq (l:=fg M L) (i:=j) hjw;obtain ⟨b,y,hab,hy,hrb⟩:=atk i (aO hi);have IU:=(ho.ext zp).rd (show 0<1 by decide);have xi:((fg M L).map ptr)[j]? =some [pA (some b)]:=by rw [aS,hi];exact congrArg some (ptr_eq hab)
  have N5:Vc.ld jW (af sl.a ((j:Int).toNat*1))=some (pA (some b)):=by have:=IU.at xi (j:=0) (v:=pA (some b)) rfl;rw [dn] at this;exact this
  have xd:=Ext.dr jW;have hbdL:∀{u:World},Ext jW u->ah u (af (aD b) 0) 0 (kc y.1):=λxu=>adj (hrb.ext (xr.tr (zp.tr xu)))
  have hinL:∀{u:World},Ext jW u->ah u (af (aD b) 9) 0 [.int .i64 y.2.1,.int .i64 y.2.2.1,.bool y.2.2.2]:=λxu=>aqd (hrb.ext (xr.tr (zp.tr xu)))
  refine ⟨IU.jd aA aa aa,_,N5,iS rfl (iS rfl ⟨_,_,_,_,_,_,_,_,_,hbdL xd,iS rfl (iS rfl ⟨_,_,_,hinL xd,(mR (h.ext (xr.tr (zp.tr xd)))).mono ?_⟩)⟩)⟩;rintro e Er ⟨rfl,ayG⟩;subst ayG;have oky:=hL y (AQ hy);refine ⟨_,rfl,hinL xd,hbdL xd,(Hl (h.ext (xr.tr (zp.tr xd))).tl rfl y.1 oky.wdi oky.2.2.2 (oky.Co aa) aa y.2).mono ?_⟩;rintro e oU ⟨rfl,oo⟩;have z60:=oo.size;have zd:=m7 jW;refine ⟨_,_,_,_,_,_,_,_,_,rfl,λqD e70=> ?_⟩;subst e70;have dp:s2.n<=16:=by have h1:=(Jl.rd (show 0<9 by decide)).n;rw [aL,aL,cY] at h1;omega
  obtain ⟨J7,hres8⟩:=(Jl.ext (xd.tr oo)).j9 (bytes:=72) (news:=kc (su (gz M.T.2) y.1 y.2)) (.cells (kc (su (gz M.T.2) y.1 y.2)).toArray BV) aa rfl (CB _) aa aa;refine ⟨J7,λs71 w72 ayH=> ?_⟩;obtain ⟨f8,FW,hn8,x8,LX,-⟩:=hres8 s71 w72 ayH;have wk:=ov (j:=j);refine ⟨f8,n2-1,aa,j+1,wk,aa,?_,(Below.trans (zp.tr (xd.tr oo)) x8:Below wr wr w72)⟩;rw [dy,hi,bJ,bJ];have e1:lT M L i=su (gz M.T.2) y.1 y.2:=by unfold lT;rw [hy]
  show ar _ _ _ _ _ (_++ [kc (lT M L i)]);rw [e1];exact FW
 have hb:=cS hb;have hjw:j=(fg M L).length:=by omega
 subst hjw;rw [jg] at Jl;have h43:=h.ext (xr.tr zp);refine (mR h43).mono ?_;rintro e IN ⟨rfl,ayI⟩;subst ayI;refine ⟨_,rfl,(Hm h43.tl rfl Jl (by rw [aL];exact hwl) (Hn hL aa) aa aa).mono ?_⟩;rintro e rC ⟨s76,rfl,afQ,Fk,bc,XJ⟩;rw [aL] at XJ;replace afQ:ar IN BV 9 rC s76 ((sm M L).map kc):=afQ;replace XJ:(sm M L).length=(fg M L).length:=XJ;replace bc:∀b ∈ sm M L,okB (m+16777216+16*16*12582912) b:=bc;have z75:=Fk.size;have s76k:∀b,s76.aZ=some b->IN.heap.size<=b/\b<rC.heap.size:=λb hb=>afQ.own.lt hb
 have aGe:s76.n=(fg M L).length:=by rw [(afQ.rd (show 0<9 by decide)).n,aL,XJ]
 have afR:=xr.tr (zp.tr Fk);have avlt:∀a,some a ∈ av->a<w.heap.size:=λa ha=>kq.lt ha
 have hZ:∀a,some a ∈ av->a≠g:=λa ha q=>by subst q;obtain ⟨i,hi⟩:=pS ha;obtain ⟨x,-,hr⟩:=kq.s i a hi;exact c9.ne hr lA.2.2 rfl
 refine ⟨s76,rfl,λn x xq=>∃j:Nat,x=j/\j+n=(fg M L).length/\EL xq av (Qd M L j)/\Mod (λi=>some i ∈ av) rC xq,⟨(fg M L).length,0,rfl,aa,(kq.same λa ha=>afR.heap (kq.lt ha)),Mod.refl _ _⟩,?_⟩;rintro n3 us3 x xq ⟨j,rfl,hj,aiX,m81⟩;have z81:=m81.size;apply Br.mk<;>intro hb
 ·have hb:=cS hb;have hjw:j<(fg M L).length:=by omega
  obtain ⟨i,hi⟩:=bq (l:=fg M L) (i:=j) hjw;obtain ⟨x,hx⟩:=bq (l:=sm M L) (i:=j) aa;obtain ⟨b,y0,hab,hy0,-⟩:=atk i (aO hi);have IV:=(vq (aO hi)).1;obtain ⟨y,hy⟩:∃y,bC (Qd M L j) i=some y:=by
   have:=KT (j:=i) (((fg M L).zip (sm M L)).take j) L;rw [hy0] at this
   cases hq:bC (Qd M L j) i with
   |none=>rw [hq] at this;cases this
   |some y=>exact ⟨y,rfl⟩
  obtain ⟨b',arO,hrb⟩:=aiX.full IV hy;rw [hab] at arO
  cases arO
  have hrd76:=(m81.gU afQ λb hb hq=>by have:=s76k b hb;have:=avlt b hq;omega).rd (show 0<9 by decide);have hrx:((sm M L).map kc)[j]? =some (kc x):=by rw [aS,hx];rfl
  refine ⟨hrd76.jd aA aa aa,_,_,_,_,_,_,_,_,_,hrd76.bI hrx,λKg e92 L3 e93=> ?_⟩;have Ep:Ext xq L3:=(aQ e92).ab e93 (ak _);have z93:L3.heap.size=xq.heap.size+1:=by rw [zR e93,zA e92]
  have xd:=Ep.tr (Ext.dr L3);have IU:=(((m81.gU ((ho.ext zp).ext Fk) λb hb hq=>by have:=slk b hb;have:=avlt b hq;omega).ext Ep).ext (Ext.dr L3)).rd (show 0<1 by decide);have xi:((fg M L).map ptr)[j]? =some [pA (some b)]:=by rw [aS,hi];exact congrArg some (ptr_eq hab)
  have N5:Vc.ld L3.drew (af sl.a ((j:Int).toNat*1))=some (pA (some b)):=by have:=IU.at xi (j:=0) (v:=pA (some b)) rfl;rw [dn] at this;exact this
  have aGg:=avlt b (aO hab);have hwz:=afR.size;obtain ⟨p1,p2⟩:=nM (hrb.ext xd) (off:=0) (vs:=kc x) (by show 0+9<=12;decide) (CB x);refine ⟨IU.jd aA aa aa,_,N5,iS rfl (iS rfl ⟨⟨rfl,p1⟩,?_,λw95 e95=> ?_⟩)⟩
  ·intro q;have q:some b=some xq.heap.size:=q;have q:b=xq.heap.size:=Option.some.inj q;omega
  obtain ⟨q1,q2⟩:=p2 w95 e95;have q1:Row w95 b (G8 (x,y.2)) jF:=q1;have wk:=ov (j:=j);refine ⟨n3-1,aa,j+1,wk,aa,?_,m81.trans ((Mod.aC xd).trans (q2.mono λi _ hi=>by rw [hi];exact aO hab))⟩;rw [YU hi hx];refine aiX.awg hab hy x q1 λa ha hn=> ?_
  have:=avlt a ha;exact (q2.same a (by have:=xd.size;omega) hn).trans (xd.heap aa)
 have hb:=cS hb;have hjw:j=(fg M L).length:=by omega
 subst hjw;rw [adi XJ] at aiX;have ayJ:Mod (λi=>i=g\/some i ∈ av) w xq:=(Mod.aC afR).trans (m81.mono λi _ hi=> .inr hi);obtain ⟨F81,h81,t81⟩:=bf ayJ (c9.ext afR|>.same (m81.same _ (by have:=afR.size;have:=c9.lt;omega) λq=>hZ g q rfl)) aiX λa ha=> .inl ha
 have hok2:qB (m+3300000000) (kD M L):=FM _ (hL.up aa) λx hx=>(bc x.2 (List.of_mem_zip hx).2).up aa
 obtain ⟨Fs,hs,ko,fa,hresS⟩:=h81.xz;refine ⟨_,ko,(AR hs (.func 66) #[g] #[]).mono ?_⟩;rintro e w97 ⟨rfl,hr,-⟩;refine ⟨rfl,?_⟩;obtain ⟨F97,h97,t97⟩:=hresS hr;obtain ⟨Fs2,Eu,hld2,hsub2,hresS2⟩:=h97.xz;obtain ⟨av2,hrow2,hel2,-,-,-⟩:=h97.row;refine ⟨_,hld2,(KU Eu (Eu.oc hrow2 hel2 hok2) hd hk anK).mono ?_⟩;rintro e Jh ⟨rfl,oS⟩;obtain ⟨F99,h99,t99⟩:=hresS2 oS;exact ⟨_,rfl,rfl,⟨F99,h99,t81.trans (t97.trans t99)⟩,hok2⟩
end
structure Ap(B:Nat)(w0:World)(s0:Sl)(w:World)(s:Sl)(b:List Int):Prop where
 own:mh B w s b
 bel:Below B w0 w
 Lg:∀j,s0.aZ≠some j->j<w0.heap.size->w.heap[j]? =w0.heap[j]?
 aZ:∀j,s.aZ=some j->s0.aZ=some j\/w0.heap.size<=j
 low:B<=w0
def Ap.refl{B:Nat}{w:World}{s:Sl}{b:List Int}(h:mh B w s b)(hB:B<=w):Ap B w s w s b:=⟨h,Below.refl _ _,λ_ _ _=>rfl,λ_ hj=> .inl hj,hB⟩
def Ap.ext{B:Nat}{w0 w u:World}{s0 s:Sl}{b:List Int}(h:Ap B w0 s0 w s b)(x:Ext w u):Ap B w0 s0 u s b:=
 ⟨h.own.ext x,Below.trans h.bel (Below.mono x (gG h.low h.bel.size)),λj hj hl=>(x.heap (kr hl h.bel.size)).trans (h.Lg j hj hl),h.aZ,h.low⟩
def Ap.n{B:Nat}{w0 w:World}{s0 s:Sl}{b:List Int}(h:Ap B w0 s0 w s b):s.n=b.length:=by rw [(h.own.rd aA).n,aL]
def Ap.app{B:Nat}{w0 w:World}{s0 s:Sl}{b:List Int}(h:Ap B w0 s0 w s b)(news:List Int)(hl:b.length+news.length<=1000000):
  ba 1 1 w s news.length (news.map yv).flatten/\∀s' w',aX je 1 w s news.length (news.map yv).flatten s' w'->Ap B w0 s0 w' s' (b++news)/\(∀j,s.aZ≠some j->j<w.heap.size->w'.heap[j]? =w.heap[j]?)/\(s'.aZ=s.aZ\/s'.aZ=some w.heap.size)/\w.heap.size<=w'.heap.size:=by
 have hn:=h.n;have hlm:(news.map yv).length=news.length:=aL ..;have hB:B<=w:=gG h.low h.bel.size;obtain ⟨hp,hr⟩:=h.own.Jq (bytes:=1) (more:=news.map yv) hB (λr hr=>by obtain ⟨x,-,rfl⟩:=aU.1 hr;rfl) (λr hr=>by obtain ⟨x,-,rfl⟩:=aU.1 hr;exact vd _ _) aa aa;rw [hlm] at hp hr;refine ⟨hp,λs' w' bf=> ?_⟩;obtain ⟨h1,h2,h3,h4,h5⟩:=hr s' w' bf;have hz:=h3.size;have hz0:=h.bel.size;refine ⟨⟨by show ar _ _ _ _ _ ((b++news).map yv);rw [bJ];exact h1,Below.trans h.bel h3,λj hj hl=> ?_,λj hj=> ?_,h.low⟩,h4,h5,h3.size⟩
 ·have:s.aZ≠some j:=λe=>by
   rcases h.aZ j e with q|q
   ·exact hj q
   ·omega
  exact (h4 j this aa).trans (h.Lg j hj hl)
 ·rcases h5 with q|q
  ·exact h.aZ j (by rw [<-q];exact hj)
  ·rw [q] at hj;injection hj with hj;exact .inr aa
def Ap.ne{B:Nat}{w0 w:World}{s0 s:Sl}{b:List Int}(h:Ap B w0 s0 w s b){j:Nat}(hj:w.heap.size<=j):s.aZ≠some j:=λe=>by have:=(h.own.own.lt e).2;omega
def Ap.j9{B:Nat}{w0 w v:World}{s0 s:Sl}{b:List Int}(h:Ap B w0 s0 w s b)(news:List Int)(hl:b.length+news.length<=1000000){o:Obj}(e:v=w.alloc o):
  ba 1 1 v s news.length (news.map yv).flatten/\∀s' w',aX je 1 v s news.length (news.map yv).flatten s' w'->Ap B w0 s0 w' s' (b++news)/\w'.heap[w.heap.size]? =v.heap[w.heap.size]?/\(∀j,s.aZ≠some j->j<v.heap.size->w'.heap[j]? =v.heap[j]?)/\(s'.aZ=s.aZ\/s'.aZ=some v.heap.size)/\v.heap.size<=w'.heap.size:=by
 obtain ⟨hp,hr⟩:=(h.ext (aQ e)).app news hl;have z:=zA e;refine ⟨hp,λs' w' bf=> ?_⟩;obtain ⟨h1,h2,h3,h4⟩:=hr s' w' bf;exact ⟨h1,h2 _ (h.ne (ak _)) aa,h2,h3,h4⟩
def eX{s s':Sl}{n j:Nat}(hb:s'.aZ=s.aZ\/s'.aZ=some n)(h1:s.aZ≠some j)(h2:n≠j):s'.aZ≠some j:=λe=>by
 rcases hb with q|q
 ·exact h1 (q.symm.trans e)
 ·rw [q] at e
  injection e with e
  exact h2 e
def Ap.off{B:Nat}{w0 w:World}{s0 s:Sl}{b:List Int}(h:Ap B w0 s0 w s b){j:Nat}(hj:s0.aZ≠some j)(hl:j<w0):s.aZ≠some j:=λe=>by
 rcases h.aZ j e with q|q
 ·exact hj q
 ·omega
def Ap.trans{B:Nat}{w0 w w':World}{s0 s s':Sl}{b b':List Int}(h:Ap B w0 s0 w s b)(k:Ap B w s w' s' b'):Ap B w0 s0 w' s' b':=
 ⟨k.own,Below.trans h.bel k.bel,λj hj hl=>(k.Lg j (h.off hj hl) (kr hl h.bel.size)).trans (h.Lg j hj hl),λj hj=>(k.aZ j hj).elim (λq=>h.aZ j q) λq=> .inr (gG h.bel.size q),h.low⟩
def rdI{w v:World}{l:List Int}{o:TypeId}(e:v=w.alloc (.cells (l.map (Value.int .i64)).toArray o)):RdK v ⟨aD w.heap.size,l.length,l.length⟩ 1 (l.map iv):=by
 have hr:Row v w (l.map (Value.int .i64)) o:=by rw [e];exact Row.new w _ _
 have hf:∀l:List Int,(l.map iv).flatten=l.map (Value.int .i64):=λl=>by
  induction l with
  |nil=>rfl
  |cons a l ih=>rw [eQ,jC,ih];rfl
 exact (ar.jA (B:=0) (k:=1) (gV _) hr (by rw [aL];omega) (ak _) (by rw [hf,fl (by rw [aL];omega)]) λr hr=>by obtain ⟨x,-,rfl⟩:=aU.1 hr;rfl).rd aA
def JQ(n:Int):Nat->Int
 |0=>n / 1099511627776 % 256
 |1=>n / 4294967296 % 256
 |2=>n / 16777216 % 256
 |3=>n / 65536 % 256
 |4=>n / 256 % 256
 |_=>n % 256
def jb(n:Int):List Int:=(List.range 6).map (JQ n)
def my(l:List Int):List Int:=(l.map jb).flatten
def pX(n:Int):(jb n).length=6:=rfl
def sy(l:List Int):(my l).length=6*l.length:=by
 unfold my
 induction l with
 |nil=>rfl
 |cons a l ih=>rw [eQ,jC,bQ,ih,pX,bR];omega
def Lh{l:List Int}{k:Nat}{n:Int}(h:l[k]? =some n):my (l.take (k+1))=my (l.take k)++jb n:=by unfold my;rw [dy,h,bJ,DA];simp
def adK(n:Int)(q:Nat):0<=JQ n q/\JQ n q<256:=by unfold JQ;split<;>omega
def Li{α:Type}(f:Nat->α)(q:Nat):(List.range (q+1)).map f=(List.range q).map f++ [f q]:=by rw [DU,bJ];rfl
def ahK(n:Int)(q:Nat)(hq:q<6):jn (n.fdiv (2 ^(min (aw (8*(5-(q:Int)))).toNat 64)))=JQ n q:=by
 rw [wrap_u8];have:q=0\/q=1\/q=2\/q=3\/q=4\/q=5:=by omega
 rcases this with rfl|rfl|rfl|rfl|rfl|rfl
 all_goals
  rw [ud _ aA]
 ·show n / 1099511627776 % 256=_;rfl
 ·show n / 4294967296 % 256=_;rfl
 ·show n / 16777216 % 256=_;rfl
 ·show n / 65536 % 256=_;rfl
 ·show n / 256 % 256=_;rfl
 ·show n / 1 % 256=_;rw [Int.ediv_one];rfl
def sB{B:Nat}{w:World}{s:Sl}{b:List Int}(h:mh B w s b)(hB:B<=w){s1:Sl}{l:List Int}(hl:RdK w s1 1 (l.map iv))(hZ:l≠ []->∀j,s1.aZ=some j->s.aZ≠some j)(dp:b.length+6*l.length<=900000):
  ae 81 #[s,s1] w λe w'=>∃s':Sl,e=s'/\Ap B w s w' s' (b++my l):=by
 apply UK.vc;have Ov:s1.n=l.length:=by rw [hl.n,aL]
 refine ⟨λn x sl wr=>∃k:Nat,x=k/\k+n=l.length/\Ap B w s wr sl (b++my (l.take k)),⟨l.length,0,rfl,aa,by rw [DB];show Ap B w s w s (b++ []);rw [mA];exact Ap.refl h hB⟩,?_⟩;rintro n us x sl wr ⟨k,rfl,hk,ha⟩;apply Br.mk<;>intro hq
 ·have hq:=cS hq;have SY:k<l.length:=by omega
  obtain ⟨y,hy⟩:=bq SY;have azK:l≠ []:=λe=>by rw [e] at SY;exact absurd SY bg
  have jj:RdK wr s1 1 (l.map iv):=hl.ajP λhrn j hj=>ha.Lg j (hZ azK j hj) (hl.UG aA hrn hj)
  have hyi:(l.map iv)[k]? =some (iv y):=by rw [aS,hy];rfl
  have ko:=jj.at hyi (j:=0) (v:=.int .i64 y) rfl;rw [dn] at ko;have Tr:(my (l.take k)).length=6*k:=by rw [sy,cY];omega
  have wk:=ov (j:=k);refine ⟨jj.jd aA aa hq,y,ko,λn x pj bP=>∃q:Nat,x=5-(q:Int)/\q+n=6/\Ap B w s bP pj (b++my (l.take k)++(List.range q).map (JQ y)),⟨6,0,rfl,rfl,by simpa using ha⟩,?_⟩;rintro n9 abr x pj bP ⟨q,rfl,hq6,hA⟩;apply Br.mk<;>intro hc
  ·have hc:=cS hc;rw [ahK y q aa];refine bz.2 ⟨FB.2 (by rw [wI];omega),λee qu=> ?_⟩;obtain ⟨hp,hr⟩:=hA.j9 [JQ y q] (by simp only [bQ,aL,DT,Tr,bR,lV];omega) qu;refine ⟨hp,λs16 cL h17=> ?_⟩;obtain ⟨h1,h2,-⟩:=hr s16 cL h17;refine ⟨h2,n9-1,aa,q+1,by rw [wI];omega,aa,?_⟩;rw [Li,<-fz];exact h1
  ·have hc:=cS hc;have:q=6:=by omega
   subst this;refine ⟨n-1,aa,k+1,wk,aa,?_⟩;rw [Lh hy,<-fz];exact hA
 ·have hq:=cS hq;have:k=l.length:=by omega
  subst this;rw [jg] at ha;exact ⟨sl,rfl,ha⟩
def stB(b:Bool):Int:=if b then 1 else 0
abbrev lU(b:dw):List Int:=[b.aq.1,b.aq.2.1,b.aq.2.2,b.speed.1,b.speed.2.1,b.speed.2.2,b.wd,b.ht]
def iN(i:Int)(b:dw):List Int:=i::(my (lU b)++ [stB b.fG])
def DX(L:List (Option cM))(i:Int):List Int:=match bC L i with|some y=>iN i y.1|none=> []
def dT(L:List (Option cM))(l:List Int):List Int:=(l.map (DX L)).flatten
def eN(x:ej.It):List Int:=my [x.1,x.2.1,x.2.2.1,x.2.2.2]
def gl(l:List ej.It):List Int:=[((min l.length 2000:Nat):Int) / 256 % 256,((min l.length 2000:Nat):Int) % 256]++((l.take 2000).map eN).flatten
def dh(now:Int)(n:Nat):List Int:=jb now++ [(n:Int) % 256]
def cr(M:Sm)(L:List (Option cM)):List Int:=dh M.now (bn L).length++dT L (bn L)++gl M.q.l
def vu(L:List (Option cM)):(bn L).length<=16:=by unfold bn;rw [aL];have:=Au (λi:Nat=>(bC L (i:Nat)).isSome) (List.range 16);rw [DT] at this;exact this
def vv{L:List (Option cM)}{x:Int}(h:x ∈ bn L):∃i:Nat,x=i/\i<16/\∃y,bC L i=some y:=by unfold bn at h;obtain ⟨i,hi,rfl⟩:=aU.1 h;obtain ⟨h1,h2⟩:=ju.1 hi;exact ⟨i,rfl,nQ.1 h1,rL.1 h2⟩
def Ic(i:Int)(b:dw):(iN i b).length=50:=by unfold iN;rw [bR,bQ,sy];rfl
def tz(L:List (Option cM)):∀l:List Int,(dT L l).length<=50*l.length
 | []=>ak _
 |x::l=>by
  have:=tz L l
  unfold dT at this ⊢
  rw [eQ,jC,bQ,bR]
  have:(DX L x).length<=50:=by
   unfold DX;split
   ·rw [Ic];exact ak _
   ·exact gV _
  omega
def Eg(x:ej.It):(eN x).length=24:=by unfold eN;rw [sy];rfl
def wK{α:Type}(f:α->List Int){l:List α}{k:Nat}{x:α}(h:l[k]? =some x):((l.take (k+1)).map f).flatten=((l.take k).map f).flatten++f x:=by rw [dy,h,bJ,DA];simp
def Hu:∀l:List ej.It,(l.map eN).flatten.length=24*l.length
 | []=>rfl
 |x::l=>by rw [eQ,jC,bQ,Eg,Hu l,bR];omega
def al8{B E k:Nat}{w:World}{s:Sl}{xs:LV}(h:Vc.Own B E k w s xs):s.n<=s.c:=by
 cases h with
 |nil=>exact ak _
 |row g n c cs hg hr hc hn=>exact hn
def RM{w:World}{b:Nat}{y:cM}(hr:Row w b (G8 y) jF)(j:Nat){v:Value}(h:(G8 y)[j]? =some v):ah w (af (aD b) j) 0 [v]:=by rw [aV,eC];exact oP hr h
def Bv{w:World}{b:Nat}{y:cM}(hr:Row w b (G8 y) jF)(j:Nat){v:Value}(h:(G8 y)[j]? =some v):Vc.ld w (af (aD b) j)=some v:=hr.at j h
section
variable {F F':Nat->Prop} {w w':World} {g s o t:Nat} {M M':Sm} {occ:Value} {L:List (Option cM)}
def aan(h:SF F w s o t M occ):ae 68 #[s] w λe w'=>e=(M.now)/\w'=w:=by obtain ⟨g,sd,h1,-⟩:=h.row;apply PR.vc;exact ⟨_,h1.at 3 rfl,rfl,rfl⟩
def vC(h:EF F w g s o t M occ L):ae 26 #[g] w λe w'=>∃sl:Sl,e=Value.slice sl.a sl.n sl.c/\mh w w' sl (cr M L)/\Ext w w':=by
 apply vS.vc;refine (ZE h).mono ?_;rintro e w1 ⟨s1,rfl,ho1,x1⟩;have z1:=x1.size;have h1:=h.ext x1;have Ov:s1.n=(bn L).length:=by rw [(ho1.rd aA).n,aL]
 have hll:=vu L;obtain ⟨Fs,hs,ko,fa,-⟩:=h1.xz;refine ⟨s1,rfl,_,ko,(aan hs).mono ?_⟩;rintro e w3 ⟨rfl,L5⟩;subst L5;refine ⟨_,rfl,λw5 e5=> ?_⟩;have x5:=aQ e5;have z5:=zA e5;have hr5:=rdI (l:=[M.now]) e5;refine (sB (B:=w3.heap.size) (s:=⟨none,0,0⟩) (b:=[]) ar.nil x5.size hr5 (λ_ j _ q=>(by cases q)) bg).mono ?_;rintro e w6 ⟨s7,rfl,a6⟩;have e6:([]:List Int)++my [M.now]=jb M.now:=by show jb M.now++ []=_;rw [mA]
 rw [e6] at a6;refine ⟨s7,rfl,λw8 e8=> ?_⟩;have ew:jn ((s1.n:Nat):Int)=((bn L).length:Int) % 256:=by rw [wrap_u8,Ov]
 rw [ew] at e8 ⊢;obtain ⟨J7,hr8⟩:=a6.j9 [((bn L).length:Int) % 256] (by rw [pX];simp) e8;have z8:=zA e8;refine ⟨J7,λs9 bo r10=> ?_⟩;obtain ⟨Sf,k10,-,b10,XB⟩:=hr8 s9 bo r10;replace Sf:Ap w3 w5 ⟨none,0,0⟩ bo s9 (dh M.now (bn L).length):=Sf;have z6:=a6.bel.size;have aoy:Ext w3 bo:=x5.trans (Below.mono Sf.bel (ak _));have n96:s9.aZ≠some w6.heap.size:=eX b10 (a6.ne (ak _)) aa;have ht7:(dh M.now (bn L).length).length=7:=rfl;have A0:Ap w3 bo s9 bo s9 (dh M.now (bn L).length):=Ap.refl Sf.own aa;refine ⟨k10,λn x sl wr=>∃k:Nat,x=k/\k+n=(bn L).length/\Ap w3 bo s9 wr sl (dh M.now (bn L).length++dT L ((bn L).take k)),⟨(bn L).length,rfl,0,rfl,aa,by rw [DB];show Ap _ _ _ _ _ (_++ []);rw [mA];exact A0⟩,?_⟩;rintro n us x pr cD ⟨k,rfl,hk,Wf⟩;have aoA:Ext w3 cD:=aoy.trans (Below.mono Wf.bel (ak _));have z16:=Wf.bel.size;have lj:(dh M.now (bn L).length++dT L ((bn L).take k)).length<=1000:=by have:=tz L ((bn L).take k);rw [cY] at this;rw [bQ,ht7];omega
 apply Br.mk<;>intro hq
 ·have hq:=cS hq;obtain ⟨v,hv⟩:=bq (l:=bn L) (i:=k) aa;obtain ⟨i,rfl,IV,y,hy⟩:=vv (aO hv);have jj:=(ho1.ext aoA).rd (show 0<1 by decide);have hvi:((bn L).map λi=> [Value.int .i64 i])[k]? =some [.int .i64 (i:Int)]:=by rw [aS,hv];rfl
  have atF:=jj.at hvi (j:=0) (v:=.int .i64 i) rfl;rw [dn] at atF;obtain ⟨av,c9,kq,-,-,-⟩:=h1.row;obtain ⟨b,hab,hrb⟩:=kq.full IV hy;have rowU:∀{u:World} {c:Sl} {bs:List Int},Ap w3 bo s9 u c bs->Row u b (G8 y) jF:=λ{u c bs} ha=>hrb.ext (aoy.trans (Below.mono ha.bel (ak _)))
  have aAP:=rowU Wf;have xd:=Ext.dr cD;have rbd:=aAP.ext xd;have zd:=m7 cD;have ad:=Wf.ext xd;have wk:=ov (j:=k);have ei:jn ((i:Nat):Int)=(i:Int):=by rw [wrap_u8];omega
  refine ⟨jj.jd aA aa hq,_,atF,aa,aa,_,MB (c9.ext aoA) hab,?_⟩;refine ⟨λc u=>Ap w3 bo s9 u c (dh M.now (bn L).length++dT L ((bn L).take k)++((i:Int)::my (lU y.1))),?_,?_⟩
  ·refine iS rfl (iS rfl (iS rfl (iS rfl ⟨_,Bv rbd 0 rfl,iS rfl (iS rfl (iS rfl (iS rfl ⟨_,Bv rbd 1 rfl,iS rfl (iS rfl (iS rfl (iS rfl ⟨_,Bv rbd 2 rfl,iS rfl (iS rfl (iS rfl (iS rfl ⟨_,Bv rbd 3 rfl,iS rfl (iS rfl (iS rfl (iS rfl ⟨_,Bv rbd 4 rfl,iS rfl (iS rfl (iS rfl (iS rfl ⟨_,Bv rbd 5 rfl,iS rfl (iS rfl (iS rfl ⟨_,Bv rbd 6 rfl,iS rfl (iS rfl (iS rfl ⟨_,Bv rbd 7 rfl,?_⟩))⟩))⟩)))⟩)))⟩)))⟩)))⟩)))⟩)));rw [ei];have fin:∀{u u':World} {c c':Sl},Ap w3 bo s9 u c (dh M.now (bn L).length++dT L ((bn L).take k)++ [(i:Int)])->Ap w3 u c u' c' (dh M.now (bn L).length++dT L ((bn L).take k)++ [(i:Int)]++my (lU y.1))->Ap w3 bo s9 u' c' (dh M.now (bn L).length++dT L ((bn L).take k)++((i:Int)::my (lU y.1))):=λh1 h2=>by have:=h1.trans h2;rw [fz,fz] at this;rw [fz];exact this
   have hlen1:((dh M.now (bn L).length++dT L ((bn L).take k))++ [(i:Int)]).length+6*(lU y.1).length<=900000:=by rw [bQ];show _+1+6*8<=_;omega
   have abH:pr.aZ≠some w6.heap.size:=Wf.off n96 aa;refine ⟨λeG Se=>⟨?_,λgT e35=> ?_⟩,λkz VO oF e41=> ?_⟩
   ·obtain ⟨hp,hr⟩:=ad.j9 [(i:Int)] (by rw [bR,lV];omega) Se;have z29:=zA Se;refine ⟨hp,λxY gS r31=> ?_⟩;obtain ⟨a31,k31,m31,b31,z31⟩:=hr xY gS r31;have S1:=rowU a31;refine ⟨m31 _ abH aa,k31,RM S1 7 rfl,RM S1 6 rfl,RM S1 5 rfl,RM S1 4 rfl,RM S1 3 rfl,RM S1 2 rfl,RM S1 1 rfl,RM S1 0 rfl,λqT VZ=> ?_⟩;have a32:=a31.ext (aQ VZ);have z32:=zA VZ;have hrd32:=rdI (l:=lU y.1) VZ;have nd:xY.aZ≠some cD.drew.heap.size:=eX b31 (Wf.ne (ak _)) aa;refine (sB a32.own (by have:=a32.bel.size;omega) hrd32 (λ_ j hj q=> ?_) hlen1).mono ?_
    ·have hj:j=gS.heap.size:=(Option.some.inj hj).symm;subst hj;exact a31.ne (ak _) q
    rintro e fL ⟨s34,rfl,a33⟩;exact ⟨s34,rfl,a33.Lg _ (a31.off n96 aa) aa,a33.Lg _ nd aa,rfl,fin a32 a33⟩
   ·have jk:=aQ Se;have z29:=zA Se;obtain ⟨hp,hr⟩:=(ad.ext jk).j9 [(i:Int)] (by rw [bR,lV];omega) e35;have z35:=zA e35;have hrd35:=rdI (l:=lU y.1) e35;refine ⟨hp,λs36 iR r37=> ?_⟩;obtain ⟨a37,k37,m37,b37,z37⟩:=hr s36 iR r37;have nd:pr.aZ≠some cD.drew.heap.size:=Wf.ne (ak _);have n29:s36.aZ≠some eG.heap.size:=eX b37 (Wf.ne aa) aa;refine ⟨m37 _ abH aa,m37 _ nd aa,k37,(sB a37.own (by have:=a37.bel.size;omega) (hrd35.same λj hj=> ?_) (λ_ j hj q=> ?_) hlen1).mono ?_⟩
    ·have hj:j=eG.heap.size:=(Option.some.inj hj).symm;subst hj;exact k37
    ·have hj:j=eG.heap.size:=(Option.some.inj hj).symm;subst hj;exact n29 q
    rintro e oE ⟨s39,rfl,a38⟩;exact ⟨s39,rfl,a38.Lg _ (a37.off n96 aa) aa,a38.Lg _ (eX b37 nd aa) aa,rfl,fin a37 a38⟩
   ·have pF:=aQ VO;have z40:=zA VO;have hrd40:=rdI (l:=lU y.1) VO;obtain ⟨hp,hr⟩:=(ad.ext pF).j9 [(i:Int)] (by rw [bR,lV];omega) e41;have z41:=zA e41;have om:=aQ e41;refine ⟨hp,λs42 jW r43=> ?_⟩;obtain ⟨a43,k43,m43,VQ,z43⟩:=hr s42 jW r43;have nd:pr.aZ≠some cD.drew.heap.size:=Wf.ne (ak _);have n40:pr.aZ≠some kz.heap.size:=Wf.ne aa;refine ⟨m43 _ abH aa,m43 _ nd aa,k43,(sB a43.own (by have:=a43.bel.size;omega) ((hrd40.ext om).same λj hj=> ?_) (λ_ j hj q=> ?_) hlen1).mono ?_⟩
    ·have hj:j=cD.drew.heap.size:=(Option.some.inj hj).symm;subst hj;exact m43 _ nd aa
    ·have hj:j=cD.drew.heap.size:=(Option.some.inj hj).symm;subst hj;exact eX VQ nd aa q
    rintro e me ⟨s45,rfl,a44⟩;exact ⟨s45,rfl,a44.Lg _ (a43.off n96 aa) aa,a44.Lg _ (eX VQ n40 aa) aa,rfl,fin a43 a44⟩
  ·intro atG IS iw S2;have aAT:=rowU S2;have z48:=S2.bel.size;have aAU:(dh M.now (bn L).length++dT L ((bn L).take k)++((i:Int)::my (lU y.1))).length<=2000:=by rw [bQ,bR,sy];show _+(6*8+1)<=_;omega
   have endS:∀(st:Int),st=stB y.1.fG->∀{v:World} {c:Sl},Ap w3 bo s9 v c (dh M.now (bn L).length++dT L ((bn L).take k)++((i:Int)::my (lU y.1))++ [st])->Ap w3 bo s9 v c (dh M.now (bn L).length++dT L ((bn L).take (k+1))):=λst iC {v c} h=>by
    have e:dT L ((bn L).take (k+1))=dT L ((bn L).take k)++((i:Int)::(my (lU y.1)++ [st])):=by unfold dT;rw [wK (DX L) hv];unfold DX iN;rw [hy,iC]
    rw [e,<-fz];rw [fz] at h;exact h
   refine iS rfl (iS rfl (iS rfl ⟨_,Bv aAT 8 rfl,Br.mk (λhb=>λqo e50=> ?_) (λhb=>λTp e53=> ?_)⟩))
   ·obtain ⟨hp,hr⟩:=S2.j9 [1] (by rw [bR,lV];omega) e50;have z50:=zA e50;refine ⟨hp,λs51 Ti r52=> ?_⟩;obtain ⟨a52,k52,m52,b52,z52⟩:=hr s51 Ti r52;exact ⟨m52 _ (S2.off n96 aa) aa,k52,n-1,aa,rfl,k+1,wk,aa,endS 1 (by rw [hb];rfl) a52⟩
   ·obtain ⟨hp,hr⟩:=S2.j9 [0] (by rw [bR,lV];omega) e53;have z53:=zA e53;refine ⟨hp,λLW xm r55=> ?_⟩;obtain ⟨a55,k55,m55,b55,z55⟩:=hr LW xm r55;exact ⟨m55 _ (S2.off n96 aa) aa,k55,n-1,aa,rfl,k+1,wk,aa,endS 0 (by rw [hb];rfl) a55⟩
 ·have hq:=cS hq;have hk':k=(bn L).length:=by omega
  subst hk';rw [jg] at Wf lj;obtain ⟨aIQ,atI,hld16,-,-⟩:=(h1.ext aoA).xz;refine ⟨_,hld16,(JL atI).mono ?_⟩;rintro e nB ⟨Et,rfl,Wg,rJ⟩;have z57:=rJ.size;obtain ⟨gq,mq,qs,-,IW,-⟩:=atI.queue;have hql:M.q.l.length<=4096:=by have:=IW.len;have:=IW.room;omega
  have ajs:Et.n=M.q.l.length:=by rw [(Wg.rd (show 0<4 by decide)).n,aL]
  have aAV:=(Wg.rd (show 0<4 by decide));have LU:Et.n<=Et.c:=al8 Wg.own;have abH:pr.aZ≠some w6.heap.size:=Wf.off n96 aa;have aoD:(if 2000<((Et.n:Nat):Int) then 2000 else ((Et.n:Nat):Int))=((min M.q.l.length 2000:Nat):Int):=by rw [ajs];split<;>omega
  refine ⟨Et,rfl,rJ.heap aa,?_⟩;rw [aoD];refine ⟨aa,aa,λqE Tn=> ?_⟩;rw [dz];have a57:=Wf.ext rJ;have eb1:jn (((((((min M.q.l.length 2000:Nat):Int):Int).toNat-0:Nat):Int)).fdiv (2 ^(min (8:Int).toNat 64)))=((min M.q.l.length 2000:Nat):Int) / 256 % 256:=by rw [wrap_u8,ud _ aA];rfl
  have eb2:jn ((((((min M.q.l.length 2000:Nat):Int):Int).toNat-0:Nat):Int))=((min M.q.l.length 2000:Nat):Int) % 256:=by rw [wrap_u8];rfl
  rw [eb1,eb2] at Tn ⊢;obtain ⟨hp,hr⟩:=a57.j9 [((min M.q.l.length 2000:Nat):Int) / 256 % 256,((min M.q.l.length 2000:Nat):Int) % 256] (by rw [bR,bR,lV];omega) Tn;have z59:=zA Tn;refine ⟨hp,λWh rI r61=> ?_⟩;obtain ⟨a61,k61,m61,b61,z61⟩:=hr Wh rI r61;have uo:=aQ Tn;have aAY:Wh.aZ≠some w6.heap.size:=eX b61 abH aa;have atJ:Wh.aZ≠some nB.heap.size:=eX b61 (a57.ne (ak _)) aa;have aoF:∀j,Et.aZ=some j->cD.heap.size<=j/\j<nB.heap.size:=λj hj=>Wg.own.lt hj
  have atK:∀j,Et.aZ=some j->Wh.aZ≠some j:=λj hj=>by obtain ⟨q1,q2⟩:=aoF j hj;exact eX b61 (Wf.ne q1) aa
  have hrd61:RdK rI Et 4 (M.q.l.map fJ):=aAV.same λj hj=>by obtain ⟨q1,q2⟩:=aoF j hj;exact (m61 j (Wf.ne q1) aa).trans (uo.heap q2)
  let W:=M.q.l.take 2000
  have hW:W.length=min M.q.l.length 2000:=by rw [cY,Nat.min_comm]
  have A61:Ap w3 rI Wh rI Wh (dh M.now (bn L).length++dT L (bn L)++ [((min M.q.l.length 2000:Nat):Int) / 256 % 256,((min M.q.l.length 2000:Nat):Int) % 256]):=Ap.refl a61.own (by have:=a61.bel.size;omega);have aoe:((((min M.q.l.length 2000:Nat):Int)).toNat-0:Nat)=W.length:=by rw [hW];omega
  rw [aoe];refine ⟨m61 _ abH aa,k61,λn x sl wr=>∃k:Nat,x=k/\k+n=W.length/\Ap w3 rI Wh wr sl (dh M.now (bn L).length++dT L (bn L)++ [((min M.q.l.length 2000:Nat):Int) / 256 % 256,((min M.q.l.length 2000:Nat):Int) % 256]++((W.take k).map eN).flatten),⟨W.length,rfl,rfl,0,rfl,aa,by rw [DB];show Ap _ _ _ _ _ (_++ []);rw [mA];exact A61⟩,?_⟩;rintro n2 zF x s66 oy ⟨k,rfl,hk,a67⟩;have z67:=a67.bel.size;apply Br.mk<;>intro hq
  ·have hq:=cS hq;have hkW:k<W.length:=by omega
   obtain ⟨it,hit⟩:=bq hkW;have ajt:M.q.l[k]? =some it:=by have h2:W[k]? =M.q.l[k]? :=List.getElem?_take_of_lt aa;rw [<-h2];exact hit
   have c9:(M.q.l.map fJ)[k]? =some (fJ it):=by rw [aS,ajt];rfl
   have hrd67:RdK oy Et 4 (M.q.l.map fJ):=hrd61.same λj hj=>a67.Lg j (atK j hj) (by have:=aoF j hj;omega)
   have oh:eL Et.a (k:Int) W.length:=by obtain ⟨q1,q2,q3⟩:=hrd67.jd (i:=(k:Int)) aA aa aa;exact ⟨q1,q2,hq⟩
   refine ⟨oh,_,_,_,_,hrd67.bI c9,λIN e73 oq e74 rC e75=> ?_⟩;have BY:Ext oy oq:=(aQ e73).ab e74 (ak _);have z74:oq.heap.size=oy.heap.size+1:=by rw [zR e74,zA e73]
   have Fk:=aQ e75;have z75:=zA e75;have hrd75:=rdI (l:=[it.1,it.2.1,it.2.2.1,it.2.2.2]) e75;have a75:=a67.ext (BY.tr Fk);have aIT:(dh M.now (bn L).length++dT L (bn L)++ [((min M.q.l.length 2000:Nat):Int) / 256 % 256,((min M.q.l.length 2000:Nat):Int) % 256]++((W.take k).map eN).flatten).length<=100000:=by rw [bQ,bQ,Hu,cY];show _+2+_<=_;omega
   refine (sB a75.own (by have:=a75.bel.size;omega) hrd75 (λ_ j hj q=> ?_) (by show _+6*4<=_;omega)).mono ?_
   ·have hj:j=oq.heap.size:=(Option.some.inj hj).symm;subst hj;exact a67.ne aa q
   rintro e pH ⟨s77,rfl,a76⟩;refine ⟨s77,rfl,a76.Lg _ (a67.off aAY aa) aa,a76.Lg _ (a67.off atJ aa) aa,a76.Lg _ (a67.ne (ak _)) aa,n2-1,aa,rfl,rfl,k+1,by rw [wI];omega,aa,?_⟩;rw [wK eN hit,<-fz];exact a75.trans a76
  ·have hq:=cS hq;have hk':k=W.length:=by omega
   subst hk';rw [jg] at a67;refine ⟨s66,rfl,?_,?_⟩
   ·have e:cr M L=dh M.now (bn L).length++dT L (bn L)++ [((min M.q.l.length 2000:Nat):Int) / 256 % 256,((min M.q.l.length 2000:Nat):Int) % 256]++(W.map eN).flatten:=by unfold cr gl;rw [<-fz]
    rw [e];exact ar.low a67.own z1
   ·have b3:Below w3 w3 oy:=Below.trans aoy (Below.trans a61.bel a67.bel);exact x1.tr b3
end
def uq:Nat->Int
 |0=>1099511627776
 |1=>4294967296
 |2=>16777216
 |3=>65536
 |4=>256
 |5=>1
 |_=>0
def aip(q:Nat)(hq:q<6):aw (Int.tdiv (uq q) 256)=uq (q+1):=by
 have:q=0\/q=1\/q=2\/q=3\/q=4\/q=5:=by omega
 rcases this with rfl|rfl|rfl|rfl|rfl|rfl<;>decide
def amh{n:Int}(h0:0<=n)(h1:n<=4611686018427387904)(q:Nat)(hq:q<6):jn (Int.tmod (aw (Int.tdiv n (uq q))) 256)=JQ n q:=by
 have hu:0<uq q:=by
  have:q=0\/q=1\/q=2\/q=3\/q=4\/q=5:=by omega
  rcases this with rfl|rfl|rfl|rfl|rfl|rfl<;>decide
 have hd:0<=n / uq q/\n / uq q<=n:=⟨Int.ediv_nonneg h0 (Int.le_of_lt hu),Int.ediv_le_self _ h0⟩;rw [sa h0,wI,DH hd.1,wrap_u8,Int.emod_emod_of_dvd _ (Int.dvd_refl 256)];have:q=0\/q=1\/q=2\/q=3\/q=4\/q=5:=by omega
 rcases this with rfl|rfl|rfl|rfl|rfl|rfl
 ·rfl
 ·rfl
 ·rfl
 ·rfl
 ·rfl
 ·show n / 1 % 256=n % 256;rw [Int.ediv_one]
def aeW(n:Int)(q:Nat)(hq:q<6):JQ (n+281474976710656) q=JQ n q:=by
 have:q=0\/q=1\/q=2\/q=3\/q=4\/q=5:=by omega
 rcases this with rfl|rfl|rfl|rfl|rfl|rfl
 ·show (n+281474976710656) / 1099511627776 % 256=n / 1099511627776 % 256;omega
 ·show (n+281474976710656) / 4294967296 % 256=n / 4294967296 % 256;omega
 ·show (n+281474976710656) / 16777216 % 256=n / 16777216 % 256;omega
 ·show (n+281474976710656) / 65536 % 256=n / 65536 % 256;omega
 ·show (n+281474976710656) / 256 % 256=n / 256 % 256;omega
 ·show (n+281474976710656) % 256=n % 256;omega
abbrev Zi(n:Int):Prop:= -281474976710656<=n/\n<=4611686018427387904
def Ek(n:Int)(hn:Zi n)(w:World):ae 89 #[n] w λe w'=>∃s:Sl,e=s/\mh w w' s (jb n)/\Ext w w':=by
 apply Nw.vc;have body:∀(n':Int),0<=n'->n'<=4611686018427387904->(∀q,q<6->JQ n' q=JQ n q)->∃I0:Nat->Int->Sl->Int->World->Prop,
   (∃n1,I0 n1 (0) ⟨none,0,0⟩ (1099511627776) w)/\
   ∀(n1:Nat)(zF:Nat->Value)(x3:Int)(s4:Sl)(x5:Int)(w6:World),I0 n1 x3 s4 x5 w6->
   Br (decide ((x3:Int)<6))
   (aT (Oe x5) (∀w8:World,w8=w6.alloc (.cells #[.int .u8 (jn (Int.tmod (aw (Int.tdiv n' x5)) 256))] je)->
   ba 1 1 w8 ⟨s4.a,s4.n,s4.c⟩ 1 [.int .u8 (jn (Int.tmod (aw (Int.tdiv n' x5)) 256))]/\∀(s9:Sl)(bo:World),aX je 1 w8 ⟨s4.a,s4.n,s4.c⟩ 1 [.int .u8 (jn (Int.tmod (aw (Int.tdiv n' x5)) 256))] s9 bo->bo.heap[w6.heap.size]? =w8.heap[w6.heap.size]?/\
   ∃n7,n7<n1/\I0 n7 ((aw (x3+1))) ⟨s9.a,s9.n,s9.c⟩ ((aw (Int.tdiv x5 256))) bo))
   (∃s:Sl,Ending.returned s4=s/\mh w w6 s (jb n)/\Ext w w6):=by
  intro n' h0 h1 hq;refine ⟨λm x sl u wr=>∃q:Nat,x=q/\q+m=6/\u=uq q/\Ap w w ⟨none,0,0⟩ wr sl ((List.range q).map (JQ n)),⟨6,0,rfl,rfl,rfl,Ap.refl ar.nil (ak _)⟩,?_⟩;rintro m us x s4 x5 w6 ⟨q,rfl,hm,rfl,ha⟩;apply Br.mk<;>intro hc
  ·have hc:=cS hc;have hq6:q<6:=by omega
   rw [amh h0 h1 q hq6,hq q hq6];refine bz.2 ⟨sT.2 ?_,λw8 e8=> ?_⟩
   ·have:q=0\/q=1\/q=2\/q=3\/q=4\/q=5:=by omega
    rcases this with rfl|rfl|rfl|rfl|rfl|rfl<;>decide
   obtain ⟨hp,hr⟩:=ha.j9 [JQ n q] (by simp only [aL,DT,bR,lV];omega) e8;refine ⟨hp,λs9 bo r10=> ?_⟩;obtain ⟨h1,h2,-⟩:=hr s9 bo r10;refine ⟨h2,m-1,aa,q+1,by rw [wI];omega,aa,aip q hq6,?_⟩;rw [Li];exact h1
  ·have hc:=cS hc;have:q=6:=by omega
   subst this;exact ⟨s4,rfl,ha.own,ha.bel⟩
 refine Br.mk (λh=> ?_) (λh=>body n (by simp at h;omega) hn.2 λ_ _=>rfl);have h:=cS h;have e:aw (n+281474976710656)=n+281474976710656:=wI;rw [e];exact body _ aa aa λq hq=>aeW n q hq
def BB{w:World}{s1:Sl}{l:List Int}(hl:RdK w s1 1 (l.map iv))(hn:∀x ∈ l,Zi x)(dp:l.length<=10000):ae 90 #[s1] w λe w'=>∃s:Sl,e=s/\mh w w' s (my l)/\Ext w w':=by
 apply JY.vc;have Ov:s1.n=l.length:=by rw [hl.n,aL]
 refine ⟨λn x sl wr=>∃k:Nat,x=k/\k+n=l.length/\Ap w w ⟨none,0,0⟩ wr sl (my (l.take k)),⟨l.length,0,rfl,aa,Ap.refl ar.nil (ak _)⟩,?_⟩;rintro n us x sl wr ⟨k,rfl,hk,ha⟩;apply Br.mk<;>intro hq
 ·have hq:=cS hq;obtain ⟨y,hy⟩:=bq (l:=l) (i:=k) aa;have jj:RdK wr s1 1 (l.map iv):=hl.ext ha.bel;have hyi:(l.map iv)[k]? =some (iv y):=by rw [aS,hy];rfl
  have ko:=jj.at hyi (j:=0) (v:=.int .i64 y) rfl;rw [dn] at ko;refine ⟨jj.jd aA aa hq,y,ko,(Ek y (hn y (aO hy)) wr).mono ?_⟩;rintro e w8 ⟨s9,rfl,ho9,x8⟩;have hn9:s9.n=(jb y).length:=by rw [(ho9.rd aA).n,aL]
  obtain ⟨hp,hr⟩:=(ha.ext x8).app (jb y) (by rw [sy,cY,pX];omega);refine ⟨s9,rfl,_,(ho9.rd aA).flat aA,by rw [hn9];exact hp,λSS cC r12=> ?_⟩;rw [hn9] at r12;obtain ⟨h1,-⟩:=hr SS cC r12;refine ⟨n-1,aa,k+1,by rw [wI];omega,aa,?_⟩;rw [Lh hy];exact h1
 ·have hq:=cS hq;have:k=l.length:=by omega
  subst this;rw [jg] at ha;exact ⟨sl,rfl,ha.own,ha.bel⟩
abbrev Xr:=Int × dw
abbrev xrL(x:Xr):LV:=.int .i64 x.1::kc x.2
def Hz(now:Int)(xs:List Xr)(ws:List ej.It):List Int:=dh now xs.length++(xs.map λx=>iN x.1 x.2).flatten++gl ws
def sG{w:World}{s:Sl}{k:Nat}{rows:List (LV)}(h:RdK w s k rows){i:Nat}{r:LV}(hi:rows[i]? =some r){off:Nat}{vs:LV}(hv:∀j,j<vs.length->r[off+j]? =vs[j]?):ah w (af (af s.a (i*k)) off) 0 vs:=
 nX λj hj=>by have e:=hv j hj;have hs:vs[j]? =some vs[j]:=cX hj;rw [hs] at e ⊢;have:=h.at hi (j:=off+j) e;rw [dn,eC];exact this
def aqH:∀l:List Xr,(l.map λx=>iN x.1 x.2).flatten.length=50*l.length
 | []=>rfl
 |x::l=>by rw [eQ,jC,bQ,Ic,aqH l,bR];omega
def UI{now:Int}{sx sw:Sl}{xs:List Xr}{ws:List ej.It}{w:World}(hx:RdK w sx 10 (xs.map xrL))(hw:RdK w sw 4 (ws.map fJ))(ajf:Zi now)(hxn:xs.length<=16)(hwn:ws.length<=4096)
  (hxb:∀x ∈ xs,(0<=x.1/\x.1<16)/\∀n ∈ lU x.2,Zi n)(hwb:∀x ∈ ws,∀n ∈ [x.1,x.2.1,x.2.2.1,x.2.2.2],Zi n):
  ae 34 #[.agg #[now,sx,sw]] w λe w'=>∃sl:Sl,e=Value.slice sl.a sl.n sl.c/\mh w w' sl (Hz now xs ws)/\Ext w w':=by
 apply (R3.vc (au:=sx) (aB:=sw));have F8:sx.n=xs.length:=by rw [hx.n,aL]
 have hnw:sw.n=ws.length:=by rw [hw.n,aL]
 intro w0 e0;have x0:=aQ e0;have z0:=zA e0;have r0:∃τ,Row w0 w [now,sx,sw] τ:=⟨_,by rw [e0];exact Row.new w [_,_,_] _⟩;obtain ⟨τ,r0⟩:=r0;refine (Ek now ajf w0).mono ?_;rintro e w1 ⟨s2,rfl,Jl,x1⟩;have z1:=x1.size;refine ⟨s2,rfl,x1.heap aa,λw3 e3=> ?_⟩;have ew:jn ((sx.n:Nat):Int)=(xs.length:Int) % 256:=by rw [wrap_u8,F8]
 rw [ew] at e3 ⊢;have a1:Ap w0 w1 s2 w1 s2 (jb now):=Ap.refl Jl x1.size;obtain ⟨hp3,hr3⟩:=a1.j9 [(xs.length:Int) % 256] (by rw [pX];simp) e3;have z3:=zA e3;have n2w:s2.aZ≠some w.heap.size:=λq=>by have:=(Jl.own.lt q).1;omega
 refine ⟨hp3,λs4 w5 r5=> ?_⟩;obtain ⟨a5,k5,m5,b5,z5⟩:=hr3 s4 w5 r5;replace a5:Ap w0 w1 s2 w5 s4 (dh now xs.length):=a5;have Sy:Ext w0 w5:=x1.trans a5.bel;have n4w:s4.aZ≠some w.heap.size:=eX b5 n2w aa;have n41:s4.aZ≠some w1.heap.size:=eX b5 (a1.ne (ak _)) aa;have ht7:(dh now xs.length).length=7:=rfl;have A5:Ap w0 w5 s4 w5 s4 (dh now xs.length):=Ap.refl a5.own aa;refine ⟨m5 _ n2w aa,k5,?_⟩;refine ⟨λn x sl wr=>∃k:Nat,x=k/\k+n=xs.length/\Ap w0 w5 s4 wr sl (dh now xs.length++((xs.take k).map λx=>iN x.1 x.2).flatten),⟨xs.length,rfl,rfl,0,rfl,aa,by rw [DB];show Ap _ _ _ _ _ (_++ []);rw [mA];exact A5⟩,?_⟩;rintro n us x IJ bw ⟨k,rfl,hk,IG⟩;have z11:=IG.bel.size;have abK:Ext w0 bw:=Sy.trans IG.bel;have lj:(dh now xs.length++((xs.take k).map λx=>iN x.1 x.2).flatten).length<=1000:=by rw [bQ,aqH,cY,ht7];omega
 have n10w:=IG.off n4w aa;have ajA:=IG.off n41 aa;apply Br.mk<;>intro hq
 ·have hq:=cS hq;obtain ⟨v,hv⟩:=bq (l:=xs) (i:=k) aa;obtain ⟨⟨hv0,aJO⟩,hvb⟩:=hxb v (aO hv);have hvr:(xs.map xrL)[k]? =some (xrL v):=by rw [aS,hv];rfl
  have hrd11:=hx.ext (x0.tr abK);have fa:∀j,j<(kc v.2).length->(xrL v)[1+j]? =(kc v.2)[j]? :=λj _=>by rw [u9,DS]
  have oh:=hrd11.jd (i:=(k:Int)) aA aa hq;refine ⟨oh,bz.2 ⟨lC.2 (by rw [k9];exact oh.1),_,_,_,_,_,_,_,_,_,sG hrd11 hvr fa,λdm zi fQ XK=> ?_⟩⟩;have fC:Ext bw fQ:=(aQ zi).ab XK (ak _);have z23:fQ.heap.size=bw.heap.size+1:=by rw [zR XK,zA zi]
  have hrd23:=hrd11.ext fC;have hin2:=hrd23.jd (i:=(k:Int)) aA aa hq;refine ⟨hin2,bz.2 ⟨lC.2 (by rw [k9];exact hin2.1),_,hrd23.at hvr (j:=0) (v:=.int .i64 v.1) rfl,λcZ zk=> ?_⟩⟩;have ei:jn v.1=v.1:=by rw [wrap_u8];omega
  rw [ei] at zk ⊢;obtain ⟨hp,hr⟩:=(IG.ext fC).j9 [v.1] (by rw [bR,lV];omega) zk;have z25:=zA zk;refine ⟨hp,λV4 fy r27=> ?_⟩;obtain ⟨a27,k27,m27,Ka,z27⟩:=hr V4 fy r27;have akT:IJ.aZ≠some bw.heap.size:=IG.ne (ak _);have auh:IJ.aZ≠some fQ.heap.size:=IG.ne aa;refine ⟨m27 _ n10w aa,m27 _ ajA aa,m27 _ akT aa,k27,λiY e28=> ?_⟩;have nv:=aQ e28;have z28:=zA e28;have hrd28:=rdI (l:=lU v.2) e28;refine (BB hrd28 hvb (by show 8<=10000;decide)).mono ?_;rintro e eG ⟨xY,rfl,aui,jk⟩;have z29:=jk.size;have aoG:xY.n=(my (lU v.2)).length:=by rw [(aui.rd aA).n,aL]
  have Tr:(my (lU v.2)).length=48:=by rw [sy];rfl
  obtain ⟨hp,hr⟩:=(a27.ext (nv.tr jk)).app (my (lU v.2)) (by rw [bQ,Tr,bR,lV];omega);refine ⟨xY,rfl,jk.heap aa,jk.heap aa,jk.heap aa,jk.heap aa,_,(aui.rd aA).flat aA,by rw [aoG];exact hp,λBJ fL r33=> ?_⟩;rw [aoG] at r33;obtain ⟨a33,m33,XG,z33⟩:=hr BJ fL r33;have n26w:V4.aZ≠some w.heap.size:=eX Ka n10w aa;have aoV:V4.aZ≠some w1.heap.size:=eX Ka ajA aa;have agi:V4.aZ≠some bw.heap.size:=eX Ka akT aa;have agj:V4.aZ≠some fQ.heap.size:=eX Ka auh aa;have aJS:(dh now xs.length++((xs.take k).map λx=>iN x.1 x.2).flatten++ [v.1]++my (lU v.2)).length<=2000:=by rw [bQ,Tr,bQ,bR,lV];omega
  have wk:=ov (j:=k);have endS:∀(st:Int),st=stB v.2.fG->∀{v':World} {c:Sl},Ap w0 w5 s4 v' c (dh now xs.length++((xs.take k).map λx=>iN x.1 x.2).flatten++ [v.1]++my (lU v.2)++ [st])->Ap w0 w5 s4 v' c (dh now xs.length++((xs.take (k+1)).map λx=>iN x.1 x.2).flatten):=λst iC {v' c} h=>by rw [wK (λx:Xr=>iN x.1 x.2) hv];unfold iN;rw [iC] at h;simp only [fz,List.cons_append,Pn] at h ⊢;exact h
  have q1:jn 1=1:=by decide
  have q0:jn 0=0:=by decide
  refine ⟨m33 _ n26w aa,m33 _ aoV aa,m33 _ agi aa,m33 _ agj aa,Br.mk (λhb=> ?_) (λhb=> ?_)⟩
  ·rw [q1];intro lq e34;obtain ⟨hp,hr⟩:=a33.j9 [1] (by rw [bR,lV];omega) e34;have z34:=zA e34;refine ⟨hp,λs35 kH r36=> ?_⟩;obtain ⟨a36,k36,m36,b36,z36⟩:=hr s35 kH r36;exact ⟨m36 _ (eX XG n26w aa) aa,m36 _ (eX XG aoV aa) aa,m36 _ (eX XG agi aa) aa,m36 _ (eX XG agj aa) aa,k36,n-1,aa,rfl,rfl,k+1,wk,aa,endS 1 (by rw [hb];rfl) a36⟩
  ·rw [q0];intro iR Tg;obtain ⟨hp,hr⟩:=a33.j9 [0] (by rw [bR,lV];omega) Tg;have z37:=zA Tg;refine ⟨hp,λs38 kR r39=> ?_⟩;obtain ⟨a39,k39,m39,b39,z39⟩:=hr s38 kR r39;exact ⟨m39 _ (eX XG n26w aa) aa,m39 _ (eX XG aoV aa) aa,m39 _ (eX XG agi aa) aa,m39 _ (eX XG agj aa) aa,k39,n-1,aa,rfl,rfl,k+1,wk,aa,endS 0 (by rw [hb];rfl) a39⟩
 ·have hq:=cS hq;have hk':k=xs.length:=by omega
  subst hk';rw [jg] at IG lj;have aoD:(if 2000<((sw.n:Nat):Int) then 2000 else ((sw.n:Nat):Int))=((min ws.length 2000:Nat):Int):=by rw [hnw];split<;>omega
  rw [aoD];have eb1:jn (aw (Int.tdiv ((min ws.length 2000:Nat):Int) 256))=((min ws.length 2000:Nat):Int) / 256 % 256:=by rw [sa aa,wI,wrap_u8]
  have eb2:jn (Int.tmod ((min ws.length 2000:Nat):Int) 256)=((min ws.length 2000:Nat):Int) % 256:=by rw [DH aa,wrap_u8];omega
  rw [eb1,eb2];intro kz VO;obtain ⟨hp,hr⟩:=IG.j9 [((min ws.length 2000:Nat):Int) / 256 % 256,((min ws.length 2000:Nat):Int) % 256] (by rw [bR,bR,lV];omega) VO;have z40:=zA VO;refine ⟨hp,λs41 lf r42=> ?_⟩;obtain ⟨a42,k42,m42,b42,z42⟩:=hr s41 lf r42;have n41w:=eX b42 n10w aa;have aB0:=eX b42 ajA aa;have auj:=eX b42 (IG.ne (ak _)) aa
  let W:=ws.take 2000
  have hW:W.length=min ws.length 2000:=by rw [cY,Nat.min_comm]
  have A42:Ap w0 lf s41 lf s41 (dh now xs.length++(xs.map λx=>iN x.1 x.2).flatten++ [((min ws.length 2000:Nat):Int) / 256 % 256,((min ws.length 2000:Nat):Int) % 256]):=Ap.refl a42.own (by have:=a42.bel.size;omega);have S6:Ext w0 lf:=Sy.trans a42.bel;rw [<-hW];rw [<-hW] at A42;refine ⟨m42 _ n10w aa,m42 _ ajA aa,k42,λn x sl wr=>∃k:Nat,x=k/\k+n=W.length/\Ap w0 lf s41 wr sl (dh now xs.length++(xs.map λx=>iN x.1 x.2).flatten++ [((W.length:Nat):Int) / 256 % 256,((W.length:Nat):Int) % 256]++((W.take k).map eN).flatten),⟨W.length,rfl,rfl,rfl,0,rfl,aa,by rw [DB];show Ap _ _ _ _ _ (_++ []);rw [mA];exact A42⟩,?_⟩;rintro n2 zF x IS iw ⟨k,rfl,hk,S2⟩;have z48:=S2.bel.size;have J6:Ext w0 iw:=S6.trans S2.bel;apply Br.mk<;>intro hq
  ·have hq:=cS hq;have hkW:k<W.length:=by omega
   obtain ⟨it,hit⟩:=bq hkW;have ajt:ws[k]? =some it:=by have h2:W[k]? =ws[k]? :=List.getElem?_take_of_lt aa;rw [<-h2];exact hit
   have c9:(ws.map fJ)[k]? =some (fJ it):=by rw [aS,ajt];rfl
   have hrd48:=hw.ext (x0.tr J6);have oh:=hrd48.jd (i:=(k:Int)) aA aa aa;refine ⟨oh,bz.2 ⟨lC.2 (by rw [k9];exact oh.1),_,_,_,sG hrd48 c9 (off:=1) (vs:=[.int .i64 it.2.1,.int .i64 it.2.2.1,.int .i64 it.2.2.2]) (λj _=>by rw [u9,DS]),λTp e53 Ji e54=> ?_⟩⟩;have qV:Ext iw Ji.drew:=((aQ e53).ab e54 (ak _)).drew;have z54:Ji.drew.heap.size=iw.heap.size+1:=by show Ji.heap.size=_;rw [zR e54,zA e53]
   have hrd54:=hrd48.ext qV;have aB2:Ext iw Ji:=(aQ e53).ab e54 (ak _);have hin2:=(hrd48.ext aB2).jd (i:=(k:Int)) aA aa aa;refine ⟨hin2,bz.2 ⟨lC.2 (by rw [k9];exact hin2.1),_,hrd54.at c9 (j:=0) (v:=.int .i64 it.1) rfl,λsJ e56=> ?_⟩⟩;have xV:=aQ e56;have z56:=zA e56;have hrd56:=rdI (l:=[it.1,it.2.1,it.2.2.1,it.2.2.2]) e56;refine (BB hrd56 (hwb it (aO ajt)) bg).mono ?_;rintro e nB ⟨Et,rfl,Wg,rJ⟩;have z57:=rJ.size;have ajs:Et.n=(eN it).length:=by rw [(Wg.rd aA).n,aL];rfl
   have a57:=S2.ext (qV.tr (xV.tr rJ));have aAU:(dh now xs.length++(xs.map λx=>iN x.1 x.2).flatten++ [((W.length:Nat):Int) / 256 % 256,((W.length:Nat):Int) % 256]++((W.take k).map eN).flatten).length+24<=100000:=by have SY:(W.take k).length=k:=List.length_take_of_le aa;rw [bQ,bQ,Hu,SY];show _+2+_+24<=_;omega
   obtain ⟨hp,hr⟩:=a57.app (eN it) (by rw [Eg];omega);have par:∀{u:World},Ext w0 u->ah u (fP w.heap.size 2) 0 [sw]:=λxu=>oP (r0.ext xu) rfl
   refine ⟨Et,rfl,rJ.heap aa,rJ.heap aa,rJ.heap aa,rJ.heap aa,par (J6.tr (qV.tr (xV.tr rJ))),_,(Wg.rd aA).flat aA,by rw [ajs];exact hp,λWh rI r61=> ?_⟩;rw [ajs] at r61;obtain ⟨a61,m61,b61,z61⟩:=hr Wh rI r61;refine ⟨m61 _ (S2.off n41w aa) aa,m61 _ (S2.off aB0 aa) aa,m61 _ (S2.off auj aa) aa,m61 _ (S2.ne (ak _)) aa,par (S6.trans a61.bel),n2-1,aa,rfl,rfl,rfl,k+1,by rw [wI];omega,aa,?_⟩;rw [wK eN hit,<-fz];exact a61
  ·have hq:=cS hq;have hk':k=W.length:=by omega
   subst hk';rw [jg] at S2;refine ⟨IS,rfl,?_,x0.tr (S6.trans S2.bel)⟩;have e:Hz now xs ws=dh now xs.length++(xs.map λx=>iN x.1 x.2).flatten++ [((W.length:Nat):Int) / 256 % 256,((W.length:Nat):Int) % 256]++(W.map eN).flatten:=by unfold Hz gl;rw [<-fz,hW]
   rw [e];exact ar.low S2.own aa
def jL(n:Int)(w:World):ae 141 #[n] w λe w'=>e=Value.int .i64 (cU n)/\w'=w:=by
 apply aae.vc;unfold cU;refine Br.mk (λh=> ?_) (λh=>Br.mk (λh2=> ?_) (λh2=> ?_))
 ·have h:=cS h;exact ⟨by rw [show min (max n (-140737488355328)) 140737488355328=140737488355328 from by omega],rfl⟩
 ·have h2:=cS h2;exact ⟨by rw [show min (max n (-140737488355328)) 140737488355328= -140737488355328 from by omega],rfl⟩
 ·have h:=cS h;have h2:=cS h2;exact ⟨by rw [show min (max n (-140737488355328)) 140737488355328=n from by omega],rfl⟩
def vQ(n:Int)(w:World):ae 84 #[n] w λe w'=>e=Value.int .i64 (bO n)/\w'=w:=by apply RD.vc;refine (jL n w).mono ?_;rintro e w0 ⟨rfl,rfl⟩;refine ⟨_,rfl,(GM (cU n) 65536 (by have:=kC n;unfold dJ;omega) aA w0).mono ?_⟩;rintro e w2 ⟨rfl,rfl⟩;exact ⟨_,rfl,rfl,rfl⟩
def aer(v:Ce)(w:World):ae 30 #[eg v] w λe w'=>e=(eg (bj v))/\Ext w w':=by apply aes.vc;intro w0 e0 w1 e1;have x0:=aQ e0;have z0:=zA e0;have r0:∃τ,Row w0 w (dZ v) τ:=⟨_,by rw [e0];exact Row.new w [_,_,_] _⟩;have x1:Ext w0 w1.drew:=(aQ e1).drew;obtain ⟨τ,r0⟩:=r0;have r1:=r0.ext x1;refine (vQ v.1 w1.drew).mono ?_;rintro e w2 ⟨rfl,hw⟩;subst hw;refine ⟨_,rfl,rfl,rfl,oP r1 rfl,oP r1 rfl,(vQ v.2.1 _).mono ?_⟩;rintro e w2 ⟨rfl,hw⟩;subst hw;refine ⟨_,rfl,rfl,rfl,oP r1 rfl,(vQ v.2.2 _).mono ?_⟩;rintro e w2 ⟨rfl,hw⟩;subst hw;exact ⟨_,rfl,rfl,rfl,λw8 e8=>⟨rfl,(x0.tr x1).ab e8 aa⟩⟩
def wJ(a b:Int)(w:World):ae 142 #[a,b] w λe w'=>e=Value.int .i64 (fZ a b)/\w'=w:=by apply aaf.vc;refine (jL a w).mono ?_;rintro e w0 ⟨rfl,rfl⟩;refine ⟨_,rfl,(jL b _).mono ?_⟩;rintro e w0 ⟨rfl,rfl⟩;have ha:=kC a;have hb:=kC b;refine ⟨_,rfl,?_⟩;rw [aK (n:=cU a+cU b) gA];refine (jL _ _).mono ?_;rintro e w0 ⟨rfl,rfl⟩;exact ⟨_,rfl,rfl,rfl⟩
def aag(a b:Int)(w:World):ae 181 #[a,b] w λe w'=>e=Value.int .i64 (mw a b)/\w'=w:=by apply aah.vc;refine (jL a w).mono ?_;rintro e w0 ⟨rfl,rfl⟩;refine ⟨_,rfl,(jL b _).mono ?_⟩;rintro e w0 ⟨rfl,rfl⟩;have ha:=kC a;have hb:=kC b;refine ⟨_,rfl,?_⟩;rw [aK (n:=cU a-cU b) gA];refine (jL _ _).mono ?_;rintro e w0 ⟨rfl,rfl⟩;exact ⟨_,rfl,rfl,rfl⟩
def LA(a b:Ce)(w:World):ae 85 #[eg a,eg b] w λe w'=>e=(eg (kf a b))/\Ext w w':=by apply aai.vc;intro w0 e0 w1 e1 w2 e2;have x0:=aQ e0;have z0:=zA e0;have r0:∃τ,Row w0 w (dZ a) τ:=⟨_,by rw [e0];exact Row.new w [_,_,_] _⟩;have x1:=aQ e1;have z1:=zA e1;have r1:∃τ,Row w1 w0 (dZ b) τ:=⟨_,by rw [e1];exact Row.new w0 [_,_,_] _⟩;have x2:Ext w1 w2.drew:=(aQ e2).drew;obtain ⟨τ,r0⟩:=r0;obtain ⟨τ',r1⟩:=r1;have ra:=r0.ext (x1.tr x2);have rb:=r1.ext x2;refine (wJ a.1 b.1 w2.drew).mono ?_;rintro e w3 ⟨rfl,hw⟩;subst hw;refine ⟨_,rfl,rfl,rfl,rfl,oP rb rfl,oP ra rfl,oP rb rfl,oP ra rfl,(wJ a.2.1 b.2.1 _).mono ?_⟩;rintro e w3 ⟨rfl,hw⟩;subst hw;refine ⟨_,rfl,rfl,rfl,rfl,oP rb rfl,oP ra rfl,(wJ a.2.2 b.2.2 _).mono ?_⟩;rintro e w3 ⟨rfl,hw⟩;subst hw;exact ⟨_,rfl,rfl,rfl,rfl,λw9 e9=>⟨rfl,(x0.tr (x1.tr x2)).ab e9 aa⟩⟩
def UR(v:Ce)(i:Int)(w:World):ae 180 #[eg v,i] w λe w'=>e=Value.int .i64 (cN v i)/\Ext w w':=by
 apply Vk.vc;intro w0 e0;have x0:=aQ e0;unfold cN;refine Br.mk (λh=> ?_) (λh=>Br.mk (λh2=> ?_) (λh2=>Br.mk (λh3=> ?_) (λh3=> ?_)))
 ·rw [if_pos (by simpa using h)];exact ⟨rfl,x0⟩
 ·rw [if_neg (by simpa using h),if_pos (by simpa using h2)];exact ⟨rfl,x0⟩
 ·rw [if_neg (by simpa using h),if_neg (by simpa using h2),if_pos (by simpa using h3)];exact ⟨rfl,x0⟩
 ·rw [if_neg (by simpa using h),if_neg (by simpa using h2),if_neg (by simpa using h3)];exact ⟨rfl,x0⟩
def Vl(a b:Bx):iW a b=(decide (a.1.1<b.2.1) && decide (a.1.2.1<b.2.2.1) && decide (a.1.2.2<b.2.2.2) && decide (b.1.1<a.2.1) && decide (b.1.2.1<a.2.2.1) && decide (b.1.2.2<a.2.2.2)):=by
 unfold iW ovK;have e0:∀v:Ce,cN v 0=v.1:=λ_=>rfl
 have e1:∀v:Ce,cN v 1=v.2.1:=λ_=>rfl
 have e2:∀v:Ce,cN v 2=v.2.2:=λ_=>rfl
 simp only [e0,e1,e2]
 cases decide (a.1.1<b.2.1)<;>cases decide (a.1.2.1<b.2.2.1)<;>cases decide (a.1.2.2<b.2.2.2)<;>cases decide (b.1.1<a.2.1)<;>cases decide (b.1.2.1<a.2.2.1)<;>cases decide (b.1.2.2<a.2.2.2)<;>rfl
def JU(a b:Bx)(w:World):ae 179 #[td a,td b] w λe w'=>e=Value.bool (iW a b)/\Ext w w':=by
 apply JV.vc;intro w0 e0 w1 e1;have x1:Ext w w1:=(aQ e0).br e1;rw [Vl];apply Br.mk<;>intro h1<;>apply Br.mk<;>intro h2<;>first|(apply Br.mk<;>intro h3)|skip
 all_goals (repeat' (first|(apply Br.mk<;>intro h<;>rw [h])))
 all_goals (first|rw [h1]|skip)
 all_goals (first|rw [h2]|skip)
 all_goals (first|rw [h3]|skip)
 all_goals exact ⟨bg,x1⟩
def aqB(n:Int):mw n 0=cU n:=by unfold mw cU;omega
def RE(aq:Ce)(wd h:Int)(hw:dJ wd)(w:World):ae 128 #[eg aq,wd,.int .i64 h] w λe w'=>e=(td (lQ aq wd h))/\Ext w w':=by
 apply RF.vc;intro w0 e0 w1 e1;have x0:=aQ e0;have z0:=zA e0;have r0:∃τ,Row w0 w (dZ aq) τ:=⟨_,by rw [e0];exact Row.new w [_,_,_] _⟩;have x1:Ext w0 w1.drew:=(aQ e1).drew;obtain ⟨τ,r0⟩:=r0;have r1:=r0.ext x1;have lg:=x0.tr x1;rw [ajH hw,ap8 h];have e:td (lQ aq wd h)=.agg #[(mw aq.1 (max wd 0 / 2)),(cU aq.2.1),(mw aq.2.2 (max wd 0 / 2)),(fZ aq.1 (max wd 0 / 2)),.int .i64 (fZ aq.2.1 (max h 0)),(fZ aq.2.2 (max wd 0 / 2))]:=by rw [<-aqB aq.2.1];rfl
 rw [e];have A:∀(a b:Int) {u:World} {R:Ending->World->Prop},R (.returned (.int .i64 (fZ a b))) u->ae 142 #[.int .i64 a,.int .i64 b] u R:=λa b u R h=>(wJ a b u).mono (by rintro e w' ⟨rfl,rfl⟩;exact h)
 have S:∀(a b:Int) {u:World} {R:Ending->World->Prop},R (.returned (.int .i64 (mw a b))) u->ae 181 #[.int .i64 a,.int .i64 b] u R:=λa b u R h=>(aag a b u).mono (by rintro e w' ⟨rfl,rfl⟩;exact h)
 have C:∀(a:Int) {u:World} {R:Ending->World->Prop},R (.returned (.int .i64 (cU a))) u->ae 141 #[.int .i64 a] u R:=λa u R h=>(jL a u).mono (by rintro e w' ⟨rfl,rfl⟩;exact h)
 repeat' (first
  |refine A _ _ ?_
  |refine S _ _ ?_
  |refine C _ ?_
  |refine ⟨_,rfl,rfl,rfl,?_⟩
  |refine ⟨oP r1 rfl,?_⟩
  |exact λw' e'=>⟨rfl,lg.ab e' aa⟩
  |refine ⟨?_,?_⟩)
def C5(b:dw)(hh: -1000000000<=b.ht/\b.ht<=1000000000)(h0:0<=b.ht)(w:World):ae 31 #[FJ b] w λe w'=>e=(eg (kP b))/\Ext w w':=by
 apply aaj.vc;intro w0 e0 w1 e1;have x0:=aQ e0;have z0:=zA e0;have r0:∃τ,Row w0 w (kc b) τ:=⟨_,by rw [e0];exact Row.new w [_,_,_,_,_,_,_,_,_] _⟩;have x1:Ext w0 w1.drew:=(aQ e1).drew;have z1:w1.drew.heap.size=w0.heap.size+1:=by show w1.heap.size=_;exact zA e1
 obtain ⟨τ,r0⟩:=r0;have r1:=r0.ext x1;have lg:=x0.tr x1;have e4:aw (b.ht*4)=b.ht*4:=wI;rw [e4];refine (GM (b.ht*4) 5 gA aA w1.drew).mono ?_;rintro e w2 ⟨rfl,hw⟩;subst hw;have e5:b.ht*4 / 5=Int.tdiv (b.ht*4) 5:=by rw [sa aa]
 rw [e5];refine ⟨_,rfl,rfl,rfl,oP r1 rfl,ti r1 rfl rfl rfl,(LA b.aq (0,Int.tdiv (b.ht*4) 5,0) _).mono ?_⟩;rintro e w4 ⟨rfl,x4⟩;have z4:=x4.size;exact ⟨_,_,_,rfl,x4.heap aa,x4.heap aa,oP (r1.ext x4) rfl,λw8 e8=>⟨rfl,(lg.tr x4).ab e8 aa⟩⟩
def Ca(b:dw)(hw:dJ b.wd)(w:World):ae 70 #[FJ b] w λe w'=>e=(td b.box)/\Ext w w':=by apply aak.vc;intro w0 e0 w1 e1;have x0:=aQ e0;have z0:=zA e0;have x1:=aQ e1;have z1:=zA e1;refine (RE b.aq b.wd b.ht hw w1).mono ?_;rintro e w2 ⟨rfl,x2⟩;have z2:=x2.size;exact ⟨_,_,_,_,_,_,rfl,x2.heap aa,x2.heap aa,λw9 e9=>⟨rfl,(x0.tr (x1.tr x2)).ab e9 aa⟩⟩
def RG(a b:Bx)(w:World):ae 125 #[td a,td b] w λe w'=>e=Value.bool (iW a b)/\Ext w w':=by apply RH.vc;intro w0 e0 w1 e1;have x0:=aQ e0;have z0:=zA e0;have x1:=aQ e1;have z1:=zA e1;refine (JU a b w1).mono ?_;rintro e w2 ⟨rfl,x2⟩;have z2:=x2.size;exact ⟨_,rfl,x2.heap aa,x2.heap aa,rfl,x0.tr (x1.tr x2)⟩
def xI(c:Ce):Ce:=(3+cu c.1 10,6+cu c.2.1 14,3+cu c.2.2 10)
def Qu(c:Ce):Ce:=(196608+cu c.1 589825,589824+cu c.2.1 589825,196608+cu c.2.2 589825)
def wX(n:Int):Int:=if n<0 then n else aet n
def U2(c:Ce)(hc:rT c)(w:World):ae 28 #[eg c] w λe w'=>e=(eg (xI c))/\Ext w w':=by
 apply Vm.vc;intro w0 e0 w1 e1;have x0:=aQ e0;have r0:∃τ,Row w0 w (dZ c) τ:=⟨_,by rw [e0];exact Row.new w [_,_,_] _⟩;have z0:=zA e0;have x1:Ext w0 w1.drew:=(aQ e1).drew;obtain ⟨τ,r0⟩:=r0;have r1:=r0.ext x1;obtain ⟨h1,h2,h3⟩:=hc;have A:∀(a m:Int) {u:World} {R:Ending->World->Prop},dJ a->0<m->dJ m->R (.returned (.int .i64 (cu a m))) u->ae 10 #[.int .i64 a,.int .i64 m] u R:=λa m u R ha hm hi h=>(iG a m u ha hm hi).mono (by rintro e w' ⟨rfl,rfl⟩;exact h)
 have b1:=cK c.1 10 aA;have b2:=cK c.2.1 14 aA;have b3:=cK c.2.2 10 aA;refine A _ _ h1 aA gA ⟨_,rfl,rfl,rfl,oP r1 rfl,oP r1 rfl,A _ _ h2 aA gA ⟨_,rfl,rfl,rfl,oP r1 rfl,A _ _ h3 aA gA ⟨_,rfl,rfl,rfl,λw8 e8=>⟨?_,(x0.tr x1).ab e8 aa⟩⟩⟩⟩;rw [aK (n:=3+cu c.1 10) gA,aK (n:=6+cu c.2.1 14) gA,aK (n:=3+cu c.2.2 10) gA];rfl
def U1(c:Ce)(hc:rT c)(w:World):ae 52 #[eg c] w λe w'=>e=(eg (Qu c))/\Ext w w':=by
 apply Vn.vc;intro w0 e0 w1 e1;have x0:=aQ e0;have r0:∃τ,Row w0 w (dZ c) τ:=⟨_,by rw [e0];exact Row.new w [_,_,_] _⟩;have z0:=zA e0;have x1:Ext w0 w1.drew:=(aQ e1).drew;obtain ⟨τ,r0⟩:=r0;have r1:=r0.ext x1;obtain ⟨h1,h2,h3⟩:=hc;have A:∀(a m:Int) {u:World} {R:Ending->World->Prop},dJ a->0<m->dJ m->R (.returned (.int .i64 (cu a m))) u->ae 10 #[.int .i64 a,.int .i64 m] u R:=λa m u R ha hm hi h=>(iG a m u ha hm hi).mono (by rintro e w' ⟨rfl,rfl⟩;exact h)
 have b1:=cK c.1 589825 aA;have b2:=cK c.2.1 589825 aA;have b3:=cK c.2.2 589825 aA;refine A _ _ h1 aA gA ⟨_,rfl,rfl,rfl,oP r1 rfl,oP r1 rfl,A _ _ h2 aA gA ⟨_,rfl,rfl,rfl,oP r1 rfl,A _ _ h3 aA gA ⟨_,rfl,rfl,rfl,λw8 e8=>⟨?_,(x0.tr x1).ab e8 aa⟩⟩⟩⟩;rw [aK (n:=196608+cu c.1 589825) gA,aK (n:=589824+cu c.2.1 589825) gA,aK (n:=196608+cu c.2.2 589825) gA];rfl
def qR(n:Int)(hn:dJ n)(w:World):ae 56 #[n] w λe w'=>e=Value.int .i64 (wX n)/\w'=w:=by
 apply RI.vc;unfold wX;apply Br.mk<;>intro h
 ·rw [if_pos (by simpa using h)];exact ⟨rfl,rfl⟩
 ·rw [if_neg (by simpa using h)];refine (Fc n w hn).mono ?_;rintro e w0 ⟨rfl,rfl⟩;exact ⟨_,rfl,rfl,rfl⟩
variable {R:Ending->World->Prop} {w:World} {a0 a1 a2 a3 aE au aB aH aG aM dW gy gE J8 J9 De dq ef dj:Int}
def Av.vc{a0:Addr}{De:Bool}(h:(λA=>
 Aw w #[aH,aG,aM,dW,gy,gE,J8,J9,De] 70 λw0=>
 gZ w0.drew A λp1=>
 ae 30 #[.agg #[aH,aG,aM]] w0.drew (jl λx3 x4 x5 w2=>Kp w w0.drew w2/\
 ah w2 A 0 [.pointer p1]/\ae 100 #[p1,.agg #[x3,x4,x5]] w2 (Rb λb7 w6=>Kp w w2 w6/\
 R b7 w6))) (af (some a0) 0)):ae 107 #[a0,.agg #[aH,aG,aM,dW,gy,gE,J8,J9,De]] w R:=
 cq bG func107 h
def Cc.vc{a0:Addr}(h:(λA B=>
 Aw w #[aH,aG,aM] 41 λw0=>
 sN (λI1 n2=>aN B/\I1 n2 (0) w0) λI1 n2 us3 x4 w5=>(λAa Ab=>
 Br (x4<16)
 (kB w5.drew A λs7=>(λAc=>
 eL s7.a x4 s7.n/\aT (fq (af s7.a Aa)) (DJ w5.drew Ac λb8=>
 Br b8
 (kB w5.drew A λs9=>
 eL s9.a x4 s9.n/\aT (fq (af s9.a Aa)) (ij w5.drew (af (af s9.a Aa) 1) λbE bK bW cR cB cW du dH b18=>
 ae 70 #[.agg #[bE,bK,bW,cR,cB,cW,du,dH,b18]] w5.drew (yj λdN eO fN fC gW eZ fK=>Kp w w5.drew fK/\
 ah fK w 0 B/\ah fK A 0 [s9]/\ah fK Ac 0 [.bool b8]/\ah fK A 0 [s7]/\ae 126 #[.agg #[aH,aG,aM]] fK (yj λjm nv jk nu lp lr gx=>Kp w fK gx/\
 ah gx A 0 [s9]/\ah gx Ac 0 [.bool b8]/\ah gx A 0 [s7]/\ae 125 #[.agg #[dN,eO,fN,fC,gW,eZ],.agg #[jm,nv,jk,nu,lp,lr]] gx (Rb λb34 fL=>Kp w gx fL/\
 ah fL A 0 [s9]/\ah fL Ac 0 [.bool b8]/\ah fL A 0 [s7]/\Br b34
 (R true fL)
 (∃n6,n6<n2/\aN B/\I1 n6 Ab fL))))))
 (∃n6,n6<n2/\aN B/\I1 n6 Ab w5.drew))) (af (af s7.a Aa) 0))
 (R false w5)) ((x4:Int).toNat*13) ((aw (x4+1)))) (af (some a0) 2) [aH,aG,aM]):ae 67 #[a0,.agg #[aH,aG,aM]] w R:=
 cq (Of 2 5) func67 h
def Cd.vc{a0:Addr}(h:(λA B=>
 Aw w A 41 λw0=>
 ae 114 #[a2] w0 (Rb λb2 w1=>Kp w w0 w1/\
 Br b2
 (ae 67 #[a0,.agg A] w1 (Rb λb4 w3=>Kp w w1 w3/\
 Br b4
 (R (12:Int) w3)
 (gZ w3.drew B λp5=>
 ae 113 #[p5,.agg A,a2] w3.drew (Ri λx7 w6=>Kp w w3.drew w6/\
 R x7 w6))))
 (gZ w1.drew B λp8=>
 ae 113 #[p8,.agg A,a2] w1.drew (Ri λbE w9=>Kp w w1.drew w9/\
 R bE w9)))) #[aH,aG,aM] (af (some a0) 1)):ae 60 #[a0,.agg #[aH,aG,aM],a2] w R:=
 cq bG func60 h
def zZ.vc{a0:Addr}(h:(λ(A:Array Value)(B:LV) C D (E:LV)=>
 Aw w #[aH,aG,aM] 28 λw0=>(λAa=>
 Aw w0 #[ai,ai,ai,ai,ai,ai,ai,ai,false] 75 λw1=>
 Sw w1 w0 A λw2=>
 ae 106 #[.agg A] w2 (Rb λb4 w3=>Aa w2 w3 (
 Br (!b4)
 (R (dS #[D,(1:Int)]) w3)
 (se (λI5 n6=>aN E/\aN B/\I5 n6 (15) ((-1)) w3) λI5 n6 us7 x8 x9 bo=>(λAb Ac Ad=>
 Br (x8>=0)
 (kB bo (af C 2) λpj=>
 eL pj.a x8 pj.n/\aT (fq (af pj.a Ac)) (DJ bo (af (af pj.a Ac) 0) λOi=>
 Br (!Oi)
 (∃tN,tN<n6/\aN E/\aN B/\I5 tN Ad x8 bo)
 (∃tN,tN<n6/\aN E/\aN B/\I5 tN Ad x9 bo)))
 (Br (x9<0)
 (R (dS #[D,(8:Int)]) bo)
 (ae 107 #[a0,.agg A] bo (Rb λTe bH=>Aa bo bH (
 Br (!Te)
 (R (dS #[D,(11:Int)]) bH)
 (gZ bH.drew (af C 0) λp16=>
 ae 27 #[p16] bH.drew (Rv λv18 cL=>Aa bH.drew cL (
 ah cL (aD w0) 0 B/\ae 70 #[.agg A] cL (yj λdN eO fN fC gW eZ fK=>Aa cL fK (
 ae 46 #[v18,.agg #[dN,eO,fN,fC,gW,eZ]] fK (Rb λKa gx=>Aa fK gx (
 Br Ka
 (R (dS #[D,(12:Int)]) gx)
 (gZ gx.drew (af C 0) λp28=>
 ae 27 #[p28] gx.drew (Rv λv30 eG=>Aa gx.drew eG (
 ah eG (aD w0) 0 B/\ae 70 #[.agg A] eG (yj λlr fD jO oV oW lh gS=>Aa eG gS (
 ae 49 #[v30,.agg #[lr,fD,jO,oV,oW,lh]] gS (Rb λb39 oE=>Aa gS oE (
 Sw oE w0 #[aH,aG,aM,ai,ai,ai,a2,a3,b39] λkz=>
 kB kz.drew (af C 2) λs41=>(λAe=>
 eL s41.a x9 s41.n/\((Ae).isSome=true/\Wr kz.drew Ae 13)/\bk Ae≠some w.heap.size/\bk Ae≠some w0.heap.size/\(Pw kz.drew Ae [.bool true,aH,aG,aM,ai,ai,ai,a2,a3,b39,ai,ai,false] λlf=>
 R (dS #[x9,ai]) lf)) (af s41.a Ab)))))))))))))))))))) ((x9:Int).toNat*13) ((x8:Int).toNat*13) ((aw (x8-1))))))) (K2 w w0)) #[aH,aG,aM,ai,ai,ai,a2,a3,false] [aH,aG,aM,ai,ai,ai,a2,a3,false] (some a0) (-1:Int) [aH,aG,aM]):ae 53 #[a0,.agg #[aH,aG,aM],a2,a3] w R:=
 cq (Yc 6 12 11) func53 h
def Cf.vc{a0:Addr}(h:(λ(A:Array Value) B C (D:LV) (E:Array Value) G H L=>
 Aw w E 28 λw0=>(λAa=>
 Aw w0 A 77 λw1=>
 Br (a1<0)
 (Sw w1 w0 A λw2=>
 R (dS #[.agg A,(6:Int)]) w2)
 (Br (a1>15)
 (Sw w1 w0 A λw3=>
 R (dS #[.agg A,(6:Int)]) w3)
 (kB w1 B λs4=>(λAb=>
 eL s4.a (if 0>C then 0 else C) s4.n/\aT (fq Ab) (∃(b5:Bool),ld w1 (af Ab 0)=some (.bool b5)/\
 Br (!b5)
 (Sw w1 w0 A λw6=>
 R (dS #[.agg A,(6:Int)]) w6)
 (gZ w1.drew (af (some a0) 0) λp7=>
 kB w1.drew B λs8=>(λAc=>
 eL s8.a a1 s8.n/\aT (fq Ac) (ij w1.drew (af Ac 1) λx9 bE bK bW cR cB cW du b17=>(λ(Ad:Array Value)(Ae:LV)=>
 (ae 27 #[p7] w1.drew (Rv λv19 dI=>Aa w1.drew dI (
 ah dI w 0 D/\ah dI (af Ac 1) 0 Ae/\ah dI B 0 [s8]/\(ae 31 Ad dI (jl λeO fN fC fx=>(λ(Af:Array Value)=>Aa dI fx (
 ah fx w 0 D/\ah fx B 0 [s8]/\(ae 87 Af fx (Ch λeZ jN jm nv jk nu b31 gC=>(λ(Ag:Array Value)=>Aa fx gC (
 ah gC B 0 [s8]/\Aw gC A 77 λqT=>
 Sw qT gC Ag λfL=>
 Br (!b31)
 (Sw fL w0 A λlq=>
 R (dS #[.agg A,G]) lq)
 (Br (nv==(-1))
 (Sw fL w0 A λgT=>
 R (dS #[.agg A,H]) gT)
 (Sw fL w0 Ag λkH=>
 R (dS #[.agg Ag,L]) kH)))) #[eZ,jN,jm,nv,jk,nu]))/\(Aw fx A 77 λiR=>
 ae 87 Af iR (Ch λqv pF om qU zp pk b45 oE=>(λ(Ah:Array Value)=>K3 w w0 fx iR oE (
 ah oE B 0 [s8]/\Sw oE fx Ah λsI=>
 Br (!b45)
 (Sw sI w0 A λnA=>
 R (dS #[.agg A,G]) nA)
 (Br (qU==(-1))
 (Sw sI w0 A λiw=>
 R (dS #[.agg A,H]) iw)
 (Sw sI w0 Ah λpG=>
 R (dS #[.agg Ah,L]) pG)))) #[qv,pF,om,qU,zp,pk])))) #[v19,.agg #[eO,fN,fC],.agg E,(5:Int)]))/\(Aw dI A 77 λqo=>
 ae 31 Ad qo (jl λrq kS qV uL=>K3 w w0 dI qo uL (
 ah uL w 0 D/\ah uL B 0 [s8]/\ae 87 #[v19,.agg #[rq,kS,qV],.agg E,(5:Int)] uL (Ch λxV rJ zw uo oo zI b62 xm=>(λ(Ai:Array Value)=>K3 w w0 dI uL xm (
 ah xm B 0 [s8]/\Sw xm dI Ai λKb=>
 Br (!b62)
 (Sw Kb w0 A λuV=>
 R (dS #[.agg A,G]) uV)
 (Br (uo==(-1))
 (Sw Kb w0 A λLY=>
 R (dS #[.agg A,H]) LY)
 (Sw Kb w0 Ai λsQ=>
 R (dS #[.agg Ai,L]) sQ)))) #[xV,rJ,zw,uo,oo,zI])))))))/\(Aw w1.drew A 77 λoy=>
 ae 27 #[p7] oy (Rv λv69 uK=>Aa oy uK (
 uK.heap[w1.drew.heap.size]? =oy.heap[w1.drew.heap.size]?/\
 ah uK w 0 D/\ah uK (af Ac 1) 0 Ae/\ah uK B 0 [s8]/\ae 31 Ad uK (jl λuM wM uW qD=>Aa uK qD (
 qD.heap[w1.drew.heap.size]? =uK.heap[w1.drew.heap.size]?/\
 ah qD w 0 D/\ah qD B 0 [s8]/\ae 87 #[v69,.agg #[uM,wM,uW],.agg E,(5:Int)] qD (Ch λFk II x77 Oj Kc FX b81 oq=>(λ(Aj:Array Value)=>Aa qD oq (
 oq.heap[w1.drew.heap.size]? =qD.heap[w1.drew.heap.size]?/\
 ah oq B 0 [s8]/\Sw oq w1.drew.heap.size Aj λw82=>
 Br (!b81)
 (Sw w82 w0 A λXF=>
 R (dS #[.agg A,G]) XF)
 (Br (Oj==(-1))
 (Sw w82 w0 A λJg=>
 R (dS #[.agg A,H]) Jg)
 (Sw w82 w0 Aj λw85=>
 R (dS #[.agg Aj,L]) w85)))) #[Fk,II,x77,Oj,Kc,FX]))))))) #[.agg #[x9,bE,bK,bW,cR,cB,cW,du,b17]] [x9,bE,bK,bW,cR,cB,cW,du,b17])) (af s8.a ((a1:Int).toNat*13))))) (af s4.a (((if 0>C then 0 else C):Int).toNat*13))))) (K2 w w0)) #[ai,ai,ai,ai,ai,ai] (af (some a0) 2) (if 15<a1 then 15 else a1) [dq,ef,dj] #[dq,ef,dj] (13:Int) (11:Int) (0:Int)):ae 63 #[a0,a1,.agg #[dq,ef,dj]] w R:=
 cq bG func63 h
def Ax.vc{a0:Addr}(h:
 Aw w #[dq,ef,dj] 28 λw0=>
 ae 63 #[a0,a1,.agg #[dq,ef,dj]] w0 (Yd λx2 x3 x4 x5 x6 x7 x8 w1=>Kp w w0 w1/\
 Aw w1 #[ai,ai,ai,ai,ai,ai] 77 λw9=>
 Sw w9 w1 #[x2,x3,x4,x5,x6,x7] λbo=>
 Br (x8==6)
 (R x8 bo)
 (ae 111 #[a3] bo (Rb λb12 bw=>K2 w w1 bo bw (
 Br (!b12)
 (R (1:Int) bw)
 (Br (a3==0)
 (R (1:Int) bw)
 (Br (x8 !=0)
 (R x8 bw)
 (Br (x6<0)
 (R (12:Int) bw)
 (ae 112 #[.agg #[x2,x3,x4]] bw (Mq λcB cW du dH dc db dN eO fN fC gW eZ jN jm nv jk nu lp bP=>K2 w w1 bw bP (
 Aw bP #[ai,ai,ai,ai,ai,ai,ai,ai,ai,ai,ai,ai,ai,ai,ai,ai,ai,ai] 186 λqT=>
 Wt qT ⟨bP,0,none⟩ 18/\Nb bP w/\Nb bP w1/\(Pw qT (aD bP) [cB,cW,du,dH,dc,db,dN,eO,fN,fC,gW,eZ,jN,jm,nv,jk,nu,lp] λfL=>
 (0:Int)<=x6/\x6<((6:Nat):Int)/\gM fL (af (aD bP) ((x6:Int).toNat*3)) λjO oV oW=>
 ae 60 #[a0,.agg #[jO,oV,oW],a3] fL (Ri λkm iR=>K2 w w1 fL iR (
 R km iR)))))))))))))):ae 57 #[a0,a1,.agg #[dq,ef,dj],a3] w R:=
 cq bG func57 h
def Ci.vc{a0:Addr}(h:
 Aw w #[dq,ef,dj] 28 λw0=>
 ae 63 #[a0,a1,.agg #[dq,ef,dj]] w0 (Yd λx2 x3 x4 x5 x6 x7 x8 w1=>Kp w w0 w1/\
 Aw w1 #[ai,ai,ai,ai,ai,ai] 77 λw9=>
 Sw w9 w1 #[x2,x3,x4,x5,x6,x7] λbo=>
 Br (x8 !=0)
 (R (dS #[ai,x8]) bo)
 (ae 60 #[a0,.agg #[x2,x3,x4],(0:Int)] bo (Ri λbW bw=>K2 w w1 bo bw (
 Br (bW !=0)
 (R (dS #[ai,bW]) bw)
 (R (dS #[x5,ai]) bw)))))):ae 58 #[a0,a1,.agg #[dq,ef,dj]] w R:=
 cq bG func58 h
def yk.vc{c0:Addr}(h:
 Aw w #[aE,au,aB] 41 λw0=>
 gZ w0 (some c0) λp1=>
 ae 67 #[p1,.agg #[aE,au,aB]] w0 (Rb λb3 w2=>Kp w w0 w2/\
 R b3 w2)):ae 120 #[.agg #[aE,au,aB],c0] w R:=
 cq bG func120 h
def Cj.vc{a0:Addr}(h:(λA B C=>
 Aw w #[a0] 23 λw0=>
 oz (λI1 n2=>aN A/\I1 n2 (0) ⟨none,0,0⟩ w0) λI1 n2 us3 x4 s5 w6=>(λAa Ab Ac=>
 Br (x4<16)
 (kB w6.drew B λs8=>(λAd=>
 eL s8.a x4 s8.n/\aT (fq Ad) (DJ w6.drew (af Ad 0) λb9=>
 Br b9
 (kB w6.drew B λIJ=>
 eL IJ.a x4 IJ.n/\aT (fq (af IJ.a Aa)) (ij w6.drew (af (af IJ.a Aa) 1) λbK bW cR cB cW du dH dc b19=>
 ae 107 #[a0,.agg #[bK,bW,cR,cB,cW,du,dH,dc,b19]] w6.drew (Rb λTh fx=>Kp w w6.drew fx/\
 ah fx B 0 [IJ]/\ah fx w 0 A/\ah fx (af Ad 0) 0 [.bool b9]/\ah fx B 0 [s8]/\ah fx w 0 A/\Br Th
 (Aw fx #[x4] 3 λdm=>
 ba 8 1 dm s5 1 [x4]/\∀(s23:Sl)(gC:World),aX 3 1 dm s5 1 [x4] s23 gC->K2 w fx dm gC (
 ∃n7,n7<n2/\aN A/\I1 n7 Ab s23 gC))
 (∃n7,n7<n2/\aN A/\I1 n7 Ab s5 fx))))
 (∃n7,n7<n2/\aN A/\I1 n7 Ab s5 w6.drew))) (af s8.a Aa))
 (oz (λI25 n26=>aN A/\I25 n26 (0) ⟨none,0,0⟩ w6) λI25 n26 aFL nv s29 gR=>
 Br (decide (nv<Ac))
 (kB gR.drew B λBJ=>
 eL s5.a nv s5.n/\kW gR.drew (af s5.a ((nv:Int).toNat*1)) λfD=>
 eL BJ.a fD BJ.n/\∃(b34:Bool)(oV oW lh km qv pF om qU:Int)(VQ:Bool)(pk uN:Int)(b46:Bool),ah gR.drew (af BJ.a ((fD:Int).toNat*13)) 0 [.bool b34,oV,oW,lh,km,qv,pF,om,qU,VQ,pk,uN,b46]/\
 Aw gR.drew #[false,ai,ai,ai,ai,ai,ai,ai,ai,false,ai,ai,false] 117 λnA=>
 Sw nA gR.drew.heap.size #[b34,oV,oW,lh,km,qv,pF,om,qU,VQ,pk,uN,b46] λiw=>
 gZ iw.drew (af C 0) λp49=>
 ae 27 #[p49] iw.drew (Rv λv51 qo=>Kp w iw.drew qo/\qo.heap[gR.drew.heap.size]? =iw.drew.heap[gR.drew.heap.size]?/\
 ah qo (fP gR.drew.heap.size 10) 0 [pk,uN,b46]/\ah qo w 0 A/\ah qo (fP gR.drew.heap.size 1) 0 [oV,oW,lh,km,qv,pF,om,qU,VQ]/\ae 116 #[.agg #[oV,oW,lh,km,qv,pF,om,qU,VQ],v51,.agg #[pk,uN,b46]] qo (acI λkS qV oG xV rJ zw uo oo b61 Ti=>(λAe=>Kp w qo Ti/\Ti.heap[gR.drew.heap.size]? =qo.heap[gR.drew.heap.size]?/\
 ah Ti w 0 A/\Aw Ti #[kS,qV,oG,xV,rJ,zw,uo,oo,b61] 70 λjX=>
 ba 72 9 jX s29 1 Ae/\∀(s63:Sl)(uV:World),aX 70 9 jX s29 1 Ae s63 uV->Kp w jX uV/\uV.heap[gR.drew.heap.size]? =jX.heap[gR.drew.heap.size]?/\Kp Ti jX uV/\
 ah uV w 0 A/\∃n31,n31<n26/\aN A/\I25 n31 ((aw (nv+1))) s63 uV) [kS,qV,oG,xV,rJ,zw,uo,oo,b61])))
 (gZ gR (af C 0) λp65=>
 ae 27 #[p65] gR (Rv λv67 sQ=>Kp w gR sQ/\
 ae 117 #[v67,s29] sQ (Rs λs69 uK=>Kp w sQ uK/\
 sN (λI70 n71=>aN A/\I70 n71 (0) uK) λI70 n71 aw9 uW oq=>
 Br (decide (uW<Ac))
 (Br (decide (uW<((s69.n:Nat):Int)))
 (kB oq.drew B λs76=>
 eL s5.a uW s5.n/\kW oq.drew (af s5.a ((uW:Int).toNat*1)) λx77=>(λAf=>
 eL s69.a uW s69.n/\ij oq.drew (af s69.a ((uW:Int).toNat*9)) λOj Kc FX zJ zK Fl Ke Kf b86=>
 eL s76.a x77 s76.n/\aT (fq Af) ((((af Af 1)).isSome=true/\Wr oq.drew (af Af 1) 9)/\bk (af Af 1)≠some w.heap.size/\(Pw oq.drew (af Af 1) [Oj,Kc,FX,zJ,zK,Fl,Ke,Kf,b86] λEo=>
 ∃n75,n75<n71/\aN A/\I70 n75 ((aw (uW+1))) Eo))) (af s76.a ((x77:Int).toNat*13)))
 (gZ oq (af C 1) λp88=>
 ae 118 #[p88,.func (.func 120) #[] #[w]] oq (Rt λqw=>gZ qw (aD w) λp90=>
 aT (fq p90) (aT (fq p90) (gZ qw (af p90 1) λp91=>
 ae 119 #[p91] qw (kX λEp Kg=>R Ep Kg))))))
 (gZ oq (af C 1) λp94=>
 ae 118 #[p94,.func (.func 120) #[] #[w]] oq (Rt λw95=>gZ w95 (aD w) λp96=>
 aT (fq p96) (aT (fq p96) (gZ w95 (af p96 1) λp97=>
 ae 119 #[p97] w95 (kX λOl Tj=>R Ol Tj)))))))))) ((x4:Int).toNat*13) ((aw (x4+1))) ((s5.n:Nat):Int)) [.pointer (some a0)] (af (some a0) 2) (some a0)):ae 65 #[a0] w R:=
 cq ⟨[(15,⟨[(9,.int .i64)],[],[]⟩),(9,⟨[(6,.int .i64),(4,.slice)],[],[]⟩),(4,⟨[(5,.int .i64),(3,.slice)],[],[]⟩)],[],[]⟩ func65 h
end Go.Proofs.YtkkkfkopcfdmaaaGreatDoor
