import Derived.Test.YtalpkjfpmdpbiaaGreatDoorKT
import Derived.Test.YtalpkjfpmdpbiaaGreatDoorGF
import Derived.Test.YtalpkjfpmdpbiaaGreatDoorP
import Derived.Test.YtalpkjfpmdpbiaaGreatDoorWA
set_option linter.all false
namespace Go.Proofs.YtalpkjfpmdpbiaaGreatDoor
open Go Go.Vc Go.RowKit Go.Proofs Go.dS Go.bh Go.Code Go.iQ
def dH(c:Ce):Prop:=(-2000000000<=c.1/\c.1<=2000000000)/\(-2000000000<=c.2.1/\c.2.1<=2000000000)/\-2000000000<=c.2.2/\c.2.2<=2000000000
def nZ(c:Ce):Prop:=(-1000000000<=c.1/\c.1<=1000000000)/\(-1000000000<=c.2.1/\c.2.1<=1000000000)/\-1000000000<=c.2.2/\c.2.2<=1000000000
def dH.ok{c:Ce}(h:dH c):lY c:=by unfold dH at h;unfold lY inI;omega
def nZ.wide{c:Ce}(h:nZ c):dH c:=by unfold nZ at h;unfold dH;omega
def wQ{c:Ce}(h:dH c){n:Ce}(hn:n ∈ iI c):lY n:=by unfold dH at h;unfold iI bz iw at hn;simp only [bJ,fY,or_false] at hn;rcases hn with rfl|rfl|rfl|rfl|rfl|rfl<;>(unfold lY inI;simp only;omega)
def WU{c:Ce}(h:nZ c){n:Ce}(hn:n ∈ iI c):dH n:=by unfold nZ at h;unfold iI bz iw at hn;simp only [bJ,fY,or_false] at hn;rcases hn with rfl|rfl|rfl|rfl|rfl|rfl<;>(unfold dH;simp only;omega)
def nt(n:Int)(h: -2147483648<=n/\n<=2147483648)(w:World):ah 143 #[n] w λe w'=>e=n/\w'=w:=by apply RU.vc;have e1:(if (-2147483648)>n then (-2147483648) else n)=n:=if_neg aa;rw [e1,if_neg aa];exact ⟨rfl,rfl⟩
def TM(c:Ce)(h:(-2147483648<=c.1/\c.1<=2147483648)/\(-2147483648<=c.2.1/\c.2.1<=2147483648)/\-2147483648<=c.2.2/\c.2.2<=2147483648)(w:World):ah 142 #[iG c] w λe w'=>e=(iG c)/\Ext w w':=by
 apply RQ.vc;intro w0 e0 w1 e1;have x1:Ext w w1:=(bo e0).ay e1;have z0:=dt e0;have r0:Row w1 w [c.1,c.2.1,c.2.2] gz:=(by rw [e0];exact Row.new w [_,_,_] _:Row w0 w _ _).ext (bo e1);have xd:=Ext.dr w1;have r1:=r0.ext xd;refine (nt c.1 h.1 w1.drew).mono ?_;rintro e w2 ⟨rfl,rfl⟩;refine ⟨_,rfl,rfl,rfl,r1.aY (o:=2) (λj hj=>by
  match j,hj with
  |0,_=>rfl),r1.aY (o:=1) (λj hj=>by
  match j,hj with
  |0,_=>rfl),(nt c.2.1 h.2.1 w1.drew).mono ?_⟩
 rintro e w4 ⟨rfl,rfl⟩;refine ⟨_,rfl,rfl,rfl,r1.aY (o:=2) (λj hj=>by
  match j,hj with
  |0,_=>rfl),(nt c.2.2 h.2.2 w1.drew).mono ?_⟩
 rintro e w6 ⟨rfl,rfl⟩;exact ⟨_,rfl,rfl,rfl,λw8 e8=>⟨rfl,(x1.tr xd).ab e8 aa⟩⟩
def j0(a b d:Int)(c c':Ce)(he:c'=(c.1+a,c.2.1+b,c.2.2+d))(hc:dH c)(ha:(-1<=a/\a<=1)/\(-1<=b/\b<=1)/\-1<=d/\d<=1){g:Nat}{w:World}(hr:Row w g [c.1,c.2.1,c.2.2] gz):
  ah 141 #[a,b,d,g] w λe w'=>e=(iG c')/\Ext w w':=by
 subst he;apply G3.vc;obtain ⟨⟨h1,h2⟩,⟨h3,h4⟩,h5,h6⟩:=id hc;intro w0 e0;have x0:=bo e0;have z0:=dt e0;have xd:=x0.tr (Ext.dr w0);have zd:=kQ w0;have r1:=hr.ext xd;have q1:ai (c.1+a)=c.1+a:=wI;have q2:ai (c.2.1+b)=c.2.1+b:=wI;have q3:ai (c.2.2+d)=c.2.2+d:=wI;refine ⟨c.1,r1.at 0 rfl,c.2.1,r1.at 1 rfl,c.2.2,r1.at 2 rfl,(nt c.1 aa w0.drew).mono ?_⟩;rintro e w4 ⟨rfl,rfl⟩;refine ⟨_,rfl,rfl,lG (r1.at 2 rfl),lG (r1.at 1 rfl),(nt c.2.1 aa w0.drew).mono ?_⟩;rintro e w6 ⟨rfl,rfl⟩;refine ⟨_,rfl,rfl,lG (r1.at 2 rfl),(nt c.2.2 aa w0.drew).mono ?_⟩;rintro e w8 ⟨rfl,rfl⟩;refine ⟨_,rfl,rfl,?_⟩;rw [q1,q2,q3];refine (TM (c.1+a,c.2.1+b,c.2.2+d) (by simp only;omega) w0.drew).mono ?_;rintro e bL ⟨rfl,bq⟩;exact ⟨_,_,_,rfl,bq.heap aa,λbY mB=>⟨rfl,(xd.tr bq).ab mB (ax _)⟩⟩
abbrev dn(c:Ce):LV:=[.int .i64 c.1,.int .i64 c.2.1,.int .i64 c.2.2]
def A4(c:Ce):One (dn c):=by intro v hv;simp at hv;rcases hv with rfl|rfl|rfl<;>rfl
abbrev L7(c:Ce):LV:=[.int .i64 (c.1-1),.int .i64 c.2.1,.int .i64 c.2.2,.int .i64 (c.1+1),.int .i64 c.2.1,.int .i64 c.2.2,.int .i64 c.1,.int .i64 (c.2.1-1),.int .i64 c.2.2,.int .i64 c.1,.int .i64 (c.2.1+1),.int .i64 c.2.2,.int .i64 c.1,.int .i64 c.2.1,.int .i64 (c.2.2-1),.int .i64 c.1,.int .i64 c.2.1,.int .i64 (c.2.2+1)]
def L8(c:Ce):One (L7 c):=by intro v hv;simp only [L7,bJ,fY,or_false] at hv;rcases hv with rfl|rfl|rfl|rfl|rfl|rfl|rfl|rfl|rfl|rfl|rfl|rfl|rfl|rfl|rfl|rfl|rfl|rfl<;>rfl
def TN(c:Ce):L7 c=((iI c).map dn).flatten:=rfl
def ox{cs vs:LV}(h:vs.length=cs.length):aW cs 0 vs=vs:=by rw [dE _ _ _ aa];simp [<-h]
def jN{a b c a' b' c':Int}(h1:a=a')(h2:b=b')(h3:c=c'):((a,b,c):Ce)=(a',b',c'):=by rw [h1,h2,h3]
set_option maxRecDepth 100000 in
def lu(c:Ce)(hc:dH c)(w:World):ah 93 #[iG c] w λe w'=>e=Value.agg (L7 c).toArray/\Ext w w':=by apply Oi.vc;intro w0 e0 w1 e1;have x1:Ext w w1:=(bo e0).ay e1;have z0:=dt e0;have r0:Row w1 w [c.1,c.2.1,c.2.2] gz:=(by rw [e0];exact Row.new w [_,_,_] _:Row w0 w _ _).ext (bo e1);have rb:Row w1 w0 [af,af,af,af,af,af,af,af,af,af,af,af,af,af,af,af,af,af] 161:=Row.nw e1;refine (j0 (-1) 0 0 c (c.1-1,c.2.1,c.2.2) (jN aa aa aa) hc aC r0).mono ?_;rintro e w2 ⟨rfl,x2⟩;refine ⟨_,_,_,rfl,(j0 1 0 0 c (c.1+1,c.2.1,c.2.2) (jN aa aa aa) hc aC (r0.ext x2)).mono ?_⟩;rintro e w6 ⟨rfl,x6⟩;have y6:=x2.tr x6;refine ⟨_,_,_,rfl,(j0 0 (-1) 0 c (c.1,c.2.1-1,c.2.2) (jN aa aa aa) hc aC (r0.ext y6)).mono ?_⟩;rintro e bL ⟨rfl,bq⟩;have UH:=y6.tr bq;refine ⟨_,_,_,rfl,(j0 0 1 0 c (c.1,c.2.1+1,c.2.2) (jN aa aa aa) hc aC (r0.ext UH)).mono ?_⟩;rintro e bY ⟨rfl,bW⟩;have y14:=UH.tr bW;refine ⟨_,_,_,rfl,(j0 0 0 (-1) c (c.1,c.2.1,c.2.2-1) (jN aa aa aa) hc aC (r0.ext y14)).mono ?_⟩;rintro e dA ⟨rfl,cf⟩;have y18:=y14.tr cf;refine ⟨_,_,_,rfl,(j0 0 0 1 c (c.1,c.2.1,c.2.2+1) (jN aa aa aa) hc aC (r0.ext y18)).mono ?_⟩;rintro e ct ⟨rfl,eK⟩;have y22:=y18.tr eK;have r22:=rb.ext y22;refine ⟨_,_,_,rfl,⟨rfl,r22.wr cx⟩,λhZ Jo=> ?_⟩;have Jo:hZ=bc ct (bu w0.heap.size) (L7 c):=Jo;rw [r22.bc (vs:=L7 c) cx (L8 c),ox cx] at Jo;have hr':Row hZ w0 (L7 c) 161:=r22.st Jo;exact ⟨_,_,_,_,_,_,_,_,_,_,_,_,_,_,_,_,_,_,hr'.aY (λj hj=>by rw [cP]),rfl,(x1.tr y22).ab Jo aa⟩
def rP(b:Int)(w:World):ah 94 #[b] w λe w'=>e=Value.bool (b==3)/\w'=w:=by apply Hm.vc;exact ⟨rfl,rfl⟩
def mY(b:Int)(w:World):ah 134 #[b] w λe w'=>e=Value.bool (fu b)/\w'=w:=by
 apply Ou.vc;unfold fu;refine Br.mk (λh=>⟨?_,rfl⟩) (λh=>⟨?_,rfl⟩)
 ·have h1:=kX h;rw [decide_eq_true h1,re]
 ·have h1:=kX h;rw [decide_eq_false h1,M8]
def IX(b:Int)(w:World):ah 185 #[b] w λe w'=>e=Value.bool (qM b)/\w'=w:=by
 apply Ew.vc;unfold qM;refine Br.mk (λh=>⟨?_,rfl⟩) (λh=>(mY b w).mono ?_)
 ·have h1:=kX h;rw [decide_eq_true h1,Bool.true_or]
 ·rintro e w' ⟨rfl,rfl⟩;have h1:=kX h;rw [decide_eq_false h1,Bool.false_or];exact ⟨_,rfl,rfl,rfl⟩
def Am(b:Int)(w:World):ah 89 #[b] w λe w'=>e=Value.int .i64 (bQ b)/\w'=w:=by
 apply KE.vc;refine (rP b w).mono ?_;rintro e w0 ⟨rfl,rfl⟩;unfold bQ;refine ⟨_,rfl,Br.mk (λh=> ?_) (λh=>(mY b w0).mono ?_)⟩
 ·rw [if_pos (by simpa using h)];exact ⟨rfl,rfl⟩
 ·rintro e w2 ⟨rfl,rfl⟩;rw [if_neg (by simpa using h)];refine ⟨_,rfl,Br.mk (λh=> ?_) (λh=> ?_)⟩
  ·rw [if_pos h];exact ⟨rfl,rfl⟩
  ·rw [if_neg (by rw [h];decide)];exact ⟨rfl,rfl⟩
end Go.Proofs.YtalpkjfpmdpbiaaGreatDoor
namespace Go.Proofs.YtalpkjfpmdpbiaaGreatDoor
open Go Go.Vc Go.RowKit Go.Proofs Go.dS Go.bh Go.Code Go.iQ
def Tl(v:Value)(V:Ce->Int)(w:World):Prop:=∃D:Nat->Prop,(∀i,D i->i<w.heap.size)/\∀w',(∀i,D i->w'.heap[i]? =w.heap[i]?)->∀c,lY c->dJ Tryz.prog v [iG c] w' λe w''=>e=Value.int .i64 (V c)/\Ext w' w''
def Tl.ext{v:Value}{V:Ce->Int}{w w':World}(h:Tl v V w)(x:Ext w w'):Tl v V w':=by obtain ⟨D,h1,h2⟩:=h;exact ⟨D,λi hi=>kR (h1 i hi) x.size,λw'' hk=>h2 w'' λi hi=>(hk i hi).trans (x.heap (h1 i hi))⟩
def Tl.at{v:Value}{V:Ce->Int}{w:World}(h:Tl v V w){c:Ce}(hc:lY c):dJ Tryz.prog v [iG c] w λe w'=>e=Value.int .i64 (V c)/\Ext w w':=by obtain ⟨D,h1,h2⟩:=h;exact h2 w (λ_ _=>rfl) c hc
def dI{v:Value}{l:LV}{w:World}{R R':Ending->World->Prop}(h:dJ Tryz.prog v l w R)(k:∀e w',R e w'->R' e w'):dJ Tryz.prog v l w R':=sw h k
abbrev fx(x:Go.iQ.Cg):LV:=[.int .i64 x.1.1,.int .i64 x.1.2.1,.int .i64 x.1.2.2,.int .i64 x.2]
def TP{E k n:Nat}{w w':World}{s s':Sl}{news:LV}(h:aE E k w s n news s' w')(hc:s.c<s.n+n):Ext w w':=by
 cases h with
 |fits hf=>omega
 |wJ=>exact (Ext.dr w).tr (Ext.al _ _)
set_option maxRecDepth 100000 in
def Li{v:Value}{V:Ce->Int}{w:World}(hV:Tl v V w)(c:Ce)(hc:dH c):
  ah 87 #[v,iG c] w λe w'=>∃s:Sl,e=s/\aj w gz 3 w' s ((iR V c).map dn)/\Ext w w':=by
 apply KG.vc;intro w0 e0;have x0:=bo e0;have z0:=dt e0;refine (lu c hc w0).mono ?_;rintro e w1 ⟨rfl,x1⟩;have z1:=x1.size;refine ⟨_,_,_,_,_,_,_,_,_,_,_,_,_,_,_,_,_,_,rfl,x1.heap aa,λdY BU=> ?_⟩;have du:=bo BU;have z20:=dt BU;have hr:Row dY w1 [af,af,af,af,af,af,af,af,af,af,af,af,af,af,af,af,af,af] 161:=Row.nw BU;refine ⟨⟨rfl,hr.wr cx⟩,λe=>by
  have:w1.heap.size=w.heap.size:=by simpa [cS] using e
  omega,λef uP ct Bq=> ?_⟩
 have uP:ef=bc dY (bu w1.heap.size) (L7 c):=uP;rw [hr.bc (vs:=L7 c) cx (L8 c),ox cx] at uP;have mM:Row ef w1 (L7 c) 161:=hr.st uP;have fT:Ext w ef:=(x0.tr (x1.tr du)).ab uP aa;have z21:=mC uP;have xd:=Ext.dr ef;have zd:=kQ ef;have eK:=bo Bq;have z22:=dt Bq;have als:Row ct ef.drew.heap.size (dn c) gz:=Row.nw Bq;have alu:=fT.tr (xd.tr eK);have abQ:=mM.ext (xd.tr eK);have ho:aj w gz 3 ct ⟨bu ef.drew.heap.size,1,1⟩ [dn c]:=aj.gm aa als cx (ax _) rfl cx;have ha:=ho.kl (bytes:=24) (more:=(iI c).map dn) aa (λr hr=>by obtain ⟨y,-,rfl⟩:=aS.1 hr;rfl) (λr hr=>by obtain ⟨y,-,rfl⟩:=aS.1 hr;exact A4 y) (by simp [iI]) (by simp [iI]);obtain ⟨hp,aR⟩:=ha;refine ⟨((iI c).map dn).flatten,?_,hp,λkO eh Qh=> ?_⟩
 ·rw [eJ];intro i u hu;exact abQ.at i (by rw [TN];exact hu)
 obtain ⟨uQ,ae5,-,-,-⟩:=aR kO eh Qh;have da:Ext ct eh:=TP Qh (show (1:Nat)<1+(6-0) by decide);have z25:=da.size;have afB:Ext w eh:=alu.tr da;have uQ:aj w gz 3 eh kO ((c::iI c).map dn):=uQ;have fq:=uQ.rd (show 0<3 by decide);have arn:kO.n=7:=fq.n;refine ⟨da.heap aa,da.heap aa,λn x g7 ik=>∃j:Nat,x=j/\j+n=7/\aj eh gz 3 ik g7 ((((c::iI c).take j).filter λn=>decide (0<bQ (V n))).map dn)/\Ext eh ik,⟨7,rfl,rfl,0,rfl,rfl,aj.nil,Ext.bX _⟩,?_⟩;rintro n us x g7 ik ⟨j,rfl,hj,MF,iN⟩;have z31:=iN.size;apply Br.mk<;>intro hb
 ·replace hb:=fe hb;obtain ⟨y,hy⟩:=aZ (l:=c::iI c) (i:=j) (by have:(c::iI c).length=7:=rfl;omega);have Uc:y ∈ c::iI c:=bf hy;have oky:lY y:=by
   rcases bJ.1 Uc with rfl|h
   ·exact hc.ok
   ·exact wQ hc h
  have hy':((c::iI c).map dn)[j]? =some (dn y):=by rw [aV,hy];rfl
  have j2:(c::iI c).take (j+1)=(c::iI c).take j++ [y]:=by rw [cm,hy];rfl
  refine ⟨fq.fp (i:=(j:Int)) aC aa hb,_,_,_,(fq.ext iN).aY hy',λnC Jk hX Qb=> ?_⟩;have gk:Ext ik hX:=(bo Jk).ab Qb (ax _);have z37:=jE Jk Qb;refine dI ((hV.ext (afB.tr (iN.tr gk))).at oky) ?_;rintro e qP ⟨rfl,je⟩;have z38:=je.size;refine ⟨_,rfl,je.heap aa,je.heap aa,je.heap aa,(Am (V y) qP).mono ?_⟩;rintro e iV ⟨rfl,rfl⟩;have wk:=kK (j:=j);refine ⟨_,rfl,rfl,rfl,rfl,?_⟩;have afC:=MF.ext (gk.tr je);apply Br.mk<;>intro hd
  ·intro ny VF;subst VF;have aro:g7.n<=7:=by have h1:=(MF.rd (show 0<3 by decide)).n;have h2:=C7 (λn=>decide (0<bQ (V n))) ((c::iI c).take j);rw [aB] at h1;rw [bF] at h2;omega
   obtain ⟨Ml,hres8⟩:=afC.kJ (bytes:=24) (news:=dn y) (.cells #[y.1,y.2.1,y.2.2] gz) aa rfl (A4 y) aa aa;refine ⟨Ml,λUf jA Vd=> ?_⟩;obtain ⟨f8,xt,hn8,x8,Vz,-⟩:=hres8 Uf jA Vd;have xa:=Ext.al iV (.cells #[y.1,y.2.1,y.2.2] gz);have aaI:∀b,g7.bj=some b->eh.heap.size<=b/\b<ik.heap.size:=λb hb=>MF.own.lt hb
   have kp:∀j,(j<eh.heap.size\/ik.heap.size<=j)->j<iV.heap.size->jA.heap[j]? =(iV.alloc (.cells #[y.1,y.2.1,y.2.2] gz)).heap[j]? :=λj hj hj2=>by rw [Vz j (λhb=>by have:=aaI j hb;omega) hj2,xa.heap hj2]
   refine ⟨kp _ (.inl aa) aa,kp _ (.inl aa) aa,kp _ (.inr aa) aa,f8,n-1,by omega,rfl,rfl,j+1,wk,by omega,?_,(Below.trans (iN.tr (gk.tr je)) x8:Below eh eh jA)⟩;rw [j2,tz,aT,X5 (by simpa using hd)];exact xt
  ·refine ⟨n-1,by omega,rfl,rfl,j+1,wk,by omega,?_,iN.tr (gk.tr je)⟩;rw [j2,tz,aT,Rp (by simpa using hd)];simpa using afC
 ·replace hb:=eX hb;have hj7:(c::iI c).take j=c::iI c:=cZ (by have:(c::iI c).length=7:=rfl;omega);rw [hj7] at MF;exact ⟨g7,rfl,MF.low aa,afB.tr iN⟩
def Ku(c:Ce):((L7 c).drop ((2:Int).toNat*3)).take 3=dn (bz c):=rfl
set_option maxRecDepth 100000 in
def Ob{v:Value}{V:Ce->Int}{w:World}(hV:Tl v V w)(c:Ce)(hc:dH c):
  ah 138 #[v,iG c] w λe w'=>∃s:Sl,e=s/\aj w eH 4 w' s ((pD V c).map fx)/\Ext w w':=by
 apply Oj.vc;intro w0 e0;have x0:=bo e0;have z0:=dt e0;refine (lu c hc w0).mono ?_;rintro e w1 ⟨rfl,x1⟩;have z1:=x1.size;have okl:lY (bz c):=wQ hc (by simp [iI]);refine ⟨_,_,_,_,_,_,_,_,_,_,_,_,_,_,_,_,_,_,rfl,x1.heap aa,by decide,_,_,_,Ku c,λgp JY fy QM=> ?_⟩;have de:Ext w1 fy:=(bo JY).ab QM (ax _);have z24:=jE JY QM;have acr:=x0.tr (x1.tr de);refine dI ((hV.ext acr).at okl) ?_;rintro e eh ⟨rfl,da⟩;have z25:=da.size;refine ⟨_,rfl,da.heap aa,da.heap aa,(IX (V (bz c)) eh).mono ?_⟩;rintro e jf ⟨rfl,rfl⟩;unfold pD;refine ⟨_,rfl,rfl,rfl,Br.mk (λh=> ?_) (λh=>λfP NF=> ?_)⟩
 ·rw [if_neg (by simpa using h)];exact ⟨⟨none,0,0⟩,rfl,aj.nil,acr.tr da⟩
 ·rw [if_pos (by simpa using h)];have hr:Row fP jf (([(c,V (bz c)),(bz c,3)]:List Go.iQ.Cg).map fx).flatten eH:=Row.nw NF;exact ⟨⟨bu jf.heap.size,2,2⟩,rfl,aj.gm aa hr (ax _) (ax _) rfl (by intro r hr;simp at hr;rcases hr with rfl|rfl<;>rfl),(acr.tr da).ay NF⟩
end Go.Proofs.YtalpkjfpmdpbiaaGreatDoor
