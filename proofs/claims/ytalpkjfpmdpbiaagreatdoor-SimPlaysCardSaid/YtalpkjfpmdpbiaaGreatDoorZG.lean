import Derived.Test.YtalpkjfpmdpbiaaGreatDoorYQ
import Derived.Test.YtalpkjfpmdpbiaaGreatDoorYR
import Derived.Test.YtalpkjfpmdpbiaaGreatDoorGX
import Derived.Test.YtalpkjfpmdpbiaaGreatDoorP
import Derived.Test.YtalpkjfpmdpbiaaGreatDoorQB
set_option linter.all false
namespace Go.Proofs.YtalpkjfpmdpbiaaGreatDoor
open Go Go.Vc Go.RowKit Go.Proofs Go.dS Go.bh Go.Code Go.km Go.iQ
set_option maxRecDepth 100000
def gAt(z:List Int)(els:Int)(c:Ce):Int:=
 if c.2.1<0 then 1 else if c.1>=0/\c.1<6/\c.2.1<6/\c.2.2>=0/\c.2.2<6 then (z[((c.2.1*6+c.2.2)*6+c.1).toNat]?).getD 0 else els
abbrev gRd(w:World)(s:Sl)(z:List Int):Prop:=RdK w s 1 (z.map λn=> [.int .i64 n])
def SW(s:Sl)(z:List Int)(els:Int)(c:Ce)(w:World)(hs:gRd w s z):
  ah 235 #[.agg #[s,els],iG c] w λe w'=>e=Value.int .i64 (gAt z els c)/\Ext w w':=by
 apply (R5.vc (aq:=s));have kf:=hs.n;rw [aB] at kf;intro w0 e0 w1 e1;have x1:Ext w w1:=(bo e0).ay e1;unfold gAt;apply Br.mk<;>intro h
 ·replace h:=fe h;rw [if_pos h];exact ⟨rfl,x1⟩
 replace h:=eX h;rw [if_neg h];refine Br.mk (λh1=>Br.mk (λh2=>Br.mk (λh3=>Br.mk (λh4=>Br.mk (λh5=> ?_) (λh5=> ?_)) (λh4=> ?_)) (λh3=> ?_)) (λh2=> ?_)) (λh1=> ?_)
 ·simp only [bA] at h1 h2 h3 h4 h5;rw [if_pos ⟨h1,h2,h3,h4,h5⟩];have q1:ai (c.2.1*6)=c.2.1*6:=wI;have q2:ai (c.2.1*6+c.2.2)=c.2.1*6+c.2.2:=wI;have q3:ai ((c.2.1*6+c.2.2)*6)=(c.2.1*6+c.2.2)*6:=wI;have q4:ai ((c.2.1*6+c.2.2)*6+c.1)=(c.2.1*6+c.2.2)*6+c.1:=wI;rw [q1,q2,q3,q4];have h0:0<=(c.2.1*6+c.2.2)*6+c.1:=by omega
  generalize (c.2.1*6+c.2.2)*6+c.1=i at h0 ⊢;apply Br.mk<;>intro h6
  ·replace h6:=fe h6;obtain ⟨y,hy⟩:=aZ (l:=z) (i:=i.toNat) aa;rw [hy];have hr:=hs.ext x1;have hm:(z.map λn=> [Value.int .i64 n])[i.toNat]? =some [.int .i64 y]:=by rw [aV,hy];rfl
   have:=hr.at hm (j:=0) rfl;rw [ck] at this;exact ⟨hr.fp aC h0 h6,y,this,rfl,x1⟩
  ·replace h6:=eX h6;rw [iq aa];exact ⟨rfl,x1⟩
 all_goals
  rw [if_neg]
  ·exact ⟨rfl,x1⟩
  ·rintro ⟨g1,g2,g3,g4,g5⟩
   simp_all
abbrev tG:TypeId:=214
abbrev gV(sg:Sl):Value:=.agg #[sg,(-1:Int)]
abbrev U1(z:List Int):Ce->Int:=gAt z (-1)
def nk(b:Int)(w:World):ah 101 #[b] w λe w'=>e=Value.bool (fu b)/\w'=w:=by
 apply Dj.vc;unfold fu;refine Br.mk (λh=>⟨?_,rfl⟩) (λh=>⟨?_,rfl⟩)
 ·have h1:=kX h;rw [decide_eq_true h1,re];congr 2
  first|rfl|(rw [decide_eq_decide];omega)
 ·have h1:=kX h;rw [decide_eq_false h1,M8]
def EL(b:Int)(w:World):ah 199 #[b] w λe w'=>e=Value.bool (qM b)/\w'=w:=by
 apply EF.vc;unfold qM;refine Br.mk (λh=>⟨?_,rfl⟩) (λh=>(nk b w).mono ?_)
 ·have h:=kX h;subst h;rfl
 ·rintro e w' ⟨rfl,rfl⟩;have h:=kX h;rw [decide_eq_false h,Bool.false_or];exact ⟨_,rfl,rfl,rfl⟩
section
variable {w w':World} {sg:Sl} {z:List Int}
def lI(hs:gRd w sg z)(d:Ce):ah 198 #[gV sg,.slice none 0 0,iG d] w λe w'=>e=Value.int .i64 (U1 z d)/\Ext w w':=by
 apply (Sr.vc (aq:=sg) (a1:=⟨none,0,0⟩));intro w0 e0 w1 e1;have x1:Ext w w1:=(bo e0).ay e1;have z0:=dt e0;have z1:w1.heap.size=w.heap.size+2:=by rw [e1];simp [z0]
 refine ⟨λ_ x wr=>wr=w1/\x= -1,⟨0,rfl,rfl,rfl,by decide⟩,?_⟩;rintro n us x wr ⟨rfl,rfl⟩;refine Br.mk (λh=>by simp at h) (λ_=>(SW sg z (-1) d _ (hs.ext x1)).mono ?_);rintro e bS ⟨rfl,bU⟩;exact ⟨_,rfl,bU.heap aa,bU.heap aa,rfl,x1.tr bU⟩
def rn(c:Ce)(hc:dH c)(w:World):ah 201 #[iG c] w λe w'=>∃s:Sl,e=s/\aj w gz 3 w' s ((aQ c).map dn)/\Ext w w':=by
 apply HI.vc;intro w0 e0;have x0:Ext w w0.drew:=(bo e0).tr (Ext.dr w0);have z0:w0.drew.heap.size=w.heap.size+1:=by show w0.heap.size=_;rw [e0];simp
 have r0:Row w0.drew w (dn c) gz:=(by rw [e0];exact Row.new w [_,_,_] _:Row w0 w _ gz).ext (Ext.dr w0);refine (iL c (c.1-1,c.2.1,c.2.2) (-1) 0 0 (jN aa aa aa) hc aC w0.drew).mono ?_;rintro e w1 ⟨rfl,x1⟩;have z1:=x1.size;have r1:=Lo.wv (r0.ext x1);refine ⟨_,_,_,rfl,x1.heap aa,r1,r1,r1,(iL c (c.1+1,c.2.1,c.2.2) 1 0 0 (jN aa aa aa) hc aC w1).mono ?_⟩;rintro e w5 ⟨rfl,x5⟩;have y5:=x1.tr x5;have z5:=y5.size;have r5:=Lo.wv (r0.ext y5);refine ⟨_,_,_,rfl,x5.heap aa,r5,r5,(iL c (c.1,c.2.1,c.2.2-1) 0 0 (-1) (jN aa aa aa) hc aC w5).mono ?_⟩;rintro e w9 ⟨rfl,x9⟩;have y9:=y5.tr x9;have z9:=y9.size;have r9:=Lo.wv (r0.ext y9);refine ⟨_,_,_,rfl,x9.heap aa,r9,(iL c (c.1,c.2.1,c.2.2+1) 0 0 1 (jN aa aa aa) hc aC w9).mono ?_⟩;rintro e cC ⟨rfl,cz⟩;have XI:=y9.tr cz;have z13:=XI.size;refine ⟨_,_,_,rfl,cz.heap aa,λcE qk=> ?_⟩;have hr:Row cE cC (((aQ c).map dn).flatten) gz:=Row.nw qk;refine ⟨⟨bu cC.heap.size,4,4⟩,rfl,aj.gm aa hr (by simp [aQ]) (ax _) rfl (by intro r hr;obtain ⟨y,-,rfl⟩:=aS.1 hr;rfl),(x0.tr XI).ay qk⟩
def Ch(hs:gRd w sg z)(c:Ce)(hc:dH c):ah 200 #[gV sg,.slice none 0 0,iG c] w λe w'=>e=Value.int .i64 (dL (U1 z) c)/\Ext w w':=by
 apply (HJ.vc (aq:=sg) (a1:=⟨none,0,0⟩));intro w0 e0 w1 e1;have x1:Ext w w1:=(bo e0).ay e1;have z0:=dt e0;have z1:w1.heap.size=w.heap.size+2:=by rw [e1];simp [z0]
 have r0:Row w1 w [sg,(-1:Int)] tG:=(by rw [e0];exact Row.new w [_,_] _:Row w0 w _ tG).ext (bo e1);have zd:=kQ w1;have xd:=x1.tr (Ext.dr w1);refine (iL c (iw c) 0 1 0 (by unfold iw;exact jN aa aa aa) hc aC w1.drew).mono ?_;rintro e w2 ⟨rfl,x2⟩;have z2:=x2.size;have y2:=xd.tr x2;refine ⟨_,_,_,rfl,x2.heap aa,x2.heap aa,Lo.wv (r0.ext ((Ext.dr w1).tr x2)),(lI (hs.ext y2) (iw c)).mono ?_⟩;rintro e w6 ⟨rfl,x6⟩;have z6:=x6.size;have y6:=y2.tr x6;refine ⟨_,rfl,x6.heap aa,x6.heap aa,(nk (U1 z (iw c)) w6).mono ?_⟩;rintro e w8 ⟨rfl,rfl⟩;unfold dL;refine ⟨_,rfl,rfl,rfl,Br.mk (λhw=> ?_) (λhw=> ?_)⟩
 ·rw [if_pos hw];exact ⟨rfl,y6⟩
 rw [if_neg (by rw [hw];simp)];refine (rn c hc w8).mono ?_;rintro e bL ⟨eO,rfl,ho,bq⟩;have z10:=bq.size;have UH:=y6.tr bq;have fq:=ho.rd (show 0<3 by decide);have apR:eO.n=4:=fq.n;refine ⟨eO,rfl,bq.heap aa,bq.heap aa,λn x m wr=>∃j:Nat,x=j/\j+n=4/\m=((aQ c).take j).foldl (λm n=>if fu (U1 z n) then min m (U1 z n-8+1) else m) 8/\Ext bL wr,⟨4,rfl,rfl,0,rfl,rfl,rfl,Ext.bX _⟩,?_⟩;rintro n us x m wr ⟨j,rfl,hj,hm,xr⟩;have zr:=xr.size;apply Br.mk<;>intro hb
 ·replace hb:=fe hb;obtain ⟨y,hy⟩:=aZ (l:=aQ c) (i:=j) (by have:(aQ c).length=4:=rfl;omega);have hy':((aQ c).map dn)[j]? =some (dn y):=by rw [aV,hy];rfl
  have j2:(aQ c).take (j+1)=(aQ c).take j++ [y]:=by rw [cm,hy];rfl
  have wk:=kK (j:=j);have xrd:=xr.tr (Ext.dr wr);have zrd:=kQ wr;refine ⟨fq.fp (i:=(j:Int)) aC aa aa,_,_,_,(fq.ext xrd).aY hy',(lI (hs.ext (UH.tr xrd)) y).mono ?_⟩;rintro e ct ⟨rfl,eK⟩;have z22:=eK.size;refine ⟨_,rfl,eK.heap aa,eK.heap aa,(nk (U1 z y) ct).mono ?_⟩;rintro e fy ⟨rfl,rfl⟩;refine ⟨_,rfl,rfl,rfl,Br.mk (λhq=> ?_) (λhq=> ?_)⟩
  ·have hl:=zC hq;have w1:ai (U1 z y-8)=U1 z y-8:=wI;have w2:ai (U1 z y-8+1)=U1 z y-8+1:=wI;refine ⟨n-1,by omega,rfl,rfl,j+1,wk,by omega,?_,xrd.tr eK⟩;rw [j2,jc,<-hm];simp only [jL,List.foldl_nil];rw [if_pos hq,w1,w2];split<;>omega
  ·refine ⟨n-1,by omega,rfl,rfl,j+1,wk,by omega,?_,xrd.tr eK⟩;rw [j2,jc,<-hm];simp only [jL,List.foldl_nil];rw [if_neg (by rw [hq];simp)]
 ·replace hb:=eX hb;have h4:(aQ c).take j=aQ c:=cZ (by have:(aQ c).length=4:=rfl;omega);rw [h4] at hm;rw [hm];exact ⟨rfl,UH.tr xr⟩
end
end Go.Proofs.YtalpkjfpmdpbiaaGreatDoor
namespace Go.Proofs.YtalpkjfpmdpbiaaGreatDoor
open Go Go.Vc Go.RowKit Go.Proofs Go.dS Go.bh Go.Code Go.km Go.iQ
set_option maxRecDepth 100000
section
variable {w w':World} {sg:Sl} {z:List Int}
def EN(hs:gRd w sg z)(c:Ce)(hc:dH c):
  ah 155 #[gV sg,.slice none 0 0,iG c] w λe w'=>∃s:Sl,e=s/\aj w eH 4 w' s ((iY (U1 z) c).map fx)/\Ext w w':=by
 apply (Lk.vc (aq:=sg) (a1:=⟨none,0,0⟩));intro w0 e0 w1 e1;have x1:Ext w w1:=(bo e0).ay e1;have z0:=dt e0;have z1:w1.heap.size=w.heap.size+2:=by rw [e1];simp [z0]
 refine (lI (hs.ext x1) c).mono ?_;rintro e w2 ⟨rfl,x2⟩;have z2:=x2.size;have y2:=x1.tr x2;refine ⟨_,rfl,x2.heap aa,x2.heap aa,(iL c (bz c) 0 (-1) 0 (by unfold bz;exact jN aa aa aa) hc aC w2).mono ?_⟩;rintro e w4 ⟨rfl,x4⟩;have z4:=x4.size;have y4:=y2.tr x4;refine ⟨_,_,_,rfl,x4.heap aa,x4.heap aa,λw8 e8 w9 e9=> ?_⟩;have x9:Ext w4 w9:=(bo e8).ab e9 (ax _);have z9:=jE e8 e9;have y9:=y4.tr x9;refine (lI (hs.ext y9) (bz c)).mono ?_;rintro e bL ⟨rfl,bq⟩;have z10:=bq.size;have UH:=y9.tr bq;refine ⟨_,rfl,bq.heap aa,bq.heap aa,bq.heap aa,?_⟩;unfold iY;apply Br.mk<;>intro h3
 ·have h3:U1 z c=3:=by simpa using h3
  rw [if_pos h3];refine (EL (U1 z (bz c)) bL).mono ?_;rintro e bS ⟨rfl,rfl⟩;refine ⟨_,rfl,rfl,rfl,rfl,?_⟩;unfold pD;refine Br.mk (λhq bY mB=> ?_) (λhq=> ?_)
  ·rw [if_pos hq];have hr:Row bY bS (([(c,U1 z (bz c)),(bz c,(3:Int))].map fx).flatten) eH:=Row.nw mB;exact ⟨⟨some ⟨bS.heap.size,0,none⟩,2,2⟩,rfl,aj.gm aa hr cx (ax _) rfl (by intro r hr;obtain ⟨y,-,rfl⟩:=aS.1 hr;rfl),UH.ay mB⟩
  ·rw [if_neg (by rw [hq];simp)];exact ⟨⟨none,0,0⟩,rfl,aj.nil,UH⟩
 have h3:¬U1 z c=3:=by simpa using h3
 rw [if_neg h3];refine (nk (U1 z c) bL).mono ?_;rintro e cU ⟨rfl,rfl⟩;refine ⟨_,rfl,rfl,rfl,rfl,Br.mk (λhq=> ?_) (λhq=> ?_)⟩
 ·have hq:fu (U1 z c)=false:=by simpa using hq
  rw [if_pos hq];exact ⟨⟨none,0,0⟩,rfl,aj.nil,UH⟩
 have hq:fu (U1 z c)=true:=by simpa using hq
 rw [if_neg (by rw [hq];simp)];obtain ⟨-,l1,l2⟩:=zC hq;have wl:ai (U1 z c-8)=U1 z c-8:=wI;rw [wl];refine (Ch (hs.ext UH) c hc).mono ?_;rintro e cE ⟨rfl,cR⟩;have z17:=cR.size;have VQ:=UH.tr cR;have f1:=zD (U1 z) c;have one:∀(x:Go.iQ.Cg) {v v':World},Ext w v->v'=v.alloc (.cells #[.int .i64 x.1.1,.int .i64 x.1.2.1,.int .i64 x.1.2.2,.int .i64 x.2] eH)->∃s:Sl,Ending.returned (.slice (some ⟨v.heap.size,0,none⟩) 1 1)=s/\aj w eH 4 v' s ([x].map fx)/\Ext w v':=λx v v' hv e=>by have hr:Row v' v.heap.size (([x].map fx).flatten) eH:=Row.nw e;exact ⟨⟨some ⟨v.heap.size,0,none⟩,1,1⟩,rfl,aj.gm hv.size hr cx (ax _) rfl (by intro r hr;obtain ⟨y,-,rfl⟩:=aS.1 hr;rfl),hv.ay e⟩
 refine ⟨_,rfl,cR.heap aa,cR.heap aa,cR.heap aa,λwj=>wj=cE/\¬(0<U1 z c-8/\7<dL (U1 z) c),?_,?_⟩
 ·refine Br.mk (λh1=>Br.mk (λh2 dY BU=> ?_) (λh2=>⟨rfl,rfl,rfl,rfl,?_⟩)) (λh1=>⟨rfl,rfl,rfl,rfl,?_⟩)
  ·rw [if_pos ⟨by simpa using h1,by simpa using h2⟩];exact one (c,0) VQ BU
  ·intro q;simp at h2;omega
  ·intro q;simp at h1;omega
 rintro us ct ⟨rfl,ha⟩;rw [if_neg ha];refine ⟨λwj=>wj=ct/\¬(0<U1 z c-8/\dL (U1 z) c≠U1 z c-8),?_,?_⟩
 ·refine Br.mk (λh1=>Br.mk (λh2 fy QM=> ?_) (λh2=>⟨rfl,rfl,rfl,rfl,?_⟩)) (λh1=>⟨rfl,rfl,rfl,rfl,?_⟩)
  ·have wf:ai (8+dL (U1 z) c)=8+dL (U1 z) c:=wI;rw [wf] at QM;rw [if_pos ⟨by simpa using h1,by simpa using h2⟩];exact one (c,8+dL (U1 z) c) VQ QM
  ·intro q;simp at h2;omega
  ·intro q;simp at h1;omega
 rintro us hZ ⟨rfl,hb⟩;rw [if_neg hb];refine Br.mk (λh4 jf yF=> ?_) (λh4=>(nk (U1 z (bz c)) hZ).mono ?_)
 ·have h4:U1 z (bz c)=0:=by simpa using h4
  rw [if_pos h4];exact one (bz c,9) VQ yF
 rintro e eN ⟨rfl,rfl⟩;have h4:¬U1 z (bz c)=0:=by simpa using h4
 rw [if_neg h4];refine ⟨_,rfl,rfl,rfl,rfl,Br.mk (λh5=> ?_) (λh5=>Br.mk (λh6=> ?_) (λh6=> ?_))⟩
 ·rw [if_pos (.inl h5)];exact ⟨⟨none,0,0⟩,rfl,aj.nil,VQ⟩
 ·rw [if_pos (.inr (by simpa using h6))];exact ⟨⟨none,0,0⟩,rfl,aj.nil,VQ⟩
 have h6:¬U1 z c-8=7:=by simpa using h6
 rw [if_neg (by rintro (q|q);· rw [q] at h5;cases h5
                ·exact h6 q)]
 refine (rn c hc eN).mono ?_;rintro e ia ⟨ib,rfl,MF,oT⟩;have z30:=oT.size;have y30:=VQ.tr oT;have fq:=MF.rd (show 0<3 by decide);have aq2:ib.n=4:=fq.n;have w9:ai (9+(U1 z c-8))=9+(U1 z c-8):=wI;rw [w9];refine ⟨ib,rfl,oT.heap aa,oT.heap aa,oT.heap aa,λn x pk wr=>∃j:Nat,x=j/\j+n=4/\aj ia eH 4 wr pk (((((aQ c).take j).filter λn=>decide (U1 z n=0)).map λn=>((n,9+(U1 z c-8)):Go.iQ.Cg)).map fx)/\Below ia ia wr,⟨4,rfl,rfl,rfl,0,rfl,rfl,aj.nil,Below.refl _ _⟩,?_⟩;rintro n us x pk wr ⟨j,rfl,hj,ho,xr⟩;have xr:Ext ia wr:=xr;have zr:=xr.size;have yr:Ext w wr:=y30.tr xr;apply Br.mk<;>intro eF
 ·replace eF:=fe eF;obtain ⟨y,hy⟩:=aZ (l:=aQ c) (i:=j) (by have:(aQ c).length=4:=rfl;omega);have hy':((aQ c).map dn)[j]? =some (dn y):=by rw [aV,hy];rfl
  have j2:(aQ c).take (j+1)=(aQ c).take j++ [y]:=by rw [cm,hy];rfl
  have wk:=kK (j:=j);have Jl:pk.n<=4:=by have h1:=(ho.rd (show 0<4 by decide)).n;rw [aB,aB] at h1;have h2:=List.length_filter_le (λn=>decide (U1 z n=0)) ((aQ c).take j);rw [bF] at h2;omega
  have xrd:=xr.tr (Ext.dr wr);have zrd:=kQ wr;have cX:=fq.fp (i:=(j:Int)) aC aa aa;refine ⟨cX,_,_,_,(fq.ext xrd).aY hy',(lI (hs.ext (y30.tr xrd)) y).mono ?_⟩;rintro e ny ⟨rfl,lU⟩;have z42:=lU.size;have ab6:=xrd.tr lU;refine ⟨_,rfl,lU.heap aa,lU.heap aa,lU.heap aa,Br.mk (λh7=> ?_) (λh7=> ?_)⟩
  ·have h7:U1 z y=0:=by simpa using h7
   refine ⟨cX,_,_,_,(fq.ext ab6).aY hy',λoV e47=> ?_⟩;have mc:=bo e47;have z47:=dt e47;have akX:=((ho.ext (Ext.dr wr)).ext lU).ext mc;obtain ⟨hp,aR⟩:=akX.append (bytes:=32) (news:=fx (y,9+(U1 z c-8))) aa rfl (MS _) aa aa;refine ⟨hp,λGd BS akY=> ?_⟩;obtain ⟨d1,d2,d3,d4,-⟩:=aR Gd BS akY;refine ⟨d3.block _ aa,d3.block _ aa,d3.block _ aa,d4 _ (λuM=>by have:=(ho.own.lt uM).2;omega) aa,n-1,by omega,rfl,rfl,rfl,j+1,wk,by omega,?_,Below.trans (ab6.tr mc) d3⟩;rw [j2,tz,aT,aT,List.filter_cons,if_pos (by simpa using h7)];exact d1
  ·have h7:¬U1 z y=0:=by simpa using h7
   refine ⟨n-1,by omega,rfl,rfl,rfl,j+1,wk,by omega,?_,ab6⟩;rw [j2,tz,aT,aT,List.filter_cons,if_neg (by simpa using h7)];simpa using (ho.ext (Ext.dr wr)).ext lU
 ·replace eF:=eX eF;have h4':(aQ c).take j=aQ c:=cZ (by have:(aQ c).length=4:=rfl;omega);rw [h4'] at ho;exact ⟨pk,rfl,ho.low y30.size,yr⟩
def HZ{so:Sl}{oc:List Ce}(h:RdK w so 3 (oc.map dn))(hl:oc.length<=1000)(y:Ce):ah 156 #[so,iG y] w λe w'=>e=Value.bool (decide (y ∈ oc))/\Ext w w':=by
 apply (HK.vc (a0:=so));have hn:=h.n;rw [aB] at hn;intro w0 e0;have x0:=bo e0;have z0:=dt e0;refine ⟨λn x wr=>∃j:Nat,x=j/\j+n=oc.length/\y ∉ oc.take j/\Ext w0 wr,⟨oc.length,rfl,0,rfl,by omega,by simp,Ext.bX _⟩,?_⟩;rintro n us x wr ⟨j,rfl,hj,lk,xr⟩;apply Br.mk<;>intro hb
 ·replace hb:=fe hb;obtain ⟨c,hc⟩:=aZ (l:=oc) (i:=j) aa;have hc':(oc.map dn)[j]? =some (dn c):=by rw [aV,hc];rfl
  have j2:oc.take (j+1)=oc.take j++ [c]:=by rw [cm,hc];rfl
  have wk:=kK (j:=j);have xd:=x0.tr (xr.tr (Ext.dr wr));refine ⟨h.fp (i:=(j:Int)) aC aa hb,_,_,_,(h.ext xd).aY hc',Br.mk (λhq=> ?_) (λhq=> ?_)⟩
  ·simp only [gr,beq_iff_eq] at hq;have:c=y:=Prod.ext hq.1 (Prod.ext hq.2.1 hq.2.2);subst this;rw [decide_eq_true (bf hc)];exact ⟨rfl,xd⟩
  ·refine ⟨n-1,by omega,rfl,j+1,wk,by omega,?_,xr.tr (Ext.dr wr)⟩;rw [j2];intro q;rcases cu.1 q with q|q
   ·exact lk q
   ·rw [fB.1 q] at hq;simp at hq
 ·replace hb:=eX hb;rw [cZ aa] at lk;rw [decide_eq_false lk];exact ⟨rfl,x0.tr xr⟩
end
def SY(V:Ce->Int)(c:Ce)(i:Nat):Int:=if i % 6<3/\i / 36<3/\i / 6 % 6<3 then V (c.1+((i % 6:Nat):Int)-1,c.2.1+((i / 36:Nat):Int)-1,c.2.2+((i / 6 % 6:Nat):Int)-1) else -1
def Wx(V:Ce->Int)(c:Ce):List Int:=(List.range 216).map (SY V c)
def SZ(V:Ce->Int)(c:Ce):Small V (U1 (Wx V c)) c:=by
 intro d h1 h2 h3;obtain ⟨a,b,e⟩:=d;simp only at h1 h2 h3;unfold U1 gAt;simp only;rw [if_neg aa,if_pos aa];obtain ⟨a,rfl⟩:=Int.eq_ofNat_of_zero_le h1.1;obtain ⟨b,rfl⟩:=Int.eq_ofNat_of_zero_le h2.1;obtain ⟨e,rfl⟩:=Int.eq_ofNat_of_zero_le h3.1;have ha:a<3:=by omega
 have hb:b<3:=by omega
 have he:e<3:=by omega
 have hi:(((b:Int)*6+e)*6+a).toNat=(b*6+e)*6+a:=by omega
 rw [hi];unfold Wx;rw [aV,Gr aa];simp only [mj,Option.getD_some];unfold SY nB;have q1:((b*6+e)*6+a) % 6=a:=by omega
 have q2:((b*6+e)*6+a) / 36=b:=by omega
 have q3:((b*6+e)*6+a) / 6 % 6=e:=by omega
 rw [q1,q2,q3,if_pos ⟨ha,hb,he⟩];congr 1;simp only [Prod.mk.injEq];omega
end Go.Proofs.YtalpkjfpmdpbiaaGreatDoor
namespace Go.Proofs.YtalpkjfpmdpbiaaGreatDoor
open Go Go.Vc Go.RowKit Go.Proofs Go.dS Go.bh Go.Code Go.km Go.iQ
set_option maxRecDepth 100000
def SX(V:Ce->Int)(c:Ce)(i:Nat):(List.range (i+1)).map (SY V c)=(List.range i).map (SY V c)++ [SY V c i]:=by rw [adP,aT];rfl
section
variable {P:Nat->Prop} {w w':World} {s1 s2 s3 s4 sq so sd:Sl} {T:Tb} {ag cap bud now:Int}
def Cj(h:RT P w T s1 s2 s3)(ho:qH T)(q:QS)(c:Ce)(hc:nZ c):
  ah 154 #[.agg (Ye ag cap T.1 s1 s2 s3 s4 q sq bud now so sd).toArray,iG c] w λe w'=>∃sg:Sl,e=Value.tuple #[gV sg,.agg #[.int .i64 (c.1-1),.int .i64 (c.2.1-1),.int .i64 (c.2.2-1)]]/\aj w qT 1 w' sg ((Wx (eB T.2) c).map λb=> [.int .i64 b])/\Ext w w':=by
 apply (HL.vc (aK:=s1) (aL:=s2) (aH:=s3) (bO:=s4) (cD:=sq) (cg:=so) (cj:=sd));intro w0 e0 w1 e1 w2 e2 w3 e3 w4 e4 w5 e5;have r0:Row w1 w0 (dn c) gz:=Row.nw e1;have x1:Ext w w1:=(bo e0).ay e1;have x5:Ext w1 w5:=(((bo e2).ay e3).ay e4).ab e5 (by rw [e3,e2];simp;omega);have z0:=dt e0;have z1:w1.heap.size=w.heap.size+2:=by rw [e1];simp [z0]
 have z2:w2.heap.size=w.heap.size+3:=by rw [e2];simp [z1]
 have z3:w3.heap.size=w.heap.size+4:=by rw [e3];simp [z2]
 have z5:w5.heap.size=w.heap.size+5:=by rw [e5,e4];simp [z3]
 have x05:=x1.tr x5;obtain ⟨⟨c1,c2⟩,⟨c3,c4⟩,c5,c6⟩:=id hc;have q1:ai (c.1-1)=c.1-1:=wI;have q2:ai (c.2.1-1)=c.2.1-1:=wI;have q3:ai (c.2.2-1)=c.2.2-1:=wI;rw [q1,q2,q3];have wk:∀k:Nat,k<10->ai ((k:Int)+1)=((k+1:Nat):Int):=λk hk=>by rw [wI];omega
 refine ⟨λn y s els wr=>∃iy:Nat,y=iy/\iy+n=6/\els= -1/\aj w5 qT 1 wr s (((List.range (iy*36)).map (SY (eB T.2) c)).map λb=> [.int .i64 b])/\Row wr w0 (dn c) gz/\Ext w wr/\w5.heap.size<=wr,⟨6,rfl,rfl,rfl,rfl,0,rfl,rfl,rfl,aj.nil,r0.ext x5,x05,ax _⟩,?_⟩;rintro n us y s els wr ⟨iy,rfl,hy,rfl,ho0,rr,xr,zr⟩;apply Br.mk<;>intro hb
 ·replace hb:=fe hb;refine ⟨λn z s els wr=>∃iz:Nat,z=iz/\iz+n=6/\els= -1/\aj w5 qT 1 wr s (((List.range (iy*36+iz*6)).map (SY (eB T.2) c)).map λb=> [.int .i64 b])/\Row wr w0 (dn c) gz/\Ext w wr/\w5.heap.size<=wr,⟨6,rfl,rfl,rfl,rfl,0,rfl,rfl,rfl,ho0,rr,xr,zr⟩,?_⟩;rintro n2 oB z s els wr ⟨iz,rfl,hz,rfl,ho1,rr,xr,zr⟩;apply Br.mk<;>intro eF
  ·replace eF:=fe eF;refine ⟨λn x s els wr=>∃ix:Nat,x=ix/\ix+n=6/\els= -1/\aj w5 qT 1 wr s (((List.range (iy*36+iz*6+ix)).map (SY (eB T.2) c)).map λb=> [.int .i64 b])/\Row wr w0 (dn c) gz/\Ext w wr/\w5.heap.size<=wr,⟨6,rfl,rfl,rfl,rfl,0,rfl,rfl,rfl,ho1,rr,xr,zr⟩,?_⟩;rintro n3 Xf x s els wr ⟨ix,rfl,hx,rfl,Gc,rr,xr,zr⟩;apply Br.mk<;>intro Y6
   ·replace Y6:=fe Y6;have m1:(iy*36+iz*6+ix) % 6=ix:=by omega
    have m2:(iy*36+iz*6+ix) / 36=iy:=by omega
    have m3:(iy*36+iz*6+ix) / 6 % 6=iz:=by omega
    have sm:SY (eB T.2) c (iy*36+iz*6+ix)=if ix<3/\iy<3/\iz<3 then eB T.2 (c.1+(ix:Int)-1,c.2.1+(iy:Int)-1,c.2.2+(iz:Int)-1) else -1:=by unfold SY;rw [m1,m2,m3]
    have hns:s.n=iy*36+iz*6+ix:=by have:=(Gc.rd (show 0<1 by decide)).n;rw [aB,aB,adQ] at this;exact this
    refine ⟨λb wj=>b=SY (eB T.2) c (iy*36+iz*6+ix)/\Ext wr wj,?_,?_⟩
    ·refine Br.mk (λg1=>Br.mk (λg2=>Br.mk (λg3=> ?_) (λg3=>⟨rfl,rfl,rfl,rfl,rfl,?_,Ext.bX _⟩)) (λg2=>⟨rfl,rfl,rfl,rfl,rfl,?_,Ext.bX _⟩)) (λg1=>⟨rfl,rfl,rfl,rfl,rfl,?_,Ext.bX _⟩)
     ·simp only [bA] at g1 g2 g3;have p1:ai (c.1+(ix:Int))=c.1+ix:=wI;have p2:ai (c.1+(ix:Int)-1)=c.1+ix-1:=wI;have p3:ai (c.2.1+(iy:Int))=c.2.1+iy:=wI;have p4:ai (c.2.1+(iy:Int)-1)=c.2.1+iy-1:=wI;have p5:ai (c.2.2+(iz:Int))=c.2.2+iz:=wI;have p6:ai (c.2.2+(iz:Int)-1)=c.2.2+iz-1:=wI;rw [p1,p2,p3,p4,p5,p6];refine (oa (h.ext xr) ho q (c.1+(ix:Int)-1,c.2.1+(iy:Int)-1,c.2.2+(iz:Int)-1) (by unfold lY inI;simp only;omega)).mono ?_;rintro e ik ⟨rfl,iN⟩;refine ⟨_,rfl,iN.heap aa,iN.heap aa,iN.heap aa,iN.heap aa,iN.heap aa,rfl,rfl,rfl,rfl,rfl,?_,iN⟩;rw [sm,if_pos aa]
     ·rw [sm,if_neg (by simp only [bV] at g3;omega)]
     ·rw [sm,if_neg (by simp only [bV] at g2;omega)]
     ·rw [sm,if_neg (by simp only [bV] at g1;omega)]
    rintro VH b wj ⟨hbv,xj⟩ nC Jk;have zj:=xj.size;have kF:=bo Jk;have z36:=dt Jk;have UI:=(Gc.ext xj).ext kF;obtain ⟨hp,aR⟩:=UI.append (bytes:=8) (news:=[.int .i64 b]) aa rfl (by intro v hv;simp at hv;subst hv;rfl) aa aa;refine ⟨hp,λFC qP ajS=> ?_⟩;obtain ⟨d1,d2,d3,d4,-⟩:=aR FC qP ajS;have z38:=d3.size;refine ⟨d3.block _ aa,d3.block _ aa,d3.block _ aa,d3.block _ aa,d3.block _ aa,d4 _ (λuM=>by have:=(Gc.own.lt uM).2;omega) aa,λiU e39=> ?_⟩;have z39:=mC e39;have je:Ext w qP:=Below.trans (xr.tr (xj.tr kF)) (Below.mono d3 aa);refine ⟨n3-1,by omega,rfl,rfl,rfl,rfl,ix+1,wk ix aa,by omega,rfl,?_,?_,je.ab e39 aa,by omega⟩
    ·rw [<-Nat.add_assoc,SX,aT,<-hbv];exact aj.bM d1 λg hg=>by have:=(d1.own.lt hg).1;rw [e39,setRow_other _ _ _ _ aa]
    ·have r36:=(rr.ext xj).ext kF;exact (r36.same (d3.block _ aa)).same (by rw [e39,setRow_other _ _ _ _ aa])
   ·replace Y6:=eX Y6;have:ix=6:=by omega
    subst this;rw [show iy*36+iz*6+6=iy*36+(iz+1)*6 by omega] at Gc;exact ⟨n2-1,by omega,rfl,rfl,rfl,rfl,iz+1,wk iz aa,by omega,rfl,Gc,rr,xr,zr⟩
  ·replace eF:=eX eF;have:iz=6:=by omega
   subst this;rw [show iy*36+6*6=(iy+1)*36 by omega] at ho1;exact ⟨n-1,by omega,rfl,rfl,rfl,rfl,iy+1,wk iy aa,by omega,rfl,ho1,rr,xr,zr⟩
 ·replace hb:=eX hb;have:iy=6:=by omega
  subst this;have fin:∀iV:World,iV=wr.drew.setRow w1 #[.slice s.a s.n s.c,(-1:Int)]->Row iV w0 (dn c) gz/\Ext w iV/\aj w5 qT 1 iV s ((Wx (eB T.2) c).map λb=> [.int .i64 b])/\w5.heap.size<=iV:=λiV DU=>by have xd:=xr.tr (Ext.dr wr);refine ⟨(rr.ext (Ext.dr wr)).same (by rw [DU,setRow_other _ _ _ _ aa]),xd.ab DU aa,aj.bM (ho0.ext (Ext.dr wr)) λg hg=>by have:=(ho0.own.lt hg).1;rw [DU,setRow_other _ _ _ _ aa],by rw [DU];simp;exact zr⟩
  have fin2:∀(iV kE:World)(cs:Array Value),iV=wr.drew.setRow w1 #[.slice s.a s.n s.c,(-1:Int)]->kE=iV.setRow w2 cs->∃sg:Sl,Ending.returned (.tuple #[gV s,.agg #[.int .i64 (c.1-1),.int .i64 (c.2.1-1),.int .i64 (c.2.2-1)]])=Value.tuple #[gV sg,.agg #[.int .i64 (c.1-1),.int .i64 (c.2.1-1),.int .i64 (c.2.2-1)]]/\aj w qT 1 kE sg ((Wx (eB T.2) c).map λb=> [.int .i64 b])/\Ext w kE:=λiV kE cs DU e41=>by obtain ⟨-,f2,f3,f4⟩:=fin iV DU;exact ⟨s,rfl,(aj.bM f3 λg hg=>by have:=(f3.own.lt hg).1;rw [e41,setRow_other _ _ _ _ aa]).low aa,f2.ab e41 aa⟩
  refine ⟨λiV DU=> ?_,λiV DU=> ?_⟩<;>
  ·obtain ⟨f1,-⟩:=fin iV DU;exact ⟨f1.at 2 rfl,f1.at 1 rfl,f1.at 0 rfl,λkE e41=>fin2 iV kE _ DU e41⟩
end
end Go.Proofs.YtalpkjfpmdpbiaaGreatDoor
namespace Go.Proofs.YtalpkjfpmdpbiaaGreatDoor
open Go Go.Vc Go.RowKit Go.Proofs Go.dS Go.bh Go.Code Go.km Go.iQ
set_option maxRecDepth 100000
structure LC(P:Nat->Prop)(w:World)(s:Sl)(l:List Ce):Prop where
 r:RdK w s 3 (l.map dn)
 p:l≠ []->∀g,s.bj=some g->P g
section
variable {P P':Nat->Prop} {w w' v v':World} {s s1 s2 s3 s4 sq so sd:Sl} {l oc:List Ce} {M M':Sm}
def LC.ext(h:LC P w s l)(x:Ext w w'):LC P w' s l:=⟨h.r.ext x,h.p⟩
def LC.same(h:LC P w s l)(hk:∀i,P i->i<w.heap.size->w'.heap[i]? =w.heap[i]?/\P' i):LC P' w' s l:=by
 have hb:l.map dn≠ []->l≠ []:=λq e=>q (by rw [e];rfl)
 have hb':l≠ []->l.map dn≠ []:=λq e=>q (by simpa using e)
 exact ⟨RdK.AB h.r λdN g hg=>(hk g (h.p (hb dN) g hg) (RdK.jX h.r aC dN hg)).1,λdN g hg=>(hk g (h.p dN g hg) (RdK.jX h.r aC (hb' dN) hg)).2⟩
def LC.nil:LC P w ⟨none,0,0⟩ []:=⟨⟨rfl,(λr hr=>by cases hr),λi r hi=>by simp at hi⟩,λh=>absurd rfl h⟩
def LC.own{B:Nat}(h:aj B gz 3 w s (l.map dn))(hP:∀i,B<=i->P i):LC P w s l:=⟨h.rd aC,λ_ g hg=>hP g (h.own.lt hg).1⟩
structure RM(P:Nat->Prop)(w:World)(M:Sm)(oc:List Ce)(s1 s2 s3 s4 sq so sd:Sl):Prop where
 s:RS P w M.T M.ch M.q s1 s2 s3 s4 sq
 o:LC P w so oc
 d:LC P w sd M.dK
abbrev xM(M:Sm)(s1 s2 s3 s4 sq so sd:Sl):LV:=Ye M.ag M.cap M.T.1 s1 s2 s3 s4 M.q sq M.aO M.now so sd
def RM.ext(h:RM P w M oc s1 s2 s3 s4 sq so sd)(x:Ext w w'):RM P w' M oc s1 s2 s3 s4 sq so sd:=⟨⟨h.s.t.ext x,h.s.g.ext x,h.s.qo.ext x,h.s.ok⟩,h.o.ext x,h.d.ext x⟩
def RM.same(h:RM P w M oc s1 s2 s3 s4 sq so sd)(hk:∀i,P i->i<w.heap.size->w'.heap[i]? =w.heap[i]?/\P' i)(hq:∀g cs,Row w g cs Q.tX->w'.heap[g]? =w.heap[g]?):RM P' w' M oc s1 s2 s3 s4 sq so sd:=
 ⟨⟨h.s.t.same hk,h.s.g.same hk,aj.bM h.s.qo λg hg=>by obtain ⟨cs',hr'⟩:=aM h.s.qo aC hg;exact hq g cs' hr',h.s.ok⟩,h.o.same hk,h.d.same hk⟩
def RM.nT(h:RM P w M oc s1 s2 s3 s4 sq so sd)(x:Ext w v)(b:Nat):RM (Bx P w b) v M oc s1 s2 s3 s4 sq so sd:=h.same (λ_ hp hi=>⟨x.heap hi,hp,.inl hi⟩) λg cs hr=>x.heap hr.lt
def RM.box{a b g:Nat}{c:Array Value}{cs:LV}{τ:TypeId}(h:RM (Bx P a b) v M oc s1 s2 s3 s4 sq so sd)(e:v'=v.setRow g c)(hg:a<=g/\g<b)(hr:Row v g cs τ)(hτ:τ≠Q.tX):RM (Bx P a b) v' M oc s1 s2 s3 s4 sq so sd:=
 h.same (λi hp _=>⟨by rw [e,setRow_other _ _ _ _ (by have:=hp.2;omega)],hp⟩) λg' cs' hr'=>by rw [e,setRow_other _ _ _ _ (hr'.ne hr hτ.symm)]
def RM.out{a b:Nat}(h:RM (Bx P a b) v M oc s1 s2 s3 s4 sq so sd):RM P v M oc s1 s2 s3 s4 sq so sd:=h.same (λ_ hp _=>⟨rfl,hp.1⟩) λ_ _ _=>rfl
def RMs(P:Nat->Prop)(w:World)(M:Sm)(oc:List Ce)(v:Value)(w':World):Prop:=∃s1 s2 s3 s4 sq so sd:Sl,v=.agg (xM M s1 s2 s3 s4 sq so sd).toArray/\RM P w' M oc s1 s2 s3 s4 sq so sd/\Ext w w'
def RM.edit(h:RM P w M oc s1 s2 s3 s4 sq so sd)(hP:Fw P w)(ho:qH M.T)(hk:ng M 800000)(c:Ce)(hc:dH c)(b:Int):
  ah 26 #[.agg (xM M s1 s2 s3 s4 sq so sd).toArray,iG c,b] w λe w'=>∃Jm FA Jn YX sq':Sl,e=Value.tuple #[.agg (xM (gw M c b) Jm FA Jn YX sq' so sd).toArray,.int .i64 (cr M.T.2 c b).2]/\RM P w' (gw M c b) oc Jm FA Jn YX sq' so sd/\Ext w w':=by
 have hl:=hk.l;have hch:=hk.c;refine (Fk (ag:=M.ag) (cap:=M.cap) (bud:=M.aO) (so:=so) (sd:=sd) h.s hP ho aa aa hk.now c hc b).mono ?_;rintro e w2 ⟨t1,t2,t3,t4,tq,rfl,hr,x⟩;exact ⟨t1,t2,t3,t4,tq,rfl,⟨hr,h.o.ext x,h.d.ext x⟩,x⟩
end
abbrev oM(oc:List Ce):Ce->Bool:=λy=>decide (y ∈ oc)
def H0(c:Ce)(L:List Go.iQ.Cg):List Go.iQ.Cg:=L.map λx=>(nB c x.1,x.2)
def Vr(x:Go.iQ.Cg):Prop:=(0<=x.1.1/\x.1.1<3)/\(0<=x.1.2.1/\x.1.2.1<3)/\0<=x.1.2.2/\x.1.2.2<3
def S0(U:Ce->Int):∀x ∈ iY U fa,Vr x:=by
 have s4:∀n ∈ aQ fa,∀b:Int,Vr (n,b):=by intro n hn b;unfold aQ fa at hn;simp only [bJ,fY,or_false] at hn;rcases hn with rfl|rfl|rfl|rfl<;>exact (by unfold Vr;simp only;omega)
 have o1:∀b:Int,Vr (fa,b):=λb=>by unfold Vr fa;simp only;omega
 have l1:∀b:Int,Vr (bz fa,b):=λb=>by unfold Vr bz fa;simp only;omega
 intro x hx;unfold iY pD at hx;split at hx
 ·split at hx
  ·simp only [bJ,fY,or_false] at hx;rcases hx with rfl|rfl
   ·exact o1 _
   ·exact l1 _
  ·cases hx
 ·split at hx
  ·cases hx
  ·split at hx
   ·rw [fB.1 hx];exact o1 _
   ·split at hx
    ·rw [fB.1 hx];exact o1 _
    ·split at hx
     ·rw [fB.1 hx];exact l1 _
     ·split at hx
      ·cases hx
      ·obtain ⟨n,hn,rfl⟩:=aS.1 hx;exact s4 n (jJ.1 hn).1 _
def Pk(U:Ce->Int):(iY U fa).length<=4:=by
 unfold iY pD;have hf:((aQ fa).filter λn=>decide (U n=0)).length<=4:=C7 _ _;split
 ·split<;>simp
 ·split
  ·simp
  ·split
   ·simp
   ·split
    ·simp
    ·split
     ·simp
     ·split
      ·simp
      ·simpa using hf
def WD(oc:List Ce)(M:Sm)(c:Ce)(hr:lD M.T.2 c=true){U:Ce->Int}(hU:Small (eB M.T.2) U c):
  g9 (oM oc) M c=if eB M.T.2 c=3/\0<(iY U fa).length/\bz c ∈ oc then (H0 c [(fa,0)]).foldl bB {M with dK:=M.dK++ [bz c]} else (H0 c (iY U fa)).foldl bB M:=by
 have h1:H0 c (iY U fa)=jq (eB M.T.2) c:=(Kj hU).trans (ZC _ c);have h2:(jq (eB M.T.2) c).isEmpty=decide ((iY U fa).length=0):=by
  rw [<-h1];unfold H0
  cases iY U fa<;>simp
 have h3:pI (oM oc) M c=decide (eB M.T.2 c=3/\0<(iY U fa).length/\bz c ∈ oc):=by unfold pI;rw [h2];by_cases a:eB M.T.2 c=3<;>by_cases b:(iY U fa).length=0<;>by_cases d:bz c ∈ oc<;>simp [a,b,d]<;>omega
 unfold g9;rw [hr,if_neg cx,h3,h1];have h4:H0 c [(fa,0)]=[(c,0)]:=by unfold H0;simp only [dG,List.map_nil,zE]
 rw [h4];by_cases q:eB M.T.2 c=3/\0<(iY U fa).length/\bz c ∈ oc
 ·rw [if_pos (by simpa using q),if_pos q];rfl
 ·rw [if_neg (by simpa using q),if_neg q]
end Go.Proofs.YtalpkjfpmdpbiaaGreatDoor
namespace Go.Proofs.YtalpkjfpmdpbiaaGreatDoor
open Go Go.Vc Go.RowKit Go.Proofs Go.dS Go.bh Go.Code Go.km Go.iQ
set_option maxRecDepth 100000
def FM(P:Nat->Prop)(w:World)(oc:List Ce)(M:Sm)(a1 a2 a3 a4 a5:Int)(b1 b2 b3 b4:Sl)(c1 c2:Int)(c3:Sl)(c4 c5:Int)(c6 c7:Sl):Prop:=
 (a1=M.ag/\a2=M.cap/\a3=M.T.1.room/\a4=M.T.1.c9/\a5=M.T.1.wait/\c1=M.q.room/\c2=M.q.lost/\c4=M.aO/\c5=M.now)/\RM P w M oc b1 b2 b3 b4 c3 c6 c7
def FM.of{P:Nat->Prop}{w:World}{oc:List Ce}{M:Sm}{s1 s2 s3 s4 sq so sd:Sl}(h:RM P w M oc s1 s2 s3 s4 sq so sd):FM P w oc M M.ag M.cap M.T.1.room M.T.1.c9 M.T.1.wait s1 s2 s3 s4 M.q.room M.q.lost sq M.aO M.now so sd:=⟨⟨rfl,rfl,rfl,rfl,rfl,rfl,rfl,rfl,rfl⟩,h⟩
def mr:∀(l:List Go.iQ.Cg) {M:Sm},qH M.T->qH (l.foldl bB M).T
 | [],_,h=>h
 |x::l,M,h=>mr l (by
  unfold bB
  split
  ·exact h
  ·exact Et h _ _)
def EM(y:Ce):One (dn y):=by intro u hu;simp at hu;rcases hu with rfl|rfl|rfl<;>rfl
def Wz{c:Ce}(hc:nZ c):FZ (pos c):=by unfold nZ at hc;unfold FZ Go.dS.pos;simp only;omega
def Ae{P:Nat->Prop}{w:World}{M:Sm}{oc:List Ce}{s1 s2 s3 s4 sq so sd:Sl}(h:RM P w M oc s1 s2 s3 s4 sq so sd)(hP:Fw P w)(ho:qH M.T)(hk:ng M 700000)(Qi:oc.length<=1000)(c:Ce)(hc:nZ c):
  ah 110 #[.agg (xM M s1 s2 s3 s4 sq so sd).toArray,iG c] w λe w'=>∃v,e=.returned v/\RMs P w (g9 (oM oc) M c) oc v w':=by
 apply (EG.vc (aK:=s1) (aL:=s2) (aH:=s3) (bO:=s4) (cD:=sq) (cg:=so) (cj:=sd))
 intro w0 e0 w1 e1 w2 e2
 have x2:Ext w w2:=((bo e0).ay e1).ay e2
 have z0:=dt e0
 have z1:w1.heap.size=w.heap.size+2:=by rw [e1];simp [z0]
 have z2:w2.heap.size=w.heap.size+3:=by rw [e2];simp [z1]
 have J0:∃cs,Row w2 w cs bG:=⟨_,((by rw [e0];exact Row.new w [_,_,_,_,_,_,_,_,_,_,_,_,_,_,_,_] _:Row w0 w (xM M s1 s2 s3 s4 sq so sd) bG).ext (bo e1)).ext (bo e2)⟩
 have Jp:∃cs,Row w2 w1 cs bG:=⟨_,by rw [e2];exact Row.new w1 [_,_,_,_,_,_,_,_,_,_,_,_,_,_,_,_] _⟩
 obtain ⟨ca,J0⟩:=J0
 obtain ⟨cb,Jp⟩:=Jp
 have ot:bG≠Q.tX:=by decide
 have h2:=h.nT x2 w2
 have QL:=hP.bx x2 (ax _)
 obtain ⟨⟨g1,g2⟩,⟨g3,g4⟩,g5,g6⟩:=id hc
 have Uh:=hk.now
 have hlost:=hk.l
 refine (HY (s4:=s4) h2.s.t ho.l c hc.wide.ok (Wz hc)).mono ?_
 rintro e w3 ⟨rfl,x3⟩
 have zz3:=x3.size
 have h3:=h2.ext x3
 refine ⟨_,rfl,x3.heap aa,x3.heap aa,x3.heap aa,Br.mk (λhr=> ?_) (λhr=> ?_)⟩
 ·have hr:lD M.T.2 c=false:=by simpa using hr
  have wn:ai (M.now+1)=M.now+1:=wI
  rw [wn]
  refine (Q.vX h3.s.qo h.s.ok aa c (M.now+1)).mono ?_
  rintro e w5 ⟨⟨s',rfl,u9⟩,x5⟩
  have zz5:=x5.size
  refine ⟨_,_,s',_,rfl,x5.heap aa,x5.heap aa,x5.heap aa,λbL wA cB yl bS BW cC qX=> ?_⟩
  have bR:Ext w5 cB:=(bo wA).ab yl (ax _)
  have ap8:=bR.size
  have h5:RM (Bx P w.heap.size w2) w5 {M with q:=(fc M.q c (M.now+1)).1} oc s1 s2 s3 s4 s' so sd:=⟨⟨h3.s.t.ext x5,h3.s.g.ext x5,u9,h.s.ok.add _ _⟩,h3.o.ext x5,h3.d.ext x5⟩
  have y11:=x3.tr (x5.tr bR)
  have nE:=(h5.ext bR).box BW ⟨by omega,by omega⟩ (J0.ext y11) ot
  have aj8:Row bS w1 cb bG:=(Jp.ext y11).same (by rw [BW,setRow_other _ _ _ _ aa])
  have h13:=nE.box qX ⟨by omega,by omega⟩ aj8 ot
  have eu:g9 (oM oc) M c={M with q:=(fc M.q c (M.now+1)).1}:=by unfold g9;rw [hr,if_pos rfl]
  rw [eu]
  exact ⟨_,rfl,s1,s2,s3,s4,s',so,sd,rfl,h13.out,((x2.tr y11).ab BW (ax _)).ab qX aa⟩
 have hr:lD M.T.2 c=true:=by simpa using hr
 refine (Cj (ag:=M.ag) (cap:=M.cap) (s4:=s4) (sq:=sq) (bud:=M.aO) (now:=M.now) (so:=so) (sd:=sd) h3.s.t ho M.q c hc).mono ?_
 rintro e bY ⟨sg,rfl,hog,bW⟩
 have aj9:=bW.size
 refine ⟨sg,_,_,_,_,rfl,bW.heap aa,bW.heap aa,bW.heap aa,λdY BU ef uP ct Bq gp JY=> ?_⟩
 have z20:=dt BU
 have dc:Ext bY gp:=(((bo BU).ay uP).ab Bq (ax _)).ab JY aa
 have z23:gp.heap.size=bY.heap.size+2:=by rw [JY,Bq,uP];simp [z20]
 have hgr:gRd gp sg (Wx (eB M.T.2) c):=(hog.rd aC).ext dc
 refine (EN hgr fa (by unfold dH fa;decide)).mono ?_
 rintro e fy ⟨me,rfl,uQ,de⟩
 have ai1:=de.size
 refine ⟨me,rfl,de.heap aa,de.heap aa,de.heap aa,de.heap aa,de.heap aa,λhZ Jo jf yF=> ?_⟩
 have dp:Ext fy jf:=(bo Jo).ab yF (ax _)
 have z27:=jE Jo yF
 have wl:ai (c.2.1-1)=c.2.1-1:=wI
 rw [wl]
 have y27:=x3.tr (bW.tr (dc.tr (de.tr dp)))
 have h27:=h2.ext y27
 refine (HZ (y:=bz c) h27.o.r Qi).mono ?_
 rintro e eN ⟨rfl,eS⟩
 have aqc:=eS.size
 have y28:=y27.tr eS
 have h28:=h2.ext y28
 have abS:=J0.ext y28
 have ae7:=Jp.ext y28
 have aka:=((uQ.ext dp).ext eS).low (show w2.heap.size<=gp by omega)
 have hU:=SZ (eB M.T.2) c
 have eu:=WD oc M c hr hU
 have i3:=S0 (U1 (Wx (eB M.T.2) c))
 have n4:=Pk (U1 (Wx (eB M.T.2) c))
 generalize hL:iY (U1 (Wx (eB M.T.2) c)) fa=LN at*
 have ae5:me.n=LN.length:=by have:=(uQ.rd (show 0<4 by decide)).n;rwa [aB] at this
 refine ⟨_,rfl,eS.heap aa,eS.heap aa,eS.heap aa,eS.heap aa,eS.heap aa,eS.heap aa,
  λsl a1 a2 a3 a4 a5 b1 b2 b3 b4 c1 c2 c3 c4 c5 c6 c7 wj=>∃(L:List Go.iQ.Cg)(M':Sm),g9 (oM oc) M c=(H0 c L).foldl bB M'/\(∀x ∈ L,Vr x)/\L.length<=4/\ng M' 700001/\qH M'.T/\FM (Bx P w.heap.size w2) wj oc M' a1 a2 a3 a4 a5 b1 b2 b3 b4 c1 c2 c3 c4 c5 c6 c7/\aj w2 eH 4 wj sl (L.map fx)/\Ext w wj/\eN.heap.size<=wj/\(∃cs,Row wj w cs bG)/\∃cs,Row wj w1 cs bG,?_,?_⟩
 ·refine (oa (ag:=M.ag) (cap:=M.cap) (s4:=s4) (sq:=sq) (bud:=M.aO) (now:=M.now) (so:=so) (sd:=sd) h28.s.t ho M.q c hc.wide.ok).mono ?_
  rintro e ik ⟨rfl,iN⟩
  have aiV:=iN.size
  have y31:=y28.tr iN
  have h31:=h2.ext y31
  have plain:¬(eB M.T.2 c=3/\0<LN.length/\bz c ∈ oc)->∃(L:List Go.iQ.Cg)(M':Sm),g9 (oM oc) M c=(H0 c L).foldl bB M'/\(∀x ∈ L,Vr x)/\L.length<=4/\ng M' 700001/\qH M'.T/\FM (Bx P w.heap.size w2) ik oc M' M.ag M.cap M.T.1.room M.T.1.c9 M.T.1.wait s1 s2 s3 s4 M.q.room M.q.lost sq M.aO M.now so sd/\aj w2 eH 4 ik me (L.map fx)/\Ext w ik/\eN.heap.size<=ik/\(∃cs,Row ik w cs bG)/\∃cs,Row ik w1 cs bG:=λhn=>by
   rw [if_neg hn] at eu
   exact ⟨LN,M,eu,i3,n4,hk.mono aa,ho,FM.of h31,aka.ext iN,x2.tr y31,by omega,⟨_,abS.ext iN⟩,⟨_,ae7.ext iN⟩⟩
  refine ⟨_,rfl,iN.heap aa,iN.heap aa,iN.heap aa,iN.heap aa,iN.heap aa,iN.heap aa,Br.mk (λd1=>Br.mk (λd2=>Br.mk (λd3 lz wF=> ?_) (λd3=>⟨rfl,rfl,rfl,rfl,rfl,?_⟩)) (λd2=>⟨rfl,rfl,rfl,rfl,rfl,?_⟩)) (λd1=>⟨rfl,rfl,rfl,rfl,rfl,?_⟩)⟩
  ·have d1:eB M.T.2 c=3:=by simpa using d1
   have d2:0<LN.length:=by simp only [bA] at d2;omega
   have d3:bz c ∈ oc:=by simpa using d3
   rw [if_pos ⟨d1,d2,d3⟩] at eu
   have gx:=bo wF
   have z33:=dt wF
   have akc:Row lz ik (([((fa,0):Go.iQ.Cg)].map fx).flatten) eH:=Row.nw wF
   have Qj:=hk.d
   have hdr:=(h31.ext gx).d.r
   have hdn:=hdr.n
   rw [aB] at hdn
   have h0:aj lz gz 3 lz ⟨none,0,0⟩ []:=aj.nil
   have ha:=h0.kl (bytes:=24) (more:=M.dK.map dn) (ax _) (λr hr=>by obtain ⟨y,-,rfl⟩:=aS.1 hr;rfl) (λr hr=>by obtain ⟨y,-,rfl⟩:=aS.1 hr;exact EM _) (by simp only [aB];omega) (by simp only [aB];omega)
   rw [aB,<-hdn] at ha
   obtain ⟨hp,aR⟩:=ha
   refine ⟨(M.dK.map dn).flatten,RdK.flat hdr aC,hp,λNQ nC akd=> ?_⟩
   obtain ⟨UI,aqe,kF,-,-⟩:=aR NQ nC akd
   have kF:Ext lz nC:=kF
   have aiX:=kF.size
   have aqf:NQ.n=M.dK.length:=by have:=(aj.rd UI aC).n;simpa using this
   refine ⟨kF.heap aa,kF.heap aa,kF.heap aa,kF.heap aa,kF.heap aa,kF.heap aa,kF.heap aa,λhX Qb=> ?_⟩
   have gk:=bo Qb
   have z37:=dt Qb
   obtain ⟨Ml,hres8⟩:=(UI.ext gk).append (bytes:=24) (news:=dn (bz c)) aa rfl (EM _) aa aa
   refine ⟨Ml,λwD iU abU=> ?_⟩
   obtain ⟨f1,f2,f3,f4,-⟩:=hres8 wD iU abU
   have aqg:=f3.size
   have kB:Ext ik iU:=Below.trans (gx.tr (kF.tr gk)) (Below.mono f3 aa)
   refine ⟨f3.block _ aa,f3.block _ aa,f3.block _ aa,f3.block _ aa,f3.block _ aa,f3.block _ aa,f3.block _ aa,f4 _ (λuM=>by have:=(UI.own.lt uM).2;omega) aa,λiV DU=> ?_⟩
   have ake:aj lz gz 3 iU wD ((M.dK++ [bz c]).map dn):=by rw [aT];simpa using f1
   have h39:RM (Bx P w.heap.size w2) iU {M with dK:=M.dK++ [bz c]} oc s1 s2 s3 s4 sq so wD:=⟨(h31.ext kB).s,(h31.ext kB).o,LC.own ake λi hi=>QL i aa⟩
   have h40:=h39.box DU ⟨by omega,by omega⟩ ((abS.ext iN).ext kB) ot
   have akg:Row iV ik (([((fa,0):Go.iQ.Cg)].map fx).flatten) eH:=((akc.ext (kF.tr gk)).same (f3.block _ aa)).same (by rw [DU,setRow_other _ _ _ _ aa])
   have aqi:=mC DU
   refine ⟨rfl,rfl,rfl,rfl,rfl,[(fa,0)],{M with dK:=M.dK++ [bz c]},eu,λx hx=> ?_,by simp,⟨by have:=hk.l;simp only;omega,by have:=hk.c;simp only;omega,hk.now,by simp only [eP,List.length_singleton];omega⟩,ho,FM.of h40,?_,((x2.tr y31).tr kB).ab DU (ax _),by omega,⟨_,by rw [DU];exact Row.set ((abS.ext iN).ext kB) _⟩,⟨_,((ae7.ext iN).ext kB).same (by rw [DU,setRow_other _ _ _ _ aa])⟩⟩
   ·rw [List.mem_singleton.1 hx];unfold Vr fa;decide
   ·exact aj.gm aa akg cx (ax _) rfl (by intro r hr;obtain ⟨y,-,rfl⟩:=aS.1 hr;rfl)
  ·exact plain λq=>by have:=q.2.2;simp [this] at d3
  ·exact plain λq=>by have:=q.2.1;simp only [bV] at d2;omega
  ·exact plain λq=>by have:=q.1;simp [this] at d1
 rintro ajr sl a1 a2 a3 a4 a5 b1 b2 b3 b4 c1 c2 c3 c4 c5 c6 c7 Xv ⟨L,M',eu,i3,n4,hk',ho',hF,yk,xy,akh,ra,rb⟩
 have hln:sl.n=L.length:=by have:=(yk.rd (show 0<4 by decide)).n;rwa [aB] at this
 rw [eu]
 refine ⟨λn i a1 a2 a3 a4 a5 b1 b2 b3 b4 c1 c2 c3 c4 c5 c6 c7 wj=>∃(j:Nat)(M2:Sm),i=j/\j+n=L.length/\M2=((H0 c L).take j).foldl bB M'/\FM (Bx P w.heap.size w2) wj oc M2 a1 a2 a3 a4 a5 b1 b2 b3 b4 c1 c2 c3 c4 c5 c6 c7/\aj w2 eH 4 wj sl (L.map fx)/\Ext w wj/\eN.heap.size<=wj/\(∃cs,Row wj w cs bG)/\∃cs,Row wj w1 cs bG,⟨L.length,rfl,rfl,rfl,rfl,rfl,0,M',rfl,by omega,rfl,hF,yk,xy,akh,ra,rb⟩,?_⟩
 rintro n Xr i a1 a2 a3 a4 a5 b1 b2 b3 b4 c1 c2 c3 c4 c5 c6 c7 sL ⟨j,M2,rfl,hj,Ge,⟨⟨rfl,rfl,rfl,rfl,rfl,rfl,rfl,rfl,rfl⟩,hR⟩,yk,oX,aqj,ra,rb⟩
 obtain ⟨aqk,ra⟩:=ra
 obtain ⟨aql,rb⟩:=rb
 have hok2:qH M2.T:=by rw [Ge];exact mr _ ho'
 have hsk2:ng M2 700100:=by
  rw [Ge]
  exact (hk'.fold _).mono (by have:((H0 c L).take j).length<=4:=by rw [bF];unfold H0;rw [aB];omega
                              omega)
 have wk:j<10->ai ((j:Int)+1)=((j+1:Nat):Int):=λhj=>by rw [wI];omega
 apply Br.mk<;>intro hb
 ·replace hb:=fe hb
  obtain ⟨y,hy⟩:=aZ (l:=L) (i:=j) aa
  have hy':(L.map fx)[j]? =some (fx y):=by rw [aV,hy];rfl
  have j2:(H0 c L).take (j+1)=(H0 c L).take j++ [(nB c y.1,y.2)]:=by
   rw [cm]
   unfold H0
   rw [aV,hy]
   rfl
  obtain ⟨⟨p1,p2⟩,⟨p3,p4⟩,p5,p6⟩:=i3 y (bf hy)
  have xd:=Ext.dr sL
  have fq:=(yk.rd (show 0<4 by decide))
  have cX:=fq.fp (i:=(j:Int)) aC aa hb
  have lA:(ae sl.a (((j:Nat):Int).toNat*4)).isSome=true:=by
   obtain ⟨p,hp⟩:=kS.1 cX.1
   rw [hp];rfl
  have hso2:(ae (ae sl.a (((j:Nat):Int).toNat*4)) 0).isSome=true:=by
   obtain ⟨p,hp⟩:=kS.1 lA
   rw [hp];rfl
  have wx:ai (c.1-1+y.1.1)=(nB c y.1).1:=by rw [wI];rfl
  have wy:ai (c.2.1-1+y.1.2.1)=(nB c y.1).2.1:=by rw [wI];rfl
  have wz:ai (c.2.2-1+y.1.2.2)=(nB c y.1).2.2:=by rw [wI];rfl
  have XO:dH (nB c y.1):=by unfold dH nB;simp only;omega
  have lds:∀{v:World},RdK v sl 4 (L.map fx)->∀k:Nat,∀u,(fx y)[k]? =some u->ld v (ae (ae (ae sl.a (((j:Nat):Int).toNat*4)) 0) k)=some u:=λfq k u hu=>by
   rw [ck]
   exact fq.at hy' hu
  have ld3:∀{v:World},RdK v sl 4 (L.map fx)->ld v (ae (ae sl.a (((j:Nat):Int).toNat*4)) 3)=some (.int .i64 y.2):=λfq=>fq.at hy' (j:=3) rfl
  have zd:=kQ sL
  have box:∀(y3 lV:World),y3=sL.drew.alloc (.cells #[af,af,af] gz)->lV=y3.setRow sL.drew.heap.size #[.int .i64 (nB c y.1).1,.int .i64 (nB c y.1).2.1,.int .i64 (nB c y.1).2.2]->Row lV sL.drew.heap.size (dn (nB c y.1)) gz/\Ext sL lV/\lV.heap.size=sL.heap.size+1:=λy3 lV zc rJ=>by
   refine ⟨by rw [rJ];exact Row.set (by rw [zc];exact Row.new sL.drew [_,_,_] _) _,xd.tr ((bo zc).ab rJ (ax _)),by rw [rJ,zc];simp [zd]⟩
  refine ⟨λp wj=>p=some ⟨sL.drew.heap.size,0,none⟩/\Row wj sL.drew.heap.size (dn (nB c y.1)) gz/\Ext sL wj/\sL.heap.size<wj,⟨cX,BM lA (BM hso2 ⟨y.1.1,lds (fq.ext xd) 0 _ rfl,cX,BM lA (BM hso2 ⟨y.1.2.1,lds (fq.ext xd) 1 _ rfl,cX,BM lA (BM hso2 ⟨y.1.2.2,lds (fq.ext xd) 2 _ rfl,?_,?_⟩)⟩)⟩)⟩,?_⟩
  ·rw [wx,wy,wz]
   intro y3 zc lV rJ
   obtain ⟨q1,q2,q3⟩:=box y3 lV zc rJ
   exact ⟨rfl,rfl,rfl,rfl,rfl,rfl,rfl,q1,q2,by omega⟩
  ·rw [wx,wy,wz]
   intro y3 zc lV rJ
   obtain ⟨q1,q2,q3⟩:=box y3 lV zc rJ
   exact ⟨rfl,rfl,rfl,rfl,rfl,rfl,rfl,q1,q2,by omega⟩
  rintro abg p xB ⟨rfl,JF,sZ,z92⟩
  have x92d:=sZ.tr (Ext.dr xB)
  have aqm:=kQ xB
  refine ⟨_,_,_,Lo.wv (JF.ext (Ext.dr xB)),cX,BM lA ⟨y.2,ld3 (fq.ext x92d),?_⟩⟩
  refine (oa (ag:=M2.ag) (cap:=M2.cap) (s4:=b4) (sq:=c3) (bud:=M2.aO) (now:=M2.now) (so:=c6) (sd:=c7) (hR.ext x92d).s.t hok2 M2.q (nB c y.1) XO.ok).mono ?_
  rintro e sQ ⟨rfl,vd⟩
  have aqn:=vd.size
  have UU:=x92d.tr vd
  have h97:=hR.ext UU
  have l3:au sQ (ae (ae sl.a (((j:Nat):Int).toNat*4)) 3) 0 [y.2]:=by
   show ld sQ (ae _ 0)=_
   rw [ck]
   exact ld3 (fq.ext UU)
  refine ⟨_,rfl,vd.heap aa,vd.heap aa,vd.heap aa,vd.heap aa,vd.heap aa,vd.heap aa,l3,Br.mk (λdN=> ?_) (λdN=> ?_)⟩
  ·have dN:¬eB M2.T.2 (nB c y.1)=y.2:=by simpa using dN
   have hch:bB M2 (nB c y.1,y.2)=gw M2 (nB c y.1) y.2:=by unfold bB;rw [if_neg dN]
   have Mz:=Ext.dr sQ
   have akk:=kQ sQ
   have hPb:∀v:World,w2.heap.size<=v.heap.size->Fw (Bx P w.heap.size w2) v:=λv hv i hi=>QL i aa
   refine ⟨λp wj=>∃(g:Nat)(t1 t2 t3 t4 t5:Sl),p=some ⟨g,0,none⟩/\Row wj g (xM (gw M2 (nB c y.1) y.2) t1 t2 t3 t4 t5 c6 c7) bG/\g≠w.heap.size/\RM (Bx P w.heap.size w2) wj (gw M2 (nB c y.1) y.2) oc t1 t2 t3 t4 t5 c6 c7/\Ext sQ wj,⟨_,_,_,Lo.wv ((JF.ext ((Ext.dr xB).tr vd)).ext Mz),cX,BM lA ⟨y.2,ld3 (fq.ext (UU.tr Mz)),?_,λCF abV=> ?_⟩⟩,?_⟩
   ·refine ((h97.ext Mz).edit (hPb _ aa) hok2 (hsk2.mono aa) (nB c y.1) XO y.2).mono ?_
    rintro e FL ⟨t1,t2,t3,t4,t5,rfl,akl,sO⟩
    have anj:=sO.size
    refine ⟨_,_,_,_,_,t1,t2,t3,t4,_,_,t5,_,_,c6,c7,_,rfl,sO.heap aa,sO.heap aa,sO.heap aa,sO.heap aa,sO.heap aa,sO.heap aa,λXy abW Xz abX=>⟨rfl,rfl,rfl,rfl,rfl,rfl,FL.heap.size,t1,t2,t3,t4,t5,rfl,?_,by omega,?_,?_⟩⟩
    ·rw [abX];exact Row.set (by rw [abW];exact Row.new FL [_,_,_,_,_,_,_,_,_,_,_,_,_,_,_,_] _) _
    ·exact akl.ext ((bo abW).ab abX (ax _))
    ·exact (Mz.tr sO).tr ((bo abW).ab abX (ax _))
   ·have FR:=bo abV
    have aqo:CF.heap.size=sQ.heap.size+1:=by rw [abV];simp [akk]
    have XP:∃cs,Row CF sQ.drew.heap.size cs bG:=⟨_,by rw [abV];exact Row.new sQ.drew [_,_,_,_,_,_,_,_,_,_,_,_,_,_,_,_] _⟩
    obtain ⟨aqp,XP⟩:=XP
    have akm:RM (λi=>Bx P w.heap.size w2 i/\i≠sQ.drew.heap.size) CF M2 oc b1 b2 b3 b4 c3 c6 c7:=h97.same (λi hp hi=>⟨(Mz.tr FR).heap hi,hp,by omega⟩) λg cs hr=>(Mz.tr FR).heap hr.lt
    refine (akm.edit (λi hi=>⟨hPb CF aa i hi,by omega⟩) hok2 (hsk2.mono aa) (nB c y.1) XO y.2).mono ?_
    rintro e Qq ⟨t1,t2,t3,t4,t5,rfl,akn,qw⟩
    have ank:=qw.size
    refine ⟨_,_,_,_,_,t1,t2,t3,t4,_,_,t5,_,_,c6,c7,_,rfl,qw.heap aa,qw.heap aa,qw.heap aa,qw.heap aa,qw.heap aa,qw.heap aa,qw.heap aa,λBz qv=>⟨rfl,rfl,rfl,rfl,rfl,rfl,sQ.drew.heap.size,t1,t2,t3,t4,t5,rfl,?_,by omega,?_,?_⟩⟩
    ·rw [qv];exact Row.set (XP.ext qw) _
    ·exact akn.same (λi hp hi=>⟨by rw [qv,setRow_other _ _ _ _ hp.2],hp.1⟩) λg cs hr=>by rw [qv,setRow_other _ _ _ _ (hr.ne (XP.ext qw) ot.symm)]
    ·exact (Mz.tr (FR.tr qw)).ab qv (ax _)
   ·rintro aeN p Jz ⟨g,t1,t2,t3,t4,t5,rfl,hg,VC,ako,JL⟩
    refine ⟨_,_,_,_,_,t1,t2,t3,t4,_,_,t5,_,_,c6,c7,Lo.wv hg,λaeP Qz=> ?_⟩
    have anl:=JL.size
    have Zb:=(ra.ext UU).ext JL
    have anm:=mC Qz
    refine ⟨n-1,by omega,rfl,rfl,rfl,rfl,rfl,j+1,_,wk aa,by omega,?_,FM.of (ako.box Qz ⟨by omega,by omega⟩ Zb ot),?_,(oX.tr (UU.tr JL)).ab Qz (ax _),by omega,⟨_,by rw [Qz];exact Row.set Zb _⟩,⟨_,((rb.ext UU).ext JL).same (by rw [Qz,setRow_other _ _ _ _ aa])⟩⟩
    ·rw [j2,List.foldl_append,<-Ge]
     exact hch.symm
    ·exact aj.bM ((yk.ext UU).ext JL) λg' hg'=>by have:=(yk.own.lt hg').1;rw [Qz,setRow_other _ _ _ _ aa]
  ·have dN:eB M2.T.2 (nB c y.1)=y.2:=by simpa using dN
   have hch:bB M2 (nB c y.1,y.2)=M2:=by unfold bB;rw [if_pos dN]
   refine ⟨n-1,by omega,rfl,rfl,rfl,rfl,rfl,j+1,M2,wk aa,by omega,?_,FM.of h97,yk.ext UU,oX.tr UU,by omega,⟨_,ra.ext UU⟩,⟨_,rb.ext UU⟩⟩
   rw [j2,List.foldl_append,<-Ge]
   exact hch.symm
 ·replace hb:=eX hb
  have jG:(H0 c L).take j=H0 c L:=cZ (by unfold H0;rw [aB];omega)
  rw [jG] at Ge
  subst Ge
  intro aeQ ae8
  exact ⟨_,rfl,b1,b2,b3,b4,c3,c6,c7,rfl,(hR.box ae8 ⟨by omega,by omega⟩ rb ot).out,oX.ab ae8 aa⟩
end Go.Proofs.YtalpkjfpmdpbiaaGreatDoor
namespace Go.Proofs.YtalpkjfpmdpbiaaGreatDoor.Q
open Go Go.Vc Go.RowKit Go.Proofs Go.km
set_option maxRecDepth 100000
def W5(c:Cl):One (dn c):=by intro u hu;simp at hu;rcases hu with rfl|rfl|rfl<;>rfl
def OJ{w:World}{s:Sl}{q:QS}(ho:aj 0 tX 4 w s (q.l.map cN))(hq:xR q)(now many:Int):
  ah 109 #[.agg #[q.room,q.lost,s],now,many] w λe w'=>(∃s' so:Sl,e=Value.tuple #[.agg #[.int .i64 (ue q now many).1.room,.int .i64 (ue q now many).1.lost,s'],.slice so.a so.n so.c]/\aj 0 tX 4 w' s' ((ue q now many).1.l.map cN)/\aj w mo 3 w' so ((ue q now many).2.map dn))/\Ext w w':=by
 apply O5.vc;have kf:s.n=q.l.length:=by rw [(ho.rd aC).n,aB]
 have ed:=hq.len;have hroom:=hq.room;intro w0 e0 w1 e1;have x1:Ext w w1:=(bo e0).ay e1;have z0:=dt e0;have z1:w1.heap.size=w.heap.size+2:=by rw [e1];simp [z0]
 have hcd:fR q.l now many=min (q.l.takeWhile λy=>decide (y.1<=now)).length many.toNat:=rfl;have P7:=Dr q.l now many;unfold ue;simp only;generalize hcn:fR q.l now many=cnt at hcd P7;refine ⟨λn x so sr wr=>Below w1 w1 wr/\∃j:Nat,x=j/\j+n=q.l.length/\aj w1 mo 3 wr so ((q.l.take (min j cnt)).map λy=>dn y.2)/\aj w1 tX 4 wr sr (((q.l.take j).drop cnt).map cN),⟨q.l.length,trivial,trivial,Below.refl _ _,0,rfl,by omega,by simp;exact aj.nil,by simp;exact aj.nil⟩,?_⟩;rintro n us x so sr wr ⟨xr,j,rfl,hj,nA,hrest⟩;have sG:=(ho.ext x1).ext xr;have fq:=sG.rd aC;have zr:=xr.size;have arY:so.n=min j cnt:=by rw [(nA.rd aC).n,aB,bF];omega
 have XU:sr.n=j-cnt:=by rw [(hrest.rd aC).n,aB,iC,bF];omega
 apply Br.mk<;>intro hc
 ·replace hc:=fe hc;have dC:q.l[j]? =some (q.l[j]'aa):=cy aa;generalize q.l[j]'aa=y at dC;have Mg:=jw hq.sorted now dC;have hs:=fq.isSome aC (i:=j) (by simp;omega);have cX:cA s.a (j:Int) s.n:=⟨hs,by omega,by omega⟩;have Vv:∀p ∈ eV (ae s.a ((j:Int).toNat*4)),p:=gq.2 (by rw [ea];exact hs);have Xe:=kK (j:=j);have j2:q.l.take (j+1)=q.l.take j++ [y]:=by rw [cm,dC];rfl
  have stay:¬(y.1<=now/\((min j cnt:Nat):Int)<many)->cA s.a (j:Int) s.n/\∃(de:Int)(da:Int)(dZ:Int)(dp:Int),au wr (ae s.a ((j:Int).toNat*4)) 0 [de,da,dZ,dp]/\
    ∀eN:World,eN=wr.alloc (.cells #[de,da,dZ,dp] 79)->
    aF 32 4 eN ⟨sr.a,sr.n,sr.c⟩ 1 [de,da,dZ,dp]/\∀(mf:Sl)(ia:World),aE 79 4 eN ⟨sr.a,sr.n,sr.c⟩ 1 [de,da,dZ,dp] mf ia->ia.heap[w.heap.size]? =eN.heap[w.heap.size]?/\ia.heap[w0.heap.size]? =eN.heap[w0.heap.size]?/\ia.heap[wr.heap.size]? =eN.heap[wr.heap.size]?/\
     ∃n9,n9<n/\True/\True/\Below w1 w1 ia/\∃j':Nat,ai ((j:Int)+1)=j'/\j'+n9=q.l.length/\aj w1 mo 3 ia ⟨so.a,so.n,so.c⟩ ((q.l.take (min j' cnt)).map λy=>dn y.2)/\aj w1 tX 4 ia ⟨mf.a,mf.n,mf.c⟩ (((q.l.take j').drop cnt).map cN):=by
   intro lk;have hjc:cnt<=j:=by omega
   refine ⟨cX,y.1,y.2.1,y.2.2.1,y.2.2.2,RdK.item fq dC,λeN e28=> ?_⟩;have eS:=bo e28;have z28:=dt e28;obtain ⟨c1,c2⟩:=(hrest.ext eS).append (news:=cN y) (bytes:=32) aa rfl (jr y) aa aa;refine ⟨c1,λmf ia aR=> ?_⟩;obtain ⟨d1,d2,d3,d4,d5⟩:=c2 mf ia aR;(repeat (refine And.intro ((d3).block _ aa) ?_));refine And.intro (d4 _ (λe=>by have:=(hrest.own.lt e).2;omega) aa) ?_;refine ⟨n-1,by omega,trivial,trivial,(xr.trans (Below.mono eS zr)).trans d3,j+1,Xe,by omega,?_,?_⟩
   ·rw [Nat.min_eq_right (by omega:cnt<=j+1)];rw [Nat.min_eq_right hjc] at nA;refine (nA.ext eS).bM λb hb=>d4 b (λe=> ?_) (by have:=(nA.own.lt hb).2;omega)
    obtain ⟨cs,hr⟩:=aM nA aC hb;obtain ⟨cs',hr'⟩:=aM hrest aC e;exact hr.ne hr' aC rfl
   ·rw [j2,List.drop_append_of_le_length (by rw [bF];omega),aT];exact d1
  refine ⟨cX,bn.2 ⟨Vv,y.1,fq.at (i:=j) (r:=cN y) (by rw [aV,dC];rfl) rfl,Br.mk (λhb=> ?_) (λhb=> ?_)⟩⟩
  ·replace hb:=fe hb;apply Br.mk<;>intro eF
   ·replace eF:=fe eF;have hjc:j<cnt:=by omega
    refine ⟨cX,bn.2 ⟨Vv,y.2.1,y.2.2.1,y.2.2.2,?_,λbY mB=> ?_⟩⟩
    ·rw [eo];refine ga λi v hi=> ?_
     have h1:=fq.rd j (cN y) (by rw [aV,dC];rfl);rw [cP,eo,Nat.add_assoc];exact h1 (1+i) v (by rw [CU];exact hi)
    have bW:=bo mB;have Vx:=dt mB;obtain ⟨c1,c2⟩:=(nA.ext bW).append (news:=dn y.2) (bytes:=24) aa rfl (W5 _) aa aa;refine ⟨c1,λji cY aR=> ?_⟩;obtain ⟨d1,d2,d3,d4,d5⟩:=c2 ji cY aR;(repeat (refine And.intro ((d3).block _ aa) ?_));refine And.intro (d4 _ (λe=>by have:=(nA.own.lt e).2;omega) aa) ?_;refine ⟨n-1,by omega,trivial,trivial,(xr.trans (Below.mono bW zr)).trans d3,j+1,Xe,by omega,?_,?_⟩
    ·rw [Nat.min_eq_left (by omega:j+1<=cnt),j2,aT];rw [Nat.min_eq_left aa] at d1;exact d1
    ·rw [zI (by rw [bF];omega)];rw [zI (by rw [bF];omega)] at hrest;refine (hrest.ext bW).bM λb hb=>d4 b (λe=> ?_) (by have:=(hrest.own.lt hb).2;omega)
     obtain ⟨cs,hr⟩:=aM hrest aC hb;obtain ⟨cs',hr'⟩:=aM nA aC e;exact hr.ne hr' aC rfl
   ·replace eF:=eX eF;exact stay λh=>eF aa
  ·replace hb:=eX hb;exact stay λh=>hb h.1
 ·replace hc:=eX hc;have hj':j=q.l.length:=by omega
  intro ik e31 y8 e32;have xf:Ext w wr:=x1.trans (Below.mono xr x1.size);have jB:=(xf.ab e31 (ax _)).ab e32 aa;rw [hj',ko] at hrest;rw [Nat.min_eq_right aa] at nA;refine ⟨⟨sr,so,rfl,(aj.boxed (aj.boxed hrest aa e31) aa e32).low (eC _),?_⟩,jB⟩;rw [kj];have h31:aj w1 mo 3 ik so ((q.l.take cnt).map λy=>dn y.2):=nA.bM λb hb=>by rw [e31];exact setRow_other _ _ _ _ (by have:=(nA.own.lt hb).1;omega)
  have h32:aj w1 mo 3 y8 so ((q.l.take cnt).map λy=>dn y.2):=h31.bM λb hb=>by rw [e32];exact setRow_other _ _ _ _ (by have:=(h31.own.lt hb).1;omega)
  exact h32.low aa
end Go.Proofs.YtalpkjfpmdpbiaaGreatDoor.Q
namespace Go.Proofs.YtalpkjfpmdpbiaaGreatDoor
open Go Go.Vc Go.RowKit Go.Proofs Go.dS Go.bh Go.Code Go.km Go.iQ
set_option maxRecDepth 100000
section
variable {P:Nat->Prop} {w:World} {M:Sm} {oc:List Ce} {s1 s2 s3 s4 sq so sd:Sl} {bud:Int} {m n0:Nat}
def Wo(O:Ce->Bool)(M:Sm)(c:Ce)(h:qH M.T):qH (g9 O M c).T:=by
 unfold g9;split
 ·exact h
 ·split
  ·exact mr [_] (M:={M with dK:=M.dK++ [bz c]}) h
  ·exact mr _ h
def Hr(O:Ce->Bool):∀(l:List Ce) {M:Sm},qH M.T->qH (l.foldl (g9 O) M).T
 | [],_,h=>h
 |c::l,M,h=>Hr O l (Wo O M c h)
def tR(h:RM P w M oc s1 s2 s3 s4 sq so sd)(hP:Fw P w)(ho:qH M.T)(hd:Ht (mH M))(hk:ng M 600000)(hb:1<=M.aO/\M.aO<=64)(Qi:oc.length<=1000):
  ah 66 #[.agg (xM M s1 s2 s3 s4 sq so sd).toArray] w λe w'=>∃v,e=Value.tuple #[v,.int .i64 (mH M).length]/\RMs P w (fN (oM oc) M) oc v w':=by
 apply (KT.vc (aK:=s1) (aL:=s2) (aH:=s3) (bO:=s4) (cD:=sq) (cg:=so) (cj:=sd));have Uh:=hk.now;have wr:ai (M.now+1)=M.now+1:=wI;have en:(if 1099511627776<M.now+1 then 1099511627776 else M.now+1)=nh M:=by unfold nh;split<;>omega
 intro w0 e0 w1 e1 w2 e2;rw [wr,en] at e2 ⊢;have ot:bG≠Q.tX:=by decide
 have x1:Ext w w1:=(bo e0).ay e1;have z0:=dt e0;have z1:w1.heap.size=w.heap.size+2:=by rw [e1];simp [z0]
 have ra1:Row w1 w (xM M s1 s2 s3 s4 sq so sd) bG:=(by rw [e0];exact Row.new w [_,_,_,_,_,_,_,_,_,_,_,_,_,_,_,_] _:Row w0 w (xM M s1 s2 s3 s4 sq so sd) bG).ext (bo e1);have rb1:∃cs,Row w1 w0 cs bG:=⟨_,by rw [e1];exact Row.new w0 [_,_,_,_,_,_,_,_,_,_,_,_,_,_,_,_] _⟩;obtain ⟨cb,rb1⟩:=rb1;have h1:=h.nT x1 w1;have hP1:=hP.bx x1 (ax _);have h2:RM (Bx P w.heap.size w1) w2 M oc s1 s2 s3 s4 sq so sd:=h1.box e2 ⟨by omega,by omega⟩ ra1 ot;have x2:Ext w w2:=x1.ab e2 (ax _);have z2:=mC e2;have J0:∃cs,Row w2 w cs bG:=⟨_,by rw [e2];exact Row.set ra1 _⟩;have Jp:Row w2 w0 cb bG:=rb1.same (by rw [e2,setRow_other _ _ _ _ aa]);obtain ⟨ca,J0⟩:=J0;refine (Q.OJ h2.s.qo h.s.ok (nh M) M.aO).mono ?_;rintro e w3 ⟨⟨s',s7,rfl,hq3,VD⟩,x3⟩;have zz3:=x3.size;refine ⟨_,_,s',s7,rfl,x3.heap aa,x3.heap aa,λw8 e8 w9 e9 bL wA=> ?_⟩;have x9:Ext w3 w9:=(bo e8).ab e9 (ax _);have z9:=jE e8 e9;have h3:RM (Bx P w.heap.size w1) w3 (jv M) oc s1 s2 s3 s4 s' so sd:=⟨⟨h2.s.t.ext x3,h2.s.g.ext x3,hq3,h.s.ok.due _ _⟩,h2.o.ext x3,h2.d.ext x3⟩;have y9:=x3.tr x9;have h10:=(h3.ext x9).box wA ⟨by omega,by omega⟩ (J0.ext y9) ot;have z10:=mC wA;have aiS:∃cs,Row bL w cs bG:=⟨_,by rw [wA];exact Row.set (J0.ext y9) _⟩;have aiT:∃cs,Row bL w0 cs bG:=⟨_,(Jp.ext y9).same (by rw [wA,setRow_other _ _ _ _ aa])⟩;have Mh:aj w2 gz 3 bL s7 ((mH M).map dn):=aj.bM (VD.ext x9) λg hg=>by have:=(VD.own.lt hg).1;rw [wA,setRow_other _ _ _ _ aa]
 have bq:Ext w bL:=(x2.tr y9).ab wA (ax _);have Qj:(mH M).length<=64:=Ez hb;have hk5:ng (jv M) 600000:=⟨hk.l,hk.c,by show 0<=nh M/\nh M<=_;unfold nh;omega,hk.d⟩;have u9:qH (jv M).T:=ho;unfold fN;generalize mH M=L at*;have hn7:s7.n=L.length:=by have:=(Mh.rd (show 0<3 by decide)).n;rwa [aB] at this
 refine ⟨λn i a1 a2 a3 a4 a5 b1 b2 b3 b4 c1 c2 c3 c4 c5 c6 c7 wj=>∃(j:Nat)(M2:Sm),i=j/\j+n=L.length/\M2=(L.take j).foldl (g9 (oM oc)) (jv M)/\FM (Bx P w.heap.size w1) wj oc M2 a1 a2 a3 a4 a5 b1 b2 b3 b4 c1 c2 c3 c4 c5 c6 c7/\aj w2 gz 3 wj s7 (L.map dn)/\Ext w wj/\bL.heap.size<=wj/\(∃cs,Row wj w cs bG)/\∃cs,Row wj w0 cs bG,⟨L.length,rfl,rfl,0,jv M,rfl,by omega,rfl,FM.of h10,Mh,bq,ax _,aiS,aiT⟩,?_⟩;rintro n Xr i a1 a2 a3 a4 a5 b1 b2 b3 b4 c1 c2 c3 c4 c5 c6 c7 ik ⟨j,M2,rfl,hj,Ge,⟨⟨rfl,rfl,rfl,rfl,rfl,rfl,rfl,rfl,rfl⟩,hR⟩,yk,iN,aiV,⟨apt,ra⟩,⟨apu,rb⟩⟩;have hok2:qH M2.T:=by rw [Ge];exact Hr _ _ u9
 have hsk2:ng M2 700000:=by rw [Ge];exact (hk5.KU _ _).mono (by rw [bF];omega)
 apply Br.mk<;>intro eF
 ·replace eF:=fe eF;obtain ⟨y,hy⟩:=aZ (l:=L) (i:=j) aa;have hy':(L.map dn)[j]? =some (dn y):=by rw [aV,hy];rfl
  have j2:L.take (j+1)=L.take j++ [y]:=by rw [cm,hy];rfl
  have wk:=kK (j:=j);have xd:=Ext.dr ik;have zd:=kQ ik;have fq:=(yk.rd (show 0<3 by decide)).ext xd;refine ⟨fq.fp (i:=(j:Int)) aC aa aa,_,_,_,fq.aY hy',?_⟩;refine (Ae (hR.ext xd) (λi hi=>hP1 i aa) hok2 hsk2 Qi y (hd y (bf hy))).mono ?_;rintro e nC ⟨v,rfl,t1,t2,t3,t4,t5,t6,t7,rfl,aiW,kF⟩;have aiX:=kF.size;refine ⟨_,_,_,_,_,t1,t2,t3,t4,_,_,t5,_,_,t6,t7,rfl,kF.heap aa,kF.heap aa,kF.heap aa,λXs Bs=> ?_⟩;have aen:=(ra.ext xd).ext kF;have z53:=mC Bs;refine ⟨n-1,by omega,rfl,rfl,j+1,_,wk,by omega,?_,FM.of (aiW.box Bs ⟨by omega,by omega⟩ aen ot),aj.bM ((yk.ext xd).ext kF) (λg hg=>by have:=(yk.own.lt hg).1;rw [Bs,setRow_other _ _ _ _ aa]),(iN.tr (xd.tr kF)).ab Bs (ax _),by omega,⟨_,by rw [Bs];exact Row.set aen _⟩,⟨_,((rb.ext xd).ext kF).same (by rw [Bs,setRow_other _ _ _ _ aa])⟩⟩;rw [j2,jc,<-Ge];rfl
 ·replace eF:=eX eF;rw [cZ aa] at Ge;subst Ge;intro wh Ui;exact ⟨_,by rw [hn7],b1,b2,b3,b4,c3,c6,c7,rfl,(hR.box Ui ⟨by omega,by omega⟩ rb ot).out,iN.ab Ui aa⟩
def Hu(hb:1<=bud/\bud<=64)(N:Nat)(hN:N<=1000)(h:RM P w M oc s1 s2 s3 s4 sq so sd)(hP:Fw P w)(hs:qI bud m M n0)(hn0:n0+2560*N<=600000)(Qi:oc.length<=1000):
  Calls Tryz.prog 63 #[.agg (xM M s1 s2 s3 s4 sq so sd).toArray,.int .i64 N] w λe w'=>∃v,e=.returned (.tuple #[v,.int .i64 (runM (oM oc) N M).2])/\RMs P w (runM (oM oc) N M).1 oc v w':=by
 apply (OK.vc (aK:=s1) (aL:=s2) (aH:=s3) (bO:=s4) (cD:=sq) (cg:=so) (cj:=sd));intro w0 e0 w1 e1;have ot:bG≠Q.tX:=by decide
 have x1:Ext w w1:=((Ext.bX _).ay e0).ay e1;have z0:=dt e0;have z1:w1.heap.size=w.heap.size+2:=by rw [e1];simp [z0]
 have ra1:∃cs,Row w1 w.heap.size cs bG:=⟨_,(by rw [e0];exact Row.new w [_,_,_,_,_,_,_,_,_,_,_,_,_,_,_,_] _:Row w0 w.heap.size (xM M s1 s2 s3 s4 sq so sd) bG).ext ((Ext.bX _).ay e1)⟩;have rb1:∃cs,Row w1 w0.heap.size cs bG:=⟨_,by rw [e1];exact Row.new w0 [_,_,_,_,_,_,_,_,_,_,_,_,_,_,_,_] _⟩;have h1:=h.nT x1 w1.heap.size;have hP1:=hP.bx x1 (Nat.le_refl _);clear e0 e1;refine ⟨λn i a1 a2 a3 a4 a5 b1 b2 b3 b4 c1 c2 c3 c4 c5 c6 c7 wj=>∃(k:Nat)(M2:Sm),i=k/\k+n=N/\(runM (oM oc) k M).2=k/\M2=(runM (oM oc) k M).1/\FM (Bx P w.heap.size w1.heap.size) wj oc M2 a1 a2 a3 a4 a5 b1 b2 b3 b4 c1 c2 c3 c4 c5 c6 c7/\Ext w wj/\w1.heap.size<=wj.heap.size/\(∃cs,Row wj w.heap.size cs bG)/\∃cs,Row wj w0.heap.size cs bG,⟨N,rfl,0,M,rfl,by omega,rfl,rfl,FM.of h1,x1,Nat.le_refl _,ra1,rb1⟩,?_⟩;clear h1 ra1 rb1;rintro n Xr i a1 a2 a3 a4 a5 b1 b2 b3 b4 c1 c2 c3 c4 c5 c6 c7 ct ⟨k,M2,rfl,Fq,BN,Ge,⟨⟨rfl,rfl,rfl,rfl,rfl,rfl,rfl,rfl,rfl⟩,hR⟩,eK,aiZ,⟨ca,ra⟩,⟨cb,rb⟩⟩;have hql:c3.n=M2.q.l.length:=by have:=(hR.s.qo.rd (show 0<4 by decide)).n;rwa [List.length_map] at this
 have fin:runM (oM oc) N M=runM (oM oc) k M->∀DS:World,∀cs:Array Value,DS=ct.setRow w0.heap.size cs->∃v,Ending.returned (.tuple #[.agg (xM M2 b1 b2 b3 b4 c3 c6 c7).toArray,.int .i64 k])=.returned (.tuple #[v,.int .i64 (runM (oM oc) N M).2])/\RMs P w (runM (oM oc) N M).1 oc v DS:=λee DS cs e45=>by rw [ee,BN,<-Ge];exact ⟨_,rfl,b1,b2,b3,b4,c3,c6,c7,rfl,(hR.box e45 ⟨by omega,by omega⟩ rb ot).out,eK.ab e45 (by omega)⟩
 refine Br.mk (λhp=>Br.mk (λhm=>Br.mk (λmN=> ?_) (λmN DQ VE=>fin ?_ DQ _ VE)) (λhm DQ VE=>fin ?_ DQ _ VE)) (λhp DQ VE=>fin ?_ DQ _ VE)
 ·simp only [decide_eq_true_eq,gt_iff_lt] at hp hm;have hp':0<(runM (oM oc) k M).1.q.l.length:=by rw [<-Ge];omega
  have Qk:=(qI.run hb (oM oc) k hs);have oC:=Qk.Af (by omega) hb;rw [<-Ge] at oC Qk;have es:=vF (oM oc) k M BN;rw [if_pos hp'] at es;refine (tR hR (λi hi=>hP1 i (by omega)) Qk.l.ok oC.1 oC.2.1 oC.2.2 Qi).mono ?_;rintro e fy ⟨v,rfl,t1,t2,t3,t4,t5,t6,t7,rfl,ai0,de⟩;have ai1:=de.size;have wk:IntKind.wrap .i64 ((k:Int)+1)=((k+1:Nat):Int):=by rw [wI];omega
  refine ⟨_,_,_,_,_,t1,t2,t3,t4,_,_,t5,_,_,t6,t7,_,rfl,de.k,de.k,λny VF ql Xg jA Ql=> ?_⟩;have kG:Ext fy ql:=((Ext.bX _).ay VF).ab Xg (Nat.le_refl _);have z43:=jE VF Xg;clear VF Xg;have aep:=(ra.ext de).ext kG;have z44:=mC Ql;exact ⟨n-1,by omega,rfl,k+1,_,wk,by omega,by rw [es],by rw [es,Ge],FM.of ((ai0.ext kG).box Ql ⟨by omega,by omega⟩ aep ot),(eK.tr (de.tr kG)).ab Ql (Nat.le_refl _),by omega,⟨_,by rw [Ql];exact Row.set aep _⟩,⟨_,((rb.ext de).ext kG).same (by rw [Ql,setRow_other _ _ _ _ (by omega)])⟩⟩
 ·simp only [decide_eq_true_eq,decide_eq_false_iff_not] at hm mN;rw [show N=k by omega]
 ·replace hm:=eX hm;rw [show N=k by omega]
 ·simp only [decide_eq_false_iff_not,gt_iff_lt] at hp;have:=vG (oM oc) k n M BN (by rw [<-Ge];omega);rwa [Fq] at this
end
end Go.Proofs.YtalpkjfpmdpbiaaGreatDoor
