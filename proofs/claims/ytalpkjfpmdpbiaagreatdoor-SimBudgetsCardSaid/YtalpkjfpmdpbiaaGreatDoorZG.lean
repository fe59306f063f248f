import Derived.Test.YtalpkjfpmdpbiaaGreatDoorYQ
import Derived.Test.YtalpkjfpmdpbiaaGreatDoorYR
import Derived.Test.YtalpkjfpmdpbiaaGreatDoorGX
import Derived.Test.YtalpkjfpmdpbiaaGreatDoorP
import Derived.Test.YtalpkjfpmdpbiaaGreatDoorQB
set_option linter.all false
namespace Go.Proofs.YtalpkjfpmdpbiaaGreatDoor
open Go Go.Vc Go.RowKit Go.Proofs Go.dQ Go.bf Go.Code Go.ks Go.jd
set_option maxRecDepth 100000
def gAt(z:List Int)(els:Int)(c:Ce):Int:=
 if c.2.1<0 then 1 else if c.1>=0/\c.1<6/\c.2.1<6/\c.2.2>=0/\c.2.2<6 then (z[((c.2.1*6+c.2.2)*6+c.1).toNat]?).getD 0 else els
abbrev gRd(w:World)(s:Sl)(z:List Int):Prop:=RdK w s 1 (z.map λn=> [.int .i64 n])
def R5(s:Sl)(z:List Int)(els:Int)(c:Ce)(w:World)(hs:gRd w s z):
  ah 235 #[.agg #[s,els],iS c] w λe w'=>e=Value.int .i64 (gAt z els c)/\Ext w w':=by
 apply (Q9.vc (aq:=s));have j6:=hs.n;rw [aB] at j6;intro w0 e0 w1 e1;have x1:Ext w w1:=(bq e0).ay e1;unfold gAt;apply Br.mk<;>intro h
 ·replace h:=fj h;rw [if_pos h];exact ⟨rfl,x1⟩
 replace h:=fh h;rw [if_neg h];refine Br.mk (λh1=>Br.mk (λh2=>Br.mk (λh3=>Br.mk (λh4=>Br.mk (λh5=> ?_) (λh5=> ?_)) (λh4=> ?_)) (λh3=> ?_)) (λh2=> ?_)) (λh1=> ?_)
 ·simp only [bB] at h1 h2 h3 h4 h5;rw [if_pos ⟨h1,h2,h3,h4,h5⟩];have q1:ai (c.2.1*6)=c.2.1*6:=wI;have q2:ai (c.2.1*6+c.2.2)=c.2.1*6+c.2.2:=wI;have q3:ai ((c.2.1*6+c.2.2)*6)=(c.2.1*6+c.2.2)*6:=wI;have q4:ai ((c.2.1*6+c.2.2)*6+c.1)=(c.2.1*6+c.2.2)*6+c.1:=wI;rw [q1,q2,q3,q4];have h0:0<=(c.2.1*6+c.2.2)*6+c.1:=by omega
  generalize (c.2.1*6+c.2.2)*6+c.1=i at h0 ⊢;apply Br.mk<;>intro h6
  ·replace h6:=fj h6;obtain ⟨y,hy⟩:=bh (l:=z) (i:=i.toNat) aa;rw [hy];have hr:=hs.ext x1;have hm:(z.map λn=> [Value.int .i64 n])[i.toNat]? =some [.int .i64 y]:=by rw [aX,hy];rfl
   have:=hr.at hm (j:=0) rfl;rw [bZ] at this;exact ⟨hr.fN aE h0 h6,y,this,rfl,x1⟩
  ·replace h6:=fh h6;rw [il aa];exact ⟨rfl,x1⟩
 all_goals
  rw [if_neg]
  ·exact ⟨rfl,x1⟩
  ·rintro ⟨g1,g2,g3,g4,g5⟩
   simp_all
abbrev tG:TypeId:=214
abbrev gV(sg:Sl):Value:=.agg #[sg,(-1:Int)]
abbrev U1(z:List Int):Ce->Int:=gAt z (-1)
def ng(b:Int)(w:World):ah 101 #[b] w λe w'=>e=Value.bool (fp b)/\w'=w:=by
 apply CS.vc;unfold fp;refine Br.mk (λh=>⟨?_,rfl⟩) (λh=>⟨?_,rfl⟩)
 ·have h1:=kB h;rw [decide_eq_true h1,qO];congr 2
  first|rfl|(rw [decide_eq_decide];omega)
 ·have h1:=kB h;rw [decide_eq_false h1,Mn]
def Em(b:Int)(w:World):ah 199 #[b] w λe w'=>e=Value.bool (qv b)/\w'=w:=by
 apply Ef.vc;unfold qv;refine Br.mk (λh=>⟨?_,rfl⟩) (λh=>(ng b w).mono ?_)
 ·have h:=kB h;subst h;rfl
 ·rintro e w' ⟨rfl,rfl⟩;have h:=kB h;rw [decide_eq_false h,Bool.false_or];exact ⟨_,rfl,rfl,rfl⟩
section
variable {w w':World} {sg:Sl} {z:List Int}
def lI(hs:gRd w sg z)(d:Ce):ah 198 #[gV sg,.slice none 0 0,iS d] w λe w'=>e=Value.int .i64 (U1 z d)/\Ext w w':=by
 apply (RQ.vc (aq:=sg) (a1:=⟨none,0,0⟩));intro w0 e0 w1 e1;have x1:Ext w w1:=(bq e0).ay e1;have z0:=du e0;have z1:w1.heap.size=w.heap.size+2:=by rw [e1];simp [z0]
 refine ⟨λ_ x wr=>wr=w1/\x= -1,⟨0,rfl,rfl,rfl,by decide⟩,?_⟩;rintro n us x wr ⟨rfl,rfl⟩;refine Br.mk (λh=>by simp at h) (λ_=>(R5 sg z (-1) d _ (hs.ext x1)).mono ?_);rintro e bR ⟨rfl,bT⟩;exact ⟨_,rfl,bT.heap aa,bT.heap aa,rfl,x1.tr bT⟩
def qV(c:Ce)(hc:dB c)(w:World):ah 201 #[iS c] w λe w'=>∃s:Sl,e=s/\ak w iE 3 w' s ((aQ c).map ef)/\Ext w w':=by
 apply Hf.vc;intro w0 e0;have x0:Ext w w0.drew:=(bq e0).tr (Ext.dr w0);have z0:w0.drew.heap.size=w.heap.size+1:=by show w0.heap.size=_;rw [e0];simp
 have r0:Row w0.drew w (ef c) iE:=(by rw [e0];exact Row.new w [_,_,_] _:Row w0 w _ iE).ext (Ext.dr w0);refine (iI c (c.1-1,c.2.1,c.2.2) (-1) 0 0 (jJ aa aa aa) hc aE w0.drew).mono ?_;rintro e w1 ⟨rfl,x1⟩;have z1:=x1.size;have r1:=Lo.wv (r0.ext x1);refine ⟨_,_,_,rfl,x1.heap aa,r1,r1,r1,(iI c (c.1+1,c.2.1,c.2.2) 1 0 0 (jJ aa aa aa) hc aE w1).mono ?_⟩;rintro e w5 ⟨rfl,x5⟩;have y5:=x1.tr x5;have z5:=y5.size;have r5:=Lo.wv (r0.ext y5);refine ⟨_,_,_,rfl,x5.heap aa,r5,r5,(iI c (c.1,c.2.1,c.2.2-1) 0 0 (-1) (jJ aa aa aa) hc aE w5).mono ?_⟩;rintro e w9 ⟨rfl,x9⟩;have y9:=y5.tr x9;have z9:=y9.size;have r9:=Lo.wv (r0.ext y9);refine ⟨_,_,_,rfl,x9.heap aa,r9,(iI c (c.1,c.2.1,c.2.2+1) 0 0 1 (jJ aa aa aa) hc aE w9).mono ?_⟩;rintro e cA ⟨rfl,cD⟩;have W8:=y9.tr cD;have z13:=W8.size;refine ⟨_,_,_,rfl,cD.heap aa,λcC pX=> ?_⟩;have hr:Row cC cA (((aQ c).map ef).flatten) iE:=Row.nw pX;refine ⟨⟨bu cA.heap.size,4,4⟩,rfl,ak.gg aa hr (by simp [aQ]) (ax _) rfl (by intro r hr;obtain ⟨y,-,rfl⟩:=aR.1 hr;rfl),(x0.tr W8).ay pX⟩
def BP(hs:gRd w sg z)(c:Ce)(hc:dB c):ah 200 #[gV sg,.slice none 0 0,iS c] w λe w'=>e=Value.int .i64 (dC (U1 z) c)/\Ext w w':=by
 apply (Hg.vc (aq:=sg) (a1:=⟨none,0,0⟩));intro w0 e0 w1 e1;have x1:Ext w w1:=(bq e0).ay e1;have z0:=du e0;have z1:w1.heap.size=w.heap.size+2:=by rw [e1];simp [z0]
 have r0:Row w1 w [sg,(-1:Int)] tG:=(by rw [e0];exact Row.new w [_,_] _:Row w0 w _ tG).ext (bq e1);have zd:=lW w1;have xd:=x1.tr (Ext.dr w1);refine (iI c (ir c) 0 1 0 (by unfold ir;exact jJ aa aa aa) hc aE w1.drew).mono ?_;rintro e w2 ⟨rfl,x2⟩;have z2:=x2.size;have y2:=xd.tr x2;refine ⟨_,_,_,rfl,x2.heap aa,x2.heap aa,Lo.wv (r0.ext ((Ext.dr w1).tr x2)),(lI (hs.ext y2) (ir c)).mono ?_⟩;rintro e w6 ⟨rfl,x6⟩;have z6:=x6.size;have y6:=y2.tr x6;refine ⟨_,rfl,x6.heap aa,x6.heap aa,(ng (U1 z (ir c)) w6).mono ?_⟩;rintro e w8 ⟨rfl,rfl⟩;unfold dC;refine ⟨_,rfl,rfl,rfl,Br.mk (λhw=> ?_) (λhw=> ?_)⟩
 ·rw [if_pos hw];exact ⟨rfl,y6⟩
 rw [if_neg (by rw [hw];simp)];refine (qV c hc w8).mono ?_;rintro e bL ⟨eJ,rfl,ho,br⟩;have z10:=br.size;have Ug:=y6.tr br;have eZ:=ho.rd (show 0<3 by decide);have ao9:eJ.n=4:=eZ.n;refine ⟨eJ,rfl,br.heap aa,br.heap aa,λn x m wr=>∃j:Nat,x=j/\j+n=4/\m=((aQ c).take j).foldl (λm n=>if fp (U1 z n) then min m (U1 z n-8+1) else m) 8/\Ext bL wr,⟨4,rfl,rfl,0,rfl,rfl,rfl,Ext.ck _⟩,?_⟩;rintro n us x m wr ⟨j,rfl,hj,hm,xr⟩;have zr:=xr.size;apply Br.mk<;>intro hb
 ·replace hb:=fj hb;obtain ⟨y,hy⟩:=bh (l:=aQ c) (i:=j) (by have:(aQ c).length=4:=rfl;omega);have hy':((aQ c).map ef)[j]? =some (ef y):=by rw [aX,hy];rfl
  have kJ:(aQ c).take (j+1)=(aQ c).take j++ [y]:=by rw [cu,hy];rfl
  have wk:=lD (j:=j);have xrd:=xr.tr (Ext.dr wr);have zrd:=lW wr;refine ⟨eZ.fN (i:=(j:Int)) aE aa aa,_,_,_,(eZ.ext xrd).bk hy',(lI (hs.ext (Ug.tr xrd)) y).mono ?_⟩;rintro e cx ⟨rfl,eY⟩;have z22:=eY.size;refine ⟨_,rfl,eY.heap aa,eY.heap aa,(ng (U1 z y) cx).mono ?_⟩;rintro e fu ⟨rfl,rfl⟩;refine ⟨_,rfl,rfl,rfl,Br.mk (λhq=> ?_) (λhq=> ?_)⟩
  ·have hl:=zb hq;have w1:ai (U1 z y-8)=U1 z y-8:=wI;have w2:ai (U1 z y-8+1)=U1 z y-8+1:=wI;refine ⟨n-1,by omega,rfl,rfl,j+1,wk,by omega,?_,xrd.tr eY⟩;rw [kJ,iY,<-hm];simp only [jI,List.foldl_nil];rw [if_pos hq,w1,w2];split<;>omega
  ·refine ⟨n-1,by omega,rfl,rfl,j+1,wk,by omega,?_,xrd.tr eY⟩;rw [kJ,iY,<-hm];simp only [jI,List.foldl_nil];rw [if_neg (by rw [hq];simp)]
 ·replace hb:=fh hb;have h4:(aQ c).take j=aQ c:=dn (by have:(aQ c).length=4:=rfl;omega);rw [h4] at hm;rw [hm];exact ⟨rfl,Ug.tr xr⟩
end
end Go.Proofs.YtalpkjfpmdpbiaaGreatDoor
namespace Go.Proofs.YtalpkjfpmdpbiaaGreatDoor
open Go Go.Vc Go.RowKit Go.Proofs Go.dQ Go.bf Go.Code Go.ks Go.jd
set_option maxRecDepth 100000
section
variable {w w':World} {sg:Sl} {z:List Int}
def Eo(hs:gRd w sg z)(c:Ce)(hc:dB c):
  ah 155 #[gV sg,.slice none 0 0,iS c] w λe w'=>∃s:Sl,e=s/\ak w eT 4 w' s ((iU (U1 z) c).map fq)/\Ext w w':=by
 apply (KE.vc (aq:=sg) (a1:=⟨none,0,0⟩));intro w0 e0 w1 e1;have x1:Ext w w1:=(bq e0).ay e1;have z0:=du e0;have z1:w1.heap.size=w.heap.size+2:=by rw [e1];simp [z0]
 refine (lI (hs.ext x1) c).mono ?_;rintro e w2 ⟨rfl,x2⟩;have z2:=x2.size;have y2:=x1.tr x2;refine ⟨_,rfl,x2.heap aa,x2.heap aa,(iI c (bz c) 0 (-1) 0 (by unfold bz;exact jJ aa aa aa) hc aE w2).mono ?_⟩;rintro e w4 ⟨rfl,x4⟩;have z4:=x4.size;have y4:=y2.tr x4;refine ⟨_,_,_,rfl,x4.heap aa,x4.heap aa,λw8 e8 w9 e9=> ?_⟩;have x9:Ext w4 w9:=(bq e8).ab e9 (ax _);have z9:=kC e8 e9;have y9:=y4.tr x9;refine (lI (hs.ext y9) (bz c)).mono ?_;rintro e bL ⟨rfl,br⟩;have z10:=br.size;have Ug:=y9.tr br;refine ⟨_,rfl,br.heap aa,br.heap aa,br.heap aa,?_⟩;unfold iU;apply Br.mk<;>intro h3
 ·have h3:U1 z c=3:=by simpa using h3
  rw [if_pos h3];refine (Em (U1 z (bz c)) bL).mono ?_;rintro e bR ⟨rfl,rfl⟩;refine ⟨_,rfl,rfl,rfl,rfl,?_⟩;unfold pr;refine Br.mk (λhq cm nu=> ?_) (λhq=> ?_)
  ·rw [if_pos hq];have hr:Row cm bR (([(c,U1 z (bz c)),(bz c,(3:Int))].map fq).flatten) eT:=Row.nw nu;exact ⟨⟨some ⟨bR.heap.size,0,none⟩,2,2⟩,rfl,ak.gg aa hr cy (ax _) rfl (by intro r hr;obtain ⟨y,-,rfl⟩:=aR.1 hr;rfl),Ug.ay nu⟩
  ·rw [if_neg (by rw [hq];simp)];exact ⟨⟨none,0,0⟩,rfl,ak.nil,Ug⟩
 have h3:¬U1 z c=3:=by simpa using h3
 rw [if_neg h3];refine (ng (U1 z c) bL).mono ?_;rintro e cS ⟨rfl,rfl⟩;refine ⟨_,rfl,rfl,rfl,rfl,Br.mk (λhq=> ?_) (λhq=> ?_)⟩
 ·have hq:fp (U1 z c)=false:=by simpa using hq
  rw [if_pos hq];exact ⟨⟨none,0,0⟩,rfl,ak.nil,Ug⟩
 have hq:fp (U1 z c)=true:=by simpa using hq
 rw [if_neg (by rw [hq];simp)];obtain ⟨-,l1,l2⟩:=zb hq;have wl:ai (U1 z c-8)=U1 z c-8:=wI;rw [wl];refine (BP (hs.ext Ug) c hc).mono ?_;rintro e cC ⟨rfl,cP⟩;have z17:=cP.size;have Vd:=Ug.tr cP;have f1:=zc (U1 z) c;have one:∀(x:Go.jd.Cg) {v v':World},Ext w v->v'=v.alloc (.cells #[.int .i64 x.1.1,.int .i64 x.1.2.1,.int .i64 x.1.2.2,.int .i64 x.2] eT)->∃s:Sl,Ending.returned (.slice (some ⟨v.heap.size,0,none⟩) 1 1)=s/\ak w eT 4 v' s ([x].map fq)/\Ext w v':=λx v v' hv e=>by have hr:Row v' v.heap.size (([x].map fq).flatten) eT:=Row.nw e;exact ⟨⟨some ⟨v.heap.size,0,none⟩,1,1⟩,rfl,ak.gg hv.size hr cy (ax _) rfl (by intro r hr;obtain ⟨y,-,rfl⟩:=aR.1 hr;rfl),hv.ay e⟩
 refine ⟨_,rfl,cP.heap aa,cP.heap aa,cP.heap aa,λwj=>wj=cC/\¬(0<U1 z c-8/\7<dC (U1 z) c),?_,?_⟩
 ·refine Br.mk (λh1=>Br.mk (λh2 eC Bs=> ?_) (λh2=>⟨rfl,rfl,rfl,rfl,?_⟩)) (λh1=>⟨rfl,rfl,rfl,rfl,?_⟩)
  ·rw [if_pos ⟨by simpa using h1,by simpa using h2⟩];exact one (c,0) Vd Bs
  ·intro q;simp at h2;omega
  ·intro q;simp at h1;omega
 rintro us cx ⟨rfl,ha⟩;rw [if_neg ha];refine ⟨λwj=>wj=cx/\¬(0<U1 z c-8/\dC (U1 z) c≠U1 z c-8),?_,?_⟩
 ·refine Br.mk (λh1=>Br.mk (λh2 fu Qj=> ?_) (λh2=>⟨rfl,rfl,rfl,rfl,?_⟩)) (λh1=>⟨rfl,rfl,rfl,rfl,?_⟩)
  ·have wf:ai (8+dC (U1 z) c)=8+dC (U1 z) c:=wI;rw [wf] at Qj;rw [if_pos ⟨by simpa using h1,by simpa using h2⟩];exact one (c,8+dC (U1 z) c) Vd Qj
  ·intro q;simp at h2;omega
  ·intro q;simp at h1;omega
 rintro us g7 ⟨rfl,hb⟩;rw [if_neg hb];refine Br.mk (λh4 jb yf=> ?_) (λh4=>(ng (U1 z (bz c)) g7).mono ?_)
 ·have h4:U1 z (bz c)=0:=by simpa using h4
  rw [if_pos h4];exact one (bz c,9) Vd yf
 rintro e eI ⟨rfl,rfl⟩;have h4:¬U1 z (bz c)=0:=by simpa using h4
 rw [if_neg h4];refine ⟨_,rfl,rfl,rfl,rfl,Br.mk (λh5=> ?_) (λh5=>Br.mk (λh6=> ?_) (λh6=> ?_))⟩
 ·rw [if_pos (.inl h5)];exact ⟨⟨none,0,0⟩,rfl,ak.nil,Vd⟩
 ·rw [if_pos (.inr (by simpa using h6))];exact ⟨⟨none,0,0⟩,rfl,ak.nil,Vd⟩
 have h6:¬U1 z c-8=7:=by simpa using h6
 rw [if_neg (by rintro (q|q);· rw [q] at h5;cases h5
                ·exact h6 q)]
 refine (qV c hc eI).mono ?_;rintro e g8 ⟨g9,rfl,LU,oL⟩;have z30:=oL.size;have y30:=Vd.tr oL;have eZ:=LU.rd (show 0<3 by decide);have aqw:g9.n=4:=eZ.n;have w9:ai (9+(U1 z c-8))=9+(U1 z c-8):=wI;rw [w9];refine ⟨g9,rfl,oL.heap aa,oL.heap aa,oL.heap aa,λn x o4 wr=>∃j:Nat,x=j/\j+n=4/\ak g8 eT 4 wr o4 (((((aQ c).take j).filter λn=>decide (U1 z n=0)).map λn=>((n,9+(U1 z c-8)):Go.jd.Cg)).map fq)/\Below g8 g8 wr,⟨4,rfl,rfl,rfl,0,rfl,rfl,ak.nil,Below.refl _ _⟩,?_⟩;rintro n us x o4 wr ⟨j,rfl,hj,ho,xr⟩;have xr:Ext g8 wr:=xr;have zr:=xr.size;have yr:Ext w wr:=y30.tr xr;apply Br.mk<;>intro fi
 ·replace fi:=fj fi;obtain ⟨y,hy⟩:=bh (l:=aQ c) (i:=j) (by have:(aQ c).length=4:=rfl;omega);have hy':((aQ c).map ef)[j]? =some (ef y):=by rw [aX,hy];rfl
  have kJ:(aQ c).take (j+1)=(aQ c).take j++ [y]:=by rw [cu,hy];rfl
  have wk:=lD (j:=j);have II:o4.n<=4:=by have h1:=(ho.rd (show 0<4 by decide)).n;rw [aB,aB] at h1;have h2:=List.length_filter_le (λn=>decide (U1 z n=0)) ((aQ c).take j);rw [bG] at h2;omega
  have xrd:=xr.tr (Ext.dr wr);have zrd:=lW wr;have cV:=eZ.fN (i:=(j:Int)) aE aa aa;refine ⟨cV,_,_,_,(eZ.ext xrd).bk hy',(lI (hs.ext (y30.tr xrd)) y).mono ?_⟩;rintro e np ⟨rfl,lU⟩;have z42:=lU.size;have abn:=xrd.tr lU;refine ⟨_,rfl,lU.heap aa,lU.heap aa,lU.heap aa,Br.mk (λh7=> ?_) (λh7=> ?_)⟩
  ·have h7:U1 z y=0:=by simpa using h7
   refine ⟨cV,_,_,_,(eZ.ext abn).bk hy',λoO e47=> ?_⟩;have ma:=bq e47;have z47:=du e47;have akk:=((ho.ext (Ext.dr wr)).ext lU).ext ma;obtain ⟨hp,aS⟩:=akk.append (bytes:=32) (news:=fq (y,9+(U1 z c-8))) aa rfl (Ma _) aa aa;refine ⟨hp,λFA Bq akl=> ?_⟩;obtain ⟨d1,d2,d3,d4,-⟩:=aS FA Bq akl;refine ⟨d3.block _ aa,d3.block _ aa,d3.block _ aa,d4 _ (λvE=>by have:=(ho.own.lt vE).2;omega) aa,n-1,by omega,rfl,rfl,rfl,j+1,wk,by omega,?_,Below.trans (abn.tr ma) d3⟩;rw [kJ,sP,aT,aT,List.filter_cons,if_pos (by simpa using h7)];exact d1
  ·have h7:¬U1 z y=0:=by simpa using h7
   refine ⟨n-1,by omega,rfl,rfl,rfl,j+1,wk,by omega,?_,abn⟩;rw [kJ,sP,aT,aT,List.filter_cons,if_neg (by simpa using h7)];simpa using (ho.ext (Ext.dr wr)).ext lU
 ·replace fi:=fh fi;have h4':(aQ c).take j=aQ c:=dn (by have:(aQ c).length=4:=rfl;omega);rw [h4'] at ho;exact ⟨o4,rfl,ho.low y30.size,yr⟩
def HA{so:Sl}{oc:List Ce}(h:RdK w so 3 (oc.map ef))(hl:oc.length<=1000)(y:Ce):ah 156 #[so,iS y] w λe w'=>e=Value.bool (decide (y ∈ oc))/\Ext w w':=by
 apply (Hh.vc (a0:=so));have hn:=h.n;rw [aB] at hn;intro w0 e0;have x0:=bq e0;have z0:=du e0;refine ⟨λn x wr=>∃j:Nat,x=j/\j+n=oc.length/\y ∉ oc.take j/\Ext w0 wr,⟨oc.length,rfl,0,rfl,by omega,by simp,Ext.ck _⟩,?_⟩;rintro n us x wr ⟨j,rfl,hj,my,xr⟩;apply Br.mk<;>intro hb
 ·replace hb:=fj hb;obtain ⟨c,hc⟩:=bh (l:=oc) (i:=j) aa;have hc':(oc.map ef)[j]? =some (ef c):=by rw [aX,hc];rfl
  have kJ:oc.take (j+1)=oc.take j++ [c]:=by rw [cu,hc];rfl
  have wk:=lD (j:=j);have xd:=x0.tr (xr.tr (Ext.dr wr));refine ⟨h.fN (i:=(j:Int)) aE aa hb,_,_,_,(h.ext xd).bk hc',Br.mk (λhq=> ?_) (λhq=> ?_)⟩
  ·simp only [gy,beq_iff_eq] at hq;have:c=y:=Prod.ext hq.1 (Prod.ext hq.2.1 hq.2.2);subst this;rw [decide_eq_true (bc hc)];exact ⟨rfl,xd⟩
  ·refine ⟨n-1,by omega,rfl,j+1,wk,by omega,?_,xr.tr (Ext.dr wr)⟩;rw [kJ];intro q;rcases ct.1 q with q|q
   ·exact my q
   ·rw [fH.1 q] at hq;simp at hq
 ·replace hb:=fh hb;rw [dn aa] at my;rw [decide_eq_false my];exact ⟨rfl,x0.tr xr⟩
end
def R7(V:Ce->Int)(c:Ce)(i:Nat):Int:=if i % 6<3/\i / 36<3/\i / 6 % 6<3 then V (c.1+((i % 6:Nat):Int)-1,c.2.1+((i / 36:Nat):Int)-1,c.2.2+((i / 6 % 6:Nat):Int)-1) else -1
def VO(V:Ce->Int)(c:Ce):List Int:=(List.range 216).map (R7 V c)
def Sa(V:Ce->Int)(c:Ce):Small V (U1 (VO V c)) c:=by
 intro d h1 h2 h3;obtain ⟨a,b,e⟩:=d;simp only at h1 h2 h3;unfold U1 gAt;simp only;rw [if_neg aa,if_pos aa];obtain ⟨a,rfl⟩:=Int.eq_ofNat_of_zero_le h1.1;obtain ⟨b,rfl⟩:=Int.eq_ofNat_of_zero_le h2.1;obtain ⟨e,rfl⟩:=Int.eq_ofNat_of_zero_le h3.1;have ha:a<3:=by omega
 have hb:b<3:=by omega
 have he:e<3:=by omega
 have hi:(((b:Int)*6+e)*6+a).toNat=(b*6+e)*6+a:=by omega
 rw [hi];unfold VO;rw [aX,FP aa];simp only [mh,Option.getD_some];unfold R7 nt;have q1:((b*6+e)*6+a) % 6=a:=by omega
 have q2:((b*6+e)*6+a) / 36=b:=by omega
 have q3:((b*6+e)*6+a) / 6 % 6=e:=by omega
 rw [q1,q2,q3,if_pos ⟨ha,hb,he⟩];congr 1;simp only [Prod.mk.injEq];omega
end Go.Proofs.YtalpkjfpmdpbiaaGreatDoor
namespace Go.Proofs.YtalpkjfpmdpbiaaGreatDoor
open Go Go.Vc Go.RowKit Go.Proofs Go.dQ Go.bf Go.Code Go.ks Go.jd
set_option maxRecDepth 100000
def R6(V:Ce->Int)(c:Ce)(i:Nat):(List.range (i+1)).map (R7 V c)=(List.range i).map (R7 V c)++ [R7 V c i]:=by rw [ac1,aT];rfl
section
variable {P:Nat->Prop} {w w':World} {s1 s2 s3 s4 sq so sd:Sl} {T:Tb} {ag cap bud now:Int}
def BQ(h:RT P w T s1 s2 s3)(ho:qS T)(q:QS)(c:Ce)(hc:nS c):
  ah 154 #[.agg (XF ag cap T.1 s1 s2 s3 s4 q sq bud now so sd).toArray,iS c] w λe w'=>∃sg:Sl,e=Value.tuple #[gV sg,.agg #[.int .i64 (c.1-1),.int .i64 (c.2.1-1),.int .i64 (c.2.2-1)]]/\ak w qC 1 w' sg ((VO (ey T.2) c).map λb=> [.int .i64 b])/\Ext w w':=by
 apply (Hi.vc (aK:=s1) (aL:=s2) (aH:=s3) (bM:=s4) (cz:=sq) (bX:=so) (bY:=sd));intro w0 e0 w1 e1 w2 e2 w3 e3 w4 e4 w5 e5;have r0:Row w1 w0 (ef c) iE:=Row.nw e1;have x1:Ext w w1:=(bq e0).ay e1;have x5:Ext w1 w5:=(((bq e2).ay e3).ay e4).ab e5 (by rw [e3,e2];simp;omega);have z0:=du e0;have z1:w1.heap.size=w.heap.size+2:=by rw [e1];simp [z0]
 have z2:w2.heap.size=w.heap.size+3:=by rw [e2];simp [z1]
 have z3:w3.heap.size=w.heap.size+4:=by rw [e3];simp [z2]
 have z5:w5.heap.size=w.heap.size+5:=by rw [e5,e4];simp [z3]
 have x05:=x1.tr x5;obtain ⟨⟨c1,c2⟩,⟨c3,c4⟩,c5,c6⟩:=id hc;have q1:ai (c.1-1)=c.1-1:=wI;have q2:ai (c.2.1-1)=c.2.1-1:=wI;have q3:ai (c.2.2-1)=c.2.2-1:=wI;rw [q1,q2,q3];have wk:∀k:Nat,k<10->ai ((k:Int)+1)=((k+1:Nat):Int):=λk hk=>by rw [wI];omega
 refine ⟨λn y s els wr=>∃iy:Nat,y=iy/\iy+n=6/\els= -1/\ak w5 qC 1 wr s (((List.range (iy*36)).map (R7 (ey T.2) c)).map λb=> [.int .i64 b])/\Row wr w0 (ef c) iE/\Ext w wr/\w5.heap.size<=wr,⟨6,rfl,rfl,rfl,rfl,0,rfl,rfl,rfl,ak.nil,r0.ext x5,x05,ax _⟩,?_⟩;rintro n us y s els wr ⟨iy,rfl,hy,rfl,ho0,rr,xr,zr⟩;apply Br.mk<;>intro hb
 ·replace hb:=fj hb;refine ⟨λn z s els wr=>∃iz:Nat,z=iz/\iz+n=6/\els= -1/\ak w5 qC 1 wr s (((List.range (iy*36+iz*6)).map (R7 (ey T.2) c)).map λb=> [.int .i64 b])/\Row wr w0 (ef c) iE/\Ext w wr/\w5.heap.size<=wr,⟨6,rfl,rfl,rfl,rfl,0,rfl,rfl,rfl,ho0,rr,xr,zr⟩,?_⟩;rintro n2 oX z s els wr ⟨iz,rfl,hz,rfl,ho1,rr,xr,zr⟩;apply Br.mk<;>intro fi
  ·replace fi:=fj fi;refine ⟨λn x s els wr=>∃ix:Nat,x=ix/\ix+n=6/\els= -1/\ak w5 qC 1 wr s (((List.range (iy*36+iz*6+ix)).map (R7 (ey T.2) c)).map λb=> [.int .i64 b])/\Row wr w0 (ef c) iE/\Ext w wr/\w5.heap.size<=wr,⟨6,rfl,rfl,rfl,rfl,0,rfl,rfl,rfl,ho1,rr,xr,zr⟩,?_⟩;rintro n3 Ww x s els wr ⟨ix,rfl,hx,rfl,Fy,rr,xr,zr⟩;apply Br.mk<;>intro Yg
   ·replace Yg:=fj Yg;have m1:(iy*36+iz*6+ix) % 6=ix:=by omega
    have m2:(iy*36+iz*6+ix) / 36=iy:=by omega
    have m3:(iy*36+iz*6+ix) / 6 % 6=iz:=by omega
    have sm:R7 (ey T.2) c (iy*36+iz*6+ix)=if ix<3/\iy<3/\iz<3 then ey T.2 (c.1+(ix:Int)-1,c.2.1+(iy:Int)-1,c.2.2+(iz:Int)-1) else -1:=by unfold R7;rw [m1,m2,m3]
    have hns:s.n=iy*36+iz*6+ix:=by have:=(Fy.rd (show 0<1 by decide)).n;rw [aB,aB,ac2] at this;exact this
    refine ⟨λb wj=>b=R7 (ey T.2) c (iy*36+iz*6+ix)/\Ext wr wj,?_,?_⟩
    ·refine Br.mk (λg1=>Br.mk (λg2=>Br.mk (λg3=> ?_) (λg3=>⟨rfl,rfl,rfl,rfl,rfl,?_,Ext.ck _⟩)) (λg2=>⟨rfl,rfl,rfl,rfl,rfl,?_,Ext.ck _⟩)) (λg1=>⟨rfl,rfl,rfl,rfl,rfl,?_,Ext.ck _⟩)
     ·simp only [bB] at g1 g2 g3;have p1:ai (c.1+(ix:Int))=c.1+ix:=wI;have p2:ai (c.1+(ix:Int)-1)=c.1+ix-1:=wI;have p3:ai (c.2.1+(iy:Int))=c.2.1+iy:=wI;have p4:ai (c.2.1+(iy:Int)-1)=c.2.1+iy-1:=wI;have p5:ai (c.2.2+(iz:Int))=c.2.2+iz:=wI;have p6:ai (c.2.2+(iz:Int)-1)=c.2.2+iz-1:=wI;rw [p1,p2,p3,p4,p5,p6];refine (nT (h.ext xr) ho q (c.1+(ix:Int)-1,c.2.1+(iy:Int)-1,c.2.2+(iz:Int)-1) (by unfold mA inI;simp only;omega)).mono ?_;rintro e ig ⟨rfl,iK⟩;refine ⟨_,rfl,iK.heap aa,iK.heap aa,iK.heap aa,iK.heap aa,iK.heap aa,rfl,rfl,rfl,rfl,rfl,?_,iK⟩;rw [sm,if_pos aa]
     ·rw [sm,if_neg (by simp only [bQ] at g3;omega)]
     ·rw [sm,if_neg (by simp only [bQ] at g2;omega)]
     ·rw [sm,if_neg (by simp only [bQ] at g1;omega)]
    rintro U3 b wj ⟨hbv,xj⟩ nv IH;have zj:=xj.size;have kx:=bq IH;have z36:=du IH;have Uh:=(Fy.ext xj).ext kx;obtain ⟨hp,aS⟩:=Uh.append (bytes:=8) (news:=[.int .i64 b]) aa rfl (by intro v hv;simp at hv;subst hv;rfl) aa aa;refine ⟨hp,λE2 qx ajb=> ?_⟩;obtain ⟨d1,d2,d3,d4,-⟩:=aS E2 qx ajb;have z38:=d3.size;refine ⟨d3.block _ aa,d3.block _ aa,d3.block _ aa,d3.block _ aa,d3.block _ aa,d4 _ (λvE=>by have:=(Fy.own.lt vE).2;omega) aa,λiP e39=> ?_⟩;have z39:=mL e39;have ja:Ext w qx:=Below.trans (xr.tr (xj.tr kx)) (Below.mono d3 aa);refine ⟨n3-1,by omega,rfl,rfl,rfl,rfl,ix+1,wk ix aa,by omega,rfl,?_,?_,ja.ab e39 aa,by omega⟩
    ·rw [<-Nat.add_assoc,R6,aT,<-hbv];exact ak.bP d1 λg hg=>by have:=(d1.own.lt hg).1;rw [e39,setRow_other _ _ _ _ aa]
    ·have r36:=(rr.ext xj).ext kx;exact (r36.same (d3.block _ aa)).same (by rw [e39,setRow_other _ _ _ _ aa])
   ·replace Yg:=fh Yg;have:ix=6:=by omega
    subst this;rw [show iy*36+iz*6+6=iy*36+(iz+1)*6 by omega] at Fy;exact ⟨n2-1,by omega,rfl,rfl,rfl,rfl,iz+1,wk iz aa,by omega,rfl,Fy,rr,xr,zr⟩
  ·replace fi:=fh fi;have:iz=6:=by omega
   subst this;rw [show iy*36+6*6=(iy+1)*36 by omega] at ho1;exact ⟨n-1,by omega,rfl,rfl,rfl,rfl,iy+1,wk iy aa,by omega,rfl,ho1,rr,xr,zr⟩
 ·replace hb:=fh hb;have:iy=6:=by omega
  subst this;have fin:∀iQ:World,iQ=wr.drew.setRow w1 #[.slice s.a s.n s.c,(-1:Int)]->Row iQ w0 (ef c) iE/\Ext w iQ/\ak w5 qC 1 iQ s ((VO (ey T.2) c).map λb=> [.int .i64 b])/\w5.heap.size<=iQ:=λiQ Dt=>by have xd:=xr.tr (Ext.dr wr);refine ⟨(rr.ext (Ext.dr wr)).same (by rw [Dt,setRow_other _ _ _ _ aa]),xd.ab Dt aa,ak.bP (ho0.ext (Ext.dr wr)) λg hg=>by have:=(ho0.own.lt hg).1;rw [Dt,setRow_other _ _ _ _ aa],by rw [Dt];simp;exact zr⟩
  have fin2:∀(iQ j7:World)(cs:Array Value),iQ=wr.drew.setRow w1 #[.slice s.a s.n s.c,(-1:Int)]->j7=iQ.setRow w2 cs->∃sg:Sl,Ending.returned (.tuple #[gV s,.agg #[.int .i64 (c.1-1),.int .i64 (c.2.1-1),.int .i64 (c.2.2-1)]])=Value.tuple #[gV sg,.agg #[.int .i64 (c.1-1),.int .i64 (c.2.1-1),.int .i64 (c.2.2-1)]]/\ak w qC 1 j7 sg ((VO (ey T.2) c).map λb=> [.int .i64 b])/\Ext w j7:=λiQ j7 cs Dt e41=>by obtain ⟨-,f2,f3,f4⟩:=fin iQ Dt;exact ⟨s,rfl,(ak.bP f3 λg hg=>by have:=(f3.own.lt hg).1;rw [e41,setRow_other _ _ _ _ aa]).low aa,f2.ab e41 aa⟩
  refine ⟨λiQ Dt=> ?_,λiQ Dt=> ?_⟩<;>
  ·obtain ⟨f1,-⟩:=fin iQ Dt;exact ⟨f1.at 2 rfl,f1.at 1 rfl,f1.at 0 rfl,λj7 e41=>fin2 iQ j7 _ Dt e41⟩
end
end Go.Proofs.YtalpkjfpmdpbiaaGreatDoor
namespace Go.Proofs.YtalpkjfpmdpbiaaGreatDoor
open Go Go.Vc Go.RowKit Go.Proofs Go.dQ Go.bf Go.Code Go.ks Go.jd
set_option maxRecDepth 100000
structure KP(P:Nat->Prop)(w:World)(s:Sl)(l:List Ce):Prop where
 r:RdK w s 3 (l.map ef)
 p:l≠ []->∀g,s.bg=some g->P g
section
variable {P P':Nat->Prop} {w w' v v':World} {s s1 s2 s3 s4 sq so sd:Sl} {l oc:List Ce} {M M':Sm}
def KP.ext(h:KP P w s l)(x:Ext w w'):KP P w' s l:=⟨h.r.ext x,h.p⟩
def KP.same(h:KP P w s l)(hk:∀i,P i->i<w.heap.size->w'.heap[i]? =w.heap[i]?/\P' i):KP P' w' s l:=by
 have hb:l.map ef≠ []->l≠ []:=λq e=>q (by rw [e];rfl)
 have hb':l≠ []->l.map ef≠ []:=λq e=>q (by simpa using e)
 exact ⟨RdK.Ae h.r λdI g hg=>(hk g (h.p (hb dI) g hg) (RdK.jT h.r aE dI hg)).1,λdI g hg=>(hk g (h.p dI g hg) (RdK.jT h.r aE (hb' dI) hg)).2⟩
def KP.nil:KP P w ⟨none,0,0⟩ []:=⟨⟨rfl,(λr hr=>by cases hr),λi r hi=>by simp at hi⟩,λh=>absurd rfl h⟩
def KP.own{B:Nat}(h:ak B iE 3 w s (l.map ef))(hP:∀i,B<=i->P i):KP P w s l:=⟨h.rd aE,λ_ g hg=>hP g (h.own.lt hg).1⟩
structure RM(P:Nat->Prop)(w:World)(M:Sm)(oc:List Ce)(s1 s2 s3 s4 sq so sd:Sl):Prop where
 s:RS P w M.T M.ch M.q s1 s2 s3 s4 sq
 o:KP P w so oc
 d:KP P w sd M.dR
abbrev xM(M:Sm)(s1 s2 s3 s4 sq so sd:Sl):LV:=XF M.ag M.cap M.T.1 s1 s2 s3 s4 M.q sq M.aO M.now so sd
def RM.ext(h:RM P w M oc s1 s2 s3 s4 sq so sd)(x:Ext w w'):RM P w' M oc s1 s2 s3 s4 sq so sd:=⟨⟨h.s.t.ext x,h.s.g.ext x,h.s.qo.ext x,h.s.ok⟩,h.o.ext x,h.d.ext x⟩
def RM.same(h:RM P w M oc s1 s2 s3 s4 sq so sd)(hk:∀i,P i->i<w.heap.size->w'.heap[i]? =w.heap[i]?/\P' i)(hq:∀g cs,Row w g cs Q.tX->w'.heap[g]? =w.heap[g]?):RM P' w' M oc s1 s2 s3 s4 sq so sd:=
 ⟨⟨h.s.t.same hk,h.s.g.same hk,ak.bP h.s.qo λg hg=>by obtain ⟨cs',hr'⟩:=aN h.s.qo aE hg;exact hq g cs' hr',h.s.ok⟩,h.o.same hk,h.d.same hk⟩
def RM.nN(h:RM P w M oc s1 s2 s3 s4 sq so sd)(x:Ext w v)(b:Nat):RM (Bx P w b) v M oc s1 s2 s3 s4 sq so sd:=h.same (λ_ hp hi=>⟨x.heap hi,hp,.inl hi⟩) λg cs hr=>x.heap hr.lt
def RM.box{a b g:Nat}{c:Array Value}{cs:LV}{τ:TypeId}(h:RM (Bx P a b) v M oc s1 s2 s3 s4 sq so sd)(e:v'=v.setRow g c)(hg:a<=g/\g<b)(hr:Row v g cs τ)(hτ:τ≠Q.tX):RM (Bx P a b) v' M oc s1 s2 s3 s4 sq so sd:=
 h.same (λi hp _=>⟨by rw [e,setRow_other _ _ _ _ (by have:=hp.2;omega)],hp⟩) λg' cs' hr'=>by rw [e,setRow_other _ _ _ _ (hr'.ne hr hτ.symm)]
def RM.out{a b:Nat}(h:RM (Bx P a b) v M oc s1 s2 s3 s4 sq so sd):RM P v M oc s1 s2 s3 s4 sq so sd:=h.same (λ_ hp _=>⟨rfl,hp.1⟩) λ_ _ _=>rfl
def RMs(P:Nat->Prop)(w:World)(M:Sm)(oc:List Ce)(v:Value)(w':World):Prop:=∃s1 s2 s3 s4 sq so sd:Sl,v=.agg (xM M s1 s2 s3 s4 sq so sd).toArray/\RM P w' M oc s1 s2 s3 s4 sq so sd/\Ext w w'
def RM.edit(h:RM P w M oc s1 s2 s3 s4 sq so sd)(hP:Fw P w)(ho:qS M.T)(hk:m8 M 800000)(c:Ce)(hc:dB c)(b:Int):
  ah 26 #[.agg (xM M s1 s2 s3 s4 sq so sd).toArray,iS c,b] w λe w'=>∃IJ E1 IK X5 sq':Sl,e=Value.tuple #[.agg (xM (gm M c b) IJ E1 IK X5 sq' so sd).toArray,.int .i64 (cj M.T.2 c b).2]/\RM P w' (gm M c b) oc IJ E1 IK X5 sq' so sd/\Ext w w':=by
 have hl:=hk.l;have hch:=hk.c;refine (ET (ag:=M.ag) (cap:=M.cap) (bud:=M.aO) (so:=so) (sd:=sd) h.s hP ho aa aa hk.now c hc b).mono ?_;rintro e w2 ⟨t1,t2,t3,t4,tq,rfl,hr,x⟩;exact ⟨t1,t2,t3,t4,tq,rfl,⟨hr,h.o.ext x,h.d.ext x⟩,x⟩
end
abbrev oM(oc:List Ce):Ce->Bool:=λy=>decide (y ∈ oc)
def HB(c:Ce)(L:List Go.jd.Cg):List Go.jd.Cg:=L.map λx=>(nt c x.1,x.2)
def UM(x:Go.jd.Cg):Prop:=(0<=x.1.1/\x.1.1<3)/\(0<=x.1.2.1/\x.1.2.1<3)/\0<=x.1.2.2/\x.1.2.2<3
def Sb(U:Ce->Int):∀x ∈ iU U eV,UM x:=by
 have s4:∀n ∈ aQ eV,∀b:Int,UM (n,b):=by intro n hn b;unfold aQ eV at hn;simp only [bI,fS,or_false] at hn;rcases hn with rfl|rfl|rfl|rfl<;>exact (by unfold UM;simp only;omega)
 have o1:∀b:Int,UM (eV,b):=λb=>by unfold UM eV;simp only;omega
 have l1:∀b:Int,UM (bz eV,b):=λb=>by unfold UM bz eV;simp only;omega
 intro x hx;unfold iU pr at hx;split at hx
 ·split at hx
  ·simp only [bI,fS,or_false] at hx;rcases hx with rfl|rfl
   ·exact o1 _
   ·exact l1 _
  ·cases hx
 ·split at hx
  ·cases hx
  ·split at hx
   ·rw [fH.1 hx];exact o1 _
   ·split at hx
    ·rw [fH.1 hx];exact o1 _
    ·split at hx
     ·rw [fH.1 hx];exact l1 _
     ·split at hx
      ·cases hx
      ·obtain ⟨n,hn,rfl⟩:=aR.1 hx;exact s4 n (jH.1 hn).1 _
def OF(U:Ce->Int):(iU U eV).length<=4:=by
 unfold iU pr;have hf:((aQ eV).filter λn=>decide (U n=0)).length<=4:=CF _ _;split
 ·split<;>simp
 ·split
  ·simp
  ·split
   ·simp
   ·split
    ·simp
    ·split
     ·simp
     ·split
      ·simp
      ·simpa using hf
def VR(oc:List Ce)(M:Sm)(c:Ce)(hr:lE M.T.2 c=true){U:Ce->Int}(hU:Small (ey M.T.2) U c):
  fU (oM oc) M c=if ey M.T.2 c=3/\0<(iU U eV).length/\bz c ∈ oc then (HB c [(eV,0)]).foldl bw {M with dR:=M.dR++ [bz c]} else (HB c (iU U eV)).foldl bw M:=by
 have h1:HB c (iU U eV)=jq (ey M.T.2) c:=(JH hU).trans (Y5 _ c);have h2:(jq (ey M.T.2) c).isEmpty=decide ((iU U eV).length=0):=by
  rw [<-h1];unfold HB
  cases iU U eV<;>simp
 have h3:pB (oM oc) M c=decide (ey M.T.2 c=3/\0<(iU U eV).length/\bz c ∈ oc):=by unfold pB;rw [h2];by_cases a:ey M.T.2 c=3<;>by_cases b:(iU U eV).length=0<;>by_cases d:bz c ∈ oc<;>simp [a,b,d]<;>omega
 unfold fU;rw [hr,if_neg cy,h3,h1];have h4:HB c [(eV,0)]=[(c,0)]:=by unfold HB;simp only [dE,List.map_nil,ze]
 rw [h4];by_cases q:ey M.T.2 c=3/\0<(iU U eV).length/\bz c ∈ oc
 ·rw [if_pos (by simpa using q),if_pos q];rfl
 ·rw [if_neg (by simpa using q),if_neg q]
end Go.Proofs.YtalpkjfpmdpbiaaGreatDoor
namespace Go.Proofs.YtalpkjfpmdpbiaaGreatDoor
open Go Go.Vc Go.RowKit Go.Proofs Go.dQ Go.bf Go.Code Go.ks Go.jd
set_option maxRecDepth 100000
def FM(P:Nat->Prop)(w:World)(oc:List Ce)(M:Sm)(a1 a2 a3 a4 a5:Int)(b1 b2 b3 b4:Sl)(c1 c2:Int)(c3:Sl)(c4 c5:Int)(c6 c7:Sl):Prop:=
 (a1=M.ag/\a2=M.cap/\a3=M.T.1.room/\a4=M.T.1.dt/\a5=M.T.1.wait/\c1=M.q.room/\c2=M.q.lost/\c4=M.aO/\c5=M.now)/\RM P w M oc b1 b2 b3 b4 c3 c6 c7
def FM.of{P:Nat->Prop}{w:World}{oc:List Ce}{M:Sm}{s1 s2 s3 s4 sq so sd:Sl}(h:RM P w M oc s1 s2 s3 s4 sq so sd):FM P w oc M M.ag M.cap M.T.1.room M.T.1.dt M.T.1.wait s1 s2 s3 s4 M.q.room M.q.lost sq M.aO M.now so sd:=⟨⟨rfl,rfl,rfl,rfl,rfl,rfl,rfl,rfl,rfl⟩,h⟩
def mo:∀(l:List Go.jd.Cg) {M:Sm},qS M.T->qS (l.foldl bw M).T
 | [],_,h=>h
 |x::l,M,h=>mo l (by
  unfold bw
  split
  ·exact h
  ·exact DZ h _ _)
def Ms(y:Ce):One (ef y):=by intro u hu;simp at hu;rcases hu with rfl|rfl|rfl<;>rfl
def VQ{c:Ce}(hc:nS c):Fm (pos c):=by unfold nS at hc;unfold Fm Go.dQ.pos;simp only;omega
def zK{P:Nat->Prop}{w:World}{M:Sm}{oc:List Ce}{s1 s2 s3 s4 sq so sd:Sl}(h:RM P w M oc s1 s2 s3 s4 sq so sd)(hP:Fw P w)(ho:qS M.T)(hk:m8 M 700000)(WO:oc.length<=1000)(c:Ce)(hc:nS c):
  ah 110 #[.agg (xM M s1 s2 s3 s4 sq so sd).toArray,iS c] w λe w'=>∃v,e=.returned v/\RMs P w (fU (oM oc) M c) oc v w':=by
 apply (Eg.vc (aK:=s1) (aL:=s2) (aH:=s3) (bM:=s4) (cz:=sq) (bX:=so) (bY:=sd))
 intro w0 e0 w1 e1 w2 e2
 have x2:Ext w w2:=((bq e0).ay e1).ay e2
 have z0:=du e0
 have z1:w1.heap.size=w.heap.size+2:=by rw [e1];simp [z0]
 have z2:w2.heap.size=w.heap.size+3:=by rw [e2];simp [z1]
 have Jm:∃cs,Row w2 w cs bU:=⟨_,((by rw [e0];exact Row.new w [_,_,_,_,_,_,_,_,_,_,_,_,_,_,_,_] _:Row w0 w (xM M s1 s2 s3 s4 sq so sd) bU).ext (bq e1)).ext (bq e2)⟩
 have IM:∃cs,Row w2 w1 cs bU:=⟨_,by rw [e2];exact Row.new w1 [_,_,_,_,_,_,_,_,_,_,_,_,_,_,_,_] _⟩
 obtain ⟨ca,Jm⟩:=Jm
 obtain ⟨cb,IM⟩:=IM
 have ot:bU≠Q.tX:=by decide
 have h2:=h.nN x2 w2
 have Qi:=hP.bx x2 (ax _)
 obtain ⟨⟨g1,g2⟩,⟨g3,g4⟩,g5,g6⟩:=id hc
 have TJ:=hk.now
 have hlost:=hk.l
 refine (Hz (s4:=s4) h2.s.t ho.l c hc.wide.ok (VQ hc)).mono ?_
 rintro e w3 ⟨rfl,x3⟩
 have zz3:=x3.size
 have h3:=h2.ext x3
 refine ⟨_,rfl,x3.heap aa,x3.heap aa,x3.heap aa,Br.mk (λhr=> ?_) (λhr=> ?_)⟩
 ·have hr:lE M.T.2 c=false:=by simpa using hr
  have wn:ai (M.now+1)=M.now+1:=wI
  rw [wn]
  refine (Q.vu h3.s.qo h.s.ok aa c (M.now+1)).mono ?_
  rintro e w5 ⟨⟨s',rfl,uB⟩,x5⟩
  have zz5:=x5.size
  refine ⟨_,_,s',_,rfl,x5.heap aa,x5.heap aa,x5.heap aa,λbL A4 cH B2 bR Bv cA ud=> ?_⟩
  have bV:Ext w5 cH:=(bq A4).ab B2 (ax _)
  have apz:=bV.size
  have h5:RM (Bx P w.heap.size w2) w5 {M with q:=(eX M.q c (M.now+1)).1} oc s1 s2 s3 s4 s' so sd:=⟨⟨h3.s.t.ext x5,h3.s.g.ext x5,uB,h.s.ok.add _ _⟩,h3.o.ext x5,h3.d.ext x5⟩
  have y11:=x3.tr (x5.tr bV)
  have ny:=(h5.ext bV).box Bv ⟨by omega,by omega⟩ (Jm.ext y11) ot
  have aju:Row bR w1 cb bU:=(IM.ext y11).same (by rw [Bv,setRow_other _ _ _ _ aa])
  have h13:=ny.box ud ⟨by omega,by omega⟩ aju ot
  have eu:fU (oM oc) M c={M with q:=(eX M.q c (M.now+1)).1}:=by unfold fU;rw [hr,if_pos rfl]
  rw [eu]
  exact ⟨_,rfl,s1,s2,s3,s4,s',so,sd,rfl,h13.out,((x2.tr y11).ab Bv (ax _)).ab ud aa⟩
 have hr:lE M.T.2 c=true:=by simpa using hr
 refine (BQ (ag:=M.ag) (cap:=M.cap) (s4:=s4) (sq:=sq) (bud:=M.aO) (now:=M.now) (so:=so) (sd:=sd) h3.s.t ho M.q c hc).mono ?_
 rintro e cm ⟨sg,rfl,hog,cl⟩
 have apB:=cl.size
 refine ⟨sg,_,_,_,_,rfl,cl.heap aa,cl.heap aa,cl.heap aa,λeC Bs ea uq cx A3 gi Jk=> ?_⟩
 have z20:=du Bs
 have de:Ext cm gi:=(((bq Bs).ay uq).ab A3 (ax _)).ab Jk aa
 have z23:gi.heap.size=cm.heap.size+2:=by rw [Jk,A3,uq];simp [z20]
 have hgr:gRd gi sg (VO (ey M.T.2) c):=(hog.rd aE).ext de
 refine (Eo hgr eV (by unfold dB eV;decide)).mono ?_
 rintro e fu ⟨mb,rfl,ur,di⟩
 have ail:=di.size
 refine ⟨mb,rfl,di.heap aa,di.heap aa,di.heap aa,di.heap aa,di.heap aa,λg7 IL jb yf=> ?_⟩
 have dc:Ext fu jb:=(bq IL).ab yf (ax _)
 have z27:=kC IL yf
 have wl:ai (c.2.1-1)=c.2.1-1:=wI
 rw [wl]
 have y27:=x3.tr (cl.tr (de.tr (di.tr dc)))
 have h27:=h2.ext y27
 refine (HA (y:=bz c) h27.o.r WO).mono ?_
 rintro e eI ⟨rfl,eM⟩
 have apE:=eM.size
 have y28:=y27.tr eM
 have h28:=h2.ext y28
 have aa8:=Jm.ext y28
 have aev:=IM.ext y28
 have ajv:=((ur.ext dc).ext eM).low (show w2.heap.size<=gi by omega)
 have hU:=Sa (ey M.T.2) c
 have eu:=VR oc M c hr hU
 have i3:=Sb (U1 (VO (ey M.T.2) c))
 have n4:=OF (U1 (VO (ey M.T.2) c))
 generalize hL:iU (U1 (VO (ey M.T.2) c)) eV=LN at*
 have aet:mb.n=LN.length:=by have:=(ur.rd (show 0<4 by decide)).n;rwa [aB] at this
 refine ⟨_,rfl,eM.heap aa,eM.heap aa,eM.heap aa,eM.heap aa,eM.heap aa,eM.heap aa,
  λsl a1 a2 a3 a4 a5 b1 b2 b3 b4 c1 c2 c3 c4 c5 c6 c7 wj=>∃(L:List Go.jd.Cg)(M':Sm),fU (oM oc) M c=(HB c L).foldl bw M'/\(∀x ∈ L,UM x)/\L.length<=4/\m8 M' 700001/\qS M'.T/\FM (Bx P w.heap.size w2) wj oc M' a1 a2 a3 a4 a5 b1 b2 b3 b4 c1 c2 c3 c4 c5 c6 c7/\ak w2 eT 4 wj sl (L.map fq)/\Ext w wj/\eI.heap.size<=wj/\(∃cs,Row wj w cs bU)/\∃cs,Row wj w1 cs bU,?_,?_⟩
 ·refine (nT (ag:=M.ag) (cap:=M.cap) (s4:=s4) (sq:=sq) (bud:=M.aO) (now:=M.now) (so:=so) (sd:=sd) h28.s.t ho M.q c hc.wide.ok).mono ?_
  rintro e ig ⟨rfl,iK⟩
  have aih:=iK.size
  have y31:=y28.tr iK
  have h31:=h2.ext y31
  have plain:¬(ey M.T.2 c=3/\0<LN.length/\bz c ∈ oc)->∃(L:List Go.jd.Cg)(M':Sm),fU (oM oc) M c=(HB c L).foldl bw M'/\(∀x ∈ L,UM x)/\L.length<=4/\m8 M' 700001/\qS M'.T/\FM (Bx P w.heap.size w2) ig oc M' M.ag M.cap M.T.1.room M.T.1.dt M.T.1.wait s1 s2 s3 s4 M.q.room M.q.lost sq M.aO M.now so sd/\ak w2 eT 4 ig mb (L.map fq)/\Ext w ig/\eI.heap.size<=ig/\(∃cs,Row ig w cs bU)/\∃cs,Row ig w1 cs bU:=λhn=>by
   rw [if_neg hn] at eu
   exact ⟨LN,M,eu,i3,n4,hk.mono aa,ho,FM.of h31,ajv.ext iK,x2.tr y31,by omega,⟨_,aa8.ext iK⟩,⟨_,aev.ext iK⟩⟩
  refine ⟨_,rfl,iK.heap aa,iK.heap aa,iK.heap aa,iK.heap aa,iK.heap aa,iK.heap aa,Br.mk (λd1=>Br.mk (λd2=>Br.mk (λd3 lz vS=> ?_) (λd3=>⟨rfl,rfl,rfl,rfl,rfl,?_⟩)) (λd2=>⟨rfl,rfl,rfl,rfl,rfl,?_⟩)) (λd1=>⟨rfl,rfl,rfl,rfl,rfl,?_⟩)⟩
  ·have d1:ey M.T.2 c=3:=by simpa using d1
   have d2:0<LN.length:=by simp only [bB] at d2;omega
   have d3:bz c ∈ oc:=by simpa using d3
   rw [if_pos ⟨d1,d2,d3⟩] at eu
   have gn:=bq vS
   have z33:=du vS
   have ajx:Row lz ig (([((eV,0):Go.jd.Cg)].map fq).flatten) eT:=Row.nw vS
   have PE:=hk.d
   have hdr:=(h31.ext gn).d.r
   have hdn:=hdr.n
   rw [aB] at hdn
   have h0:ak lz iE 3 lz ⟨none,0,0⟩ []:=ak.nil
   have ha:=h0.ke (bytes:=24) (more:=M.dR.map ef) (ax _) (λr hr=>by obtain ⟨y,-,rfl⟩:=aR.1 hr;rfl) (λr hr=>by obtain ⟨y,-,rfl⟩:=aR.1 hr;exact Ms _) (by simp only [aB];omega) (by simp only [aB];omega)
   rw [aB,<-hdn] at ha
   obtain ⟨hp,aS⟩:=ha
   refine ⟨(M.dR.map ef).flatten,RdK.flat hdr aE,hp,λMZ nv ajy=> ?_⟩
   obtain ⟨Uh,apG,kx,-,-⟩:=aS MZ nv ajy
   have kx:Ext lz nv:=kx
   have aij:=kx.size
   have apH:MZ.n=M.dR.length:=by have:=(ak.rd Uh aE).n;simpa using this
   refine ⟨kx.heap aa,kx.heap aa,kx.heap aa,kx.heap aa,kx.heap aa,kx.heap aa,kx.heap aa,λjj Pu=> ?_⟩
   have gd:=bq Pu
   have z37:=du Pu
   obtain ⟨Pv,hres8⟩:=(Uh.ext gd).append (bytes:=24) (news:=ef (bz c)) aa rfl (Ms _) aa aa
   refine ⟨Pv,λvO iP aba=> ?_⟩
   obtain ⟨f1,f2,f3,f4,-⟩:=hres8 vO iP aba
   have apI:=f3.size
   have kq:Ext ig iP:=Below.trans (gn.tr (kx.tr gd)) (Below.mono f3 aa)
   refine ⟨f3.block _ aa,f3.block _ aa,f3.block _ aa,f3.block _ aa,f3.block _ aa,f3.block _ aa,f3.block _ aa,f4 _ (λvE=>by have:=(Uh.own.lt vE).2;omega) aa,λiQ Dt=> ?_⟩
   have ajz:ak lz iE 3 iP vO ((M.dR++ [bz c]).map ef):=by rw [aT];simpa using f1
   have h39:RM (Bx P w.heap.size w2) iP {M with dR:=M.dR++ [bz c]} oc s1 s2 s3 s4 sq so vO:=⟨(h31.ext kq).s,(h31.ext kq).o,KP.own ajz λi hi=>Qi i aa⟩
   have h40:=h39.box Dt ⟨by omega,by omega⟩ ((aa8.ext iK).ext kq) ot
   have ajB:Row iQ ig (([((eV,0):Go.jd.Cg)].map fq).flatten) eT:=((ajx.ext (kx.tr gd)).same (f3.block _ aa)).same (by rw [Dt,setRow_other _ _ _ _ aa])
   have apK:=mL Dt
   refine ⟨rfl,rfl,rfl,rfl,rfl,[(eV,0)],{M with dR:=M.dR++ [bz c]},eu,λx hx=> ?_,by simp,⟨by have:=hk.l;simp only;omega,by have:=hk.c;simp only;omega,hk.now,by simp only [eK,List.length_singleton];omega⟩,ho,FM.of h40,?_,((x2.tr y31).tr kq).ab Dt (ax _),by omega,⟨_,by rw [Dt];exact Row.set ((aa8.ext iK).ext kq) _⟩,⟨_,((aev.ext iK).ext kq).same (by rw [Dt,setRow_other _ _ _ _ aa])⟩⟩
   ·rw [List.mem_singleton.1 hx];unfold UM eV;decide
   ·exact ak.gg aa ajB cy (ax _) rfl (by intro r hr;obtain ⟨y,-,rfl⟩:=aR.1 hr;rfl)
  ·exact plain λq=>by have:=q.2.2;simp [this] at d3
  ·exact plain λq=>by have:=q.2.1;simp only [bQ] at d2;omega
  ·exact plain λq=>by have:=q.1;simp [this] at d1
 rintro aiL sl a1 a2 a3 a4 a5 b1 b2 b3 b4 c1 c2 c3 c4 c5 c6 c7 WU ⟨L,M',eu,i3,n4,hk',ho',hF,xN,wQ,ajC,ra,rb⟩
 have hln:sl.n=L.length:=by have:=(xN.rd (show 0<4 by decide)).n;rwa [aB] at this
 rw [eu]
 refine ⟨λn i a1 a2 a3 a4 a5 b1 b2 b3 b4 c1 c2 c3 c4 c5 c6 c7 wj=>∃(j:Nat)(M2:Sm),i=j/\j+n=L.length/\M2=((HB c L).take j).foldl bw M'/\FM (Bx P w.heap.size w2) wj oc M2 a1 a2 a3 a4 a5 b1 b2 b3 b4 c1 c2 c3 c4 c5 c6 c7/\ak w2 eT 4 wj sl (L.map fq)/\Ext w wj/\eI.heap.size<=wj/\(∃cs,Row wj w cs bU)/\∃cs,Row wj w1 cs bU,⟨L.length,rfl,rfl,rfl,rfl,rfl,0,M',rfl,by omega,rfl,hF,xN,wQ,ajC,ra,rb⟩,?_⟩
 rintro n WR i a1 a2 a3 a4 a5 b1 b2 b3 b4 c1 c2 c3 c4 c5 c6 c7 rY ⟨j,M2,rfl,hj,FC,⟨⟨rfl,rfl,rfl,rfl,rfl,rfl,rfl,rfl,rfl⟩,hR⟩,xN,oQ,apL,ra,rb⟩
 obtain ⟨apM,ra⟩:=ra
 obtain ⟨apN,rb⟩:=rb
 have hok2:qS M2.T:=by rw [FC];exact mo _ ho'
 have hsk2:m8 M2 700100:=by
  rw [FC]
  exact (hk'.fold _).mono (by have:((HB c L).take j).length<=4:=by rw [bG];unfold HB;rw [aB];omega
                              omega)
 have wk:j<10->ai ((j:Int)+1)=((j+1:Nat):Int):=λhj=>by rw [wI];omega
 apply Br.mk<;>intro hb
 ·replace hb:=fj hb
  obtain ⟨y,hy⟩:=bh (l:=L) (i:=j) aa
  have hy':(L.map fq)[j]? =some (fq y):=by rw [aX,hy];rfl
  have kJ:(HB c L).take (j+1)=(HB c L).take j++ [(nt c y.1,y.2)]:=by
   rw [cu]
   unfold HB
   rw [aX,hy]
   rfl
  obtain ⟨⟨p1,p2⟩,⟨p3,p4⟩,p5,p6⟩:=i3 y (bc hy)
  have xd:=Ext.dr rY
  have eZ:=(xN.rd (show 0<4 by decide))
  have cV:=eZ.fN (i:=(j:Int)) aE aa hb
  have mz:(ae sl.a (((j:Nat):Int).toNat*4)).isSome=true:=by
   obtain ⟨p,hp⟩:=kO.1 cV.1
   rw [hp];rfl
  have hso2:(ae (ae sl.a (((j:Nat):Int).toNat*4)) 0).isSome=true:=by
   obtain ⟨p,hp⟩:=kO.1 mz
   rw [hp];rfl
  have wx:ai (c.1-1+y.1.1)=(nt c y.1).1:=by rw [wI];rfl
  have wy:ai (c.2.1-1+y.1.2.1)=(nt c y.1).2.1:=by rw [wI];rfl
  have wz:ai (c.2.2-1+y.1.2.2)=(nt c y.1).2.2:=by rw [wI];rfl
  have Xd:dB (nt c y.1):=by unfold dB nt;simp only;omega
  have lds:∀{v:World},RdK v sl 4 (L.map fq)->∀k:Nat,∀u,(fq y)[k]? =some u->ld v (ae (ae (ae sl.a (((j:Nat):Int).toNat*4)) 0) k)=some u:=λeZ k u hu=>by
   rw [bZ]
   exact eZ.at hy' hu
  have ld3:∀{v:World},RdK v sl 4 (L.map fq)->ld v (ae (ae sl.a (((j:Nat):Int).toNat*4)) 3)=some (.int .i64 y.2):=λeZ=>eZ.at hy' (j:=3) rfl
  have zd:=lW rY
  have box:∀(AZ pZ:World),AZ=rY.drew.alloc (.cells #[af,af,af] iE)->pZ=AZ.setRow rY.drew.heap.size #[.int .i64 (nt c y.1).1,.int .i64 (nt c y.1).2.1,.int .i64 (nt c y.1).2.2]->Row pZ rY.drew.heap.size (ef (nt c y.1)) iE/\Ext rY pZ/\pZ.heap.size=rY.heap.size+1:=λAZ pZ Du uG=>by
   refine ⟨by rw [uG];exact Row.set (by rw [Du];exact Row.new rY.drew [_,_,_] _) _,xd.tr ((bq Du).ab uG (ax _)),by rw [uG,Du];simp [zd]⟩
  refine ⟨λp wj=>p=some ⟨rY.drew.heap.size,0,none⟩/\Row wj rY.drew.heap.size (ef (nt c y.1)) iE/\Ext rY wj/\rY.heap.size<wj,⟨cV,Bj mz (Bj hso2 ⟨y.1.1,lds (eZ.ext xd) 0 _ rfl,cV,Bj mz (Bj hso2 ⟨y.1.2.1,lds (eZ.ext xd) 1 _ rfl,cV,Bj mz (Bj hso2 ⟨y.1.2.2,lds (eZ.ext xd) 2 _ rfl,?_,?_⟩)⟩)⟩)⟩,?_⟩
  ·rw [wx,wy,wz]
   intro AZ Du pZ uG
   obtain ⟨q1,q2,q3⟩:=box AZ pZ Du uG
   exact ⟨rfl,rfl,rfl,rfl,rfl,rfl,rfl,q1,q2,by omega⟩
  ·rw [wx,wy,wz]
   intro AZ Du pZ uG
   obtain ⟨q1,q2,q3⟩:=box AZ pZ Du uG
   exact ⟨rfl,rfl,rfl,rfl,rfl,rfl,rfl,q1,q2,by omega⟩
  rintro aaD p wU ⟨rfl,I5,sC,z92⟩
  have x92d:=sC.tr (Ext.dr wU)
  have apO:=lW wU
  refine ⟨_,_,_,Lo.wv (I5.ext (Ext.dr wU)),cV,Bj mz ⟨y.2,ld3 (eZ.ext x92d),?_⟩⟩
  refine (nT (ag:=M2.ag) (cap:=M2.cap) (s4:=b4) (sq:=c3) (bud:=M2.aO) (now:=M2.now) (so:=c6) (sd:=c7) (hR.ext x92d).s.t hok2 M2.q (nt c y.1) Xd.ok).mono ?_
  rintro e se ⟨rfl,vF⟩
  have apP:=vF.size
  have Uk:=x92d.tr vF
  have h97:=hR.ext Uk
  have l3:av se (ae (ae sl.a (((j:Nat):Int).toNat*4)) 3) 0 [y.2]:=by
   show ld se (ae _ 0)=_
   rw [bZ]
   exact ld3 (eZ.ext Uk)
  refine ⟨_,rfl,vF.heap aa,vF.heap aa,vF.heap aa,vF.heap aa,vF.heap aa,vF.heap aa,l3,Br.mk (λdI=> ?_) (λdI=> ?_)⟩
  ·have dI:¬ey M2.T.2 (nt c y.1)=y.2:=by simpa using dI
   have hch:bw M2 (nt c y.1,y.2)=gm M2 (nt c y.1) y.2:=by unfold bw;rw [if_neg dI]
   have LP:=Ext.dr se
   have ajF:=lW se
   have hPb:∀v:World,w2.heap.size<=v.heap.size->Fw (Bx P w.heap.size w2) v:=λv hv i hi=>Qi i aa
   refine ⟨λp wj=>∃(g:Nat)(t1 t2 t3 t4 t5:Sl),p=some ⟨g,0,none⟩/\Row wj g (xM (gm M2 (nt c y.1) y.2) t1 t2 t3 t4 t5 c6 c7) bU/\g≠w.heap.size/\RM (Bx P w.heap.size w2) wj (gm M2 (nt c y.1) y.2) oc t1 t2 t3 t4 t5 c6 c7/\Ext se wj,⟨_,_,_,Lo.wv ((I5.ext ((Ext.dr wU).tr vF)).ext LP),cV,Bj mz ⟨y.2,ld3 (eZ.ext (Uk.tr LP)),?_,λCc abb=> ?_⟩⟩,?_⟩
   ·refine ((h97.ext LP).edit (hPb _ aa) hok2 (hsk2.mono aa) (nt c y.1) Xd y.2).mono ?_
    rintro e E9 ⟨t1,t2,t3,t4,t5,rfl,ajG,uu⟩
    have amF:=uu.size
    refine ⟨_,_,_,_,_,t1,t2,t3,t4,_,_,t5,_,_,c6,c7,_,rfl,uu.heap aa,uu.heap aa,uu.heap aa,uu.heap aa,uu.heap aa,uu.heap aa,λWX abc WY abd=>⟨rfl,rfl,rfl,rfl,rfl,rfl,E9.heap.size,t1,t2,t3,t4,t5,rfl,?_,by omega,?_,?_⟩⟩
    ·rw [abd];exact Row.set (by rw [abc];exact Row.new E9 [_,_,_,_,_,_,_,_,_,_,_,_,_,_,_,_] _) _
    ·exact ajG.ext ((bq abc).ab abd (ax _))
    ·exact (LP.tr uu).tr ((bq abc).ab abd (ax _))
   ·have qK:=bq abb
    have apQ:Cc.heap.size=se.heap.size+1:=by rw [abb];simp [ajF]
    have Xe:∃cs,Row Cc se.drew.heap.size cs bU:=⟨_,by rw [abb];exact Row.new se.drew [_,_,_,_,_,_,_,_,_,_,_,_,_,_,_,_] _⟩
    obtain ⟨apR,Xe⟩:=Xe
    have ajH:RM (λi=>Bx P w.heap.size w2 i/\i≠se.drew.heap.size) Cc M2 oc b1 b2 b3 b4 c3 c6 c7:=h97.same (λi hp hi=>⟨(LP.tr qK).heap hi,hp,by omega⟩) λg cs hr=>(LP.tr qK).heap hr.lt
    refine (ajH.edit (λi hi=>⟨hPb Cc aa i hi,by omega⟩) hok2 (hsk2.mono aa) (nt c y.1) Xd y.2).mono ?_
    rintro e PR ⟨t1,t2,t3,t4,t5,rfl,ajI,ln⟩
    have amG:=ln.size
    refine ⟨_,_,_,_,_,t1,t2,t3,t4,_,_,t5,_,_,c6,c7,_,rfl,ln.heap aa,ln.heap aa,ln.heap aa,ln.heap aa,ln.heap aa,ln.heap aa,ln.heap aa,λLL Ch=>⟨rfl,rfl,rfl,rfl,rfl,rfl,se.drew.heap.size,t1,t2,t3,t4,t5,rfl,?_,by omega,?_,?_⟩⟩
    ·rw [Ch];exact Row.set (Xe.ext ln) _
    ·exact ajI.same (λi hp hi=>⟨by rw [Ch,setRow_other _ _ _ _ hp.2],hp.1⟩) λg cs hr=>by rw [Ch,setRow_other _ _ _ _ (hr.ne (Xe.ext ln) ot.symm)]
    ·exact (LP.tr (qK.tr ln)).ab Ch (ax _)
   ·rintro ad5 p WZ ⟨g,t1,t2,t3,t4,t5,rfl,hg,UX,ajJ,uz⟩
    refine ⟨_,_,_,_,_,t1,t2,t3,t4,_,_,t5,_,_,c6,c7,Lo.wv hg,λad7 PZ=> ?_⟩
    have amH:=uz.size
    have Yo:=(ra.ext Uk).ext uz
    have amI:=mL PZ
    refine ⟨n-1,by omega,rfl,rfl,rfl,rfl,rfl,j+1,_,wk aa,by omega,?_,FM.of (ajJ.box PZ ⟨by omega,by omega⟩ Yo ot),?_,(oQ.tr (Uk.tr uz)).ab PZ (ax _),by omega,⟨_,by rw [PZ];exact Row.set Yo _⟩,⟨_,((rb.ext Uk).ext uz).same (by rw [PZ,setRow_other _ _ _ _ aa])⟩⟩
    ·rw [kJ,List.foldl_append,<-FC]
     exact hch.symm
    ·exact ak.bP ((xN.ext Uk).ext uz) λg' hg'=>by have:=(xN.own.lt hg').1;rw [PZ,setRow_other _ _ _ _ aa]
  ·have dI:ey M2.T.2 (nt c y.1)=y.2:=by simpa using dI
   have hch:bw M2 (nt c y.1,y.2)=M2:=by unfold bw;rw [if_pos dI]
   refine ⟨n-1,by omega,rfl,rfl,rfl,rfl,rfl,j+1,M2,wk aa,by omega,?_,FM.of h97,xN.ext Uk,oQ.tr Uk,by omega,⟨_,ra.ext Uk⟩,⟨_,rb.ext Uk⟩⟩
   rw [kJ,List.foldl_append,<-FC]
   exact hch.symm
 ·replace hb:=fh hb
  have jD:(HB c L).take j=HB c L:=dn (by unfold HB;rw [aB];omega)
  rw [jD] at FC
  subst FC
  intro ad8 aex
  exact ⟨_,rfl,b1,b2,b3,b4,c3,c6,c7,rfl,(hR.box aex ⟨by omega,by omega⟩ rb ot).out,oQ.ab aex aa⟩
end Go.Proofs.YtalpkjfpmdpbiaaGreatDoor
namespace Go.Proofs.YtalpkjfpmdpbiaaGreatDoor.Q
open Go Go.Vc Go.RowKit Go.Proofs Go.ks
set_option maxRecDepth 100000
def Wj(c:Cl):One (ef c):=by intro u hu;simp at hu;rcases hu with rfl|rfl|rfl<;>rfl
def NZ{w:World}{s:Sl}{q:QS}(ho:ak 0 tX 4 w s (q.l.map cM))(hq:wC q)(now many:Int):
  ah 109 #[.agg #[q.room,q.lost,s],now,many] w λe w'=>(∃s' so:Sl,e=Value.tuple #[.agg #[.int .i64 (rK q now many).1.room,.int .i64 (rK q now many).1.lost,s'],.slice so.a so.n so.c]/\ak 0 tX 4 w' s' ((rK q now many).1.l.map cM)/\ak w ml 3 w' so ((rK q now many).2.map ef))/\Ext w w':=by
 apply On.vc;have j6:s.n=q.l.length:=by rw [(ho.rd aE).n,aB]
 have dY:=hq.len;have hroom:=hq.room;intro w0 e0 w1 e1;have x1:Ext w w1:=(bq e0).ay e1;have z0:=du e0;have z1:w1.heap.size=w.heap.size+2:=by rw [e1];simp [z0]
 have hcd:fC q.l now many=min (q.l.takeWhile λy=>decide (y.1<=now)).length many.toNat:=rfl;have Pp:=CX q.l now many;unfold rK;simp only;generalize hcn:fC q.l now many=cnt at hcd Pp;refine ⟨λn x so sr wr=>Below w1 w1 wr/\∃j:Nat,x=j/\j+n=q.l.length/\ak w1 ml 3 wr so ((q.l.take (min j cnt)).map λy=>ef y.2)/\ak w1 tX 4 wr sr (((q.l.take j).drop cnt).map cM),⟨q.l.length,trivial,trivial,Below.refl _ _,0,rfl,by omega,by simp;exact ak.nil,by simp;exact ak.nil⟩,?_⟩;rintro n us x so sr wr ⟨xr,j,rfl,hj,nr,hrest⟩;have rV:=(ho.ext x1).ext xr;have eZ:=rV.rd aE;have zr:=xr.size;have ary:so.n=min j cnt:=by rw [(nr.rd aE).n,aB,bG];omega
 have Xj:sr.n=j-cnt:=by rw [(hrest.rd aE).n,aB,iw,bG];omega
 apply Br.mk<;>intro hc
 ·replace hc:=fj hc;have dw:q.l[j]? =some (q.l[j]'aa):=cr aa;generalize q.l[j]'aa=y at dw;have Ly:=gT hq.sorted now dw;have hs:=eZ.isSome aE (i:=j) (by simp;omega);have cV:cB s.a (j:Int) s.n:=⟨hs,by omega,by omega⟩;have UQ:∀p ∈ eQ (ae s.a ((j:Int).toNat*4)),p:=gj.2 (by rw [dX];exact hs);have Wv:=lD (j:=j);have kJ:q.l.take (j+1)=q.l.take j++ [y]:=by rw [cu,dw];rfl
  have stay:¬(y.1<=now/\((min j cnt:Nat):Int)<many)->cB s.a (j:Int) s.n/\∃(di:Int)(cW:Int)(dV:Int)(dc:Int),av wr (ae s.a ((j:Int).toNat*4)) 0 [di,cW,dV,dc]/\
    ∀eI:World,eI=wr.alloc (.cells #[di,cW,dV,dc] 79)->
    aF 32 4 eI ⟨sr.a,sr.n,sr.c⟩ 1 [di,cW,dV,dc]/\∀(mc:Sl)(g8:World),aD 79 4 eI ⟨sr.a,sr.n,sr.c⟩ 1 [di,cW,dV,dc] mc g8->g8.heap[w.heap.size]? =eI.heap[w.heap.size]?/\g8.heap[w0.heap.size]? =eI.heap[w0.heap.size]?/\g8.heap[wr.heap.size]? =eI.heap[wr.heap.size]?/\
     ∃n9,n9<n/\True/\True/\Below w1 w1 g8/\∃j':Nat,ai ((j:Int)+1)=j'/\j'+n9=q.l.length/\ak w1 ml 3 g8 ⟨so.a,so.n,so.c⟩ ((q.l.take (min j' cnt)).map λy=>ef y.2)/\ak w1 tX 4 g8 ⟨mc.a,mc.n,mc.c⟩ (((q.l.take j').drop cnt).map cM):=by
   intro my;have hjc:cnt<=j:=by omega
   refine ⟨cV,y.1,y.2.1,y.2.2.1,y.2.2.2,RdK.item eZ dw,λeI e28=> ?_⟩;have eM:=bq e28;have z28:=du e28;obtain ⟨c1,c2⟩:=(hrest.ext eM).append (news:=cM y) (bytes:=32) aa rfl (jr y) aa aa;refine ⟨c1,λmc g8 aS=> ?_⟩;obtain ⟨d1,d2,d3,d4,d5⟩:=c2 mc g8 aS;(repeat (refine And.intro ((d3).block _ aa) ?_));refine And.intro (d4 _ (λe=>by have:=(hrest.own.lt e).2;omega) aa) ?_;refine ⟨n-1,by omega,trivial,trivial,(xr.trans (Below.mono eM zr)).trans d3,j+1,Wv,by omega,?_,?_⟩
   ·rw [Nat.min_eq_right (by omega:cnt<=j+1)];rw [Nat.min_eq_right hjc] at nr;refine (nr.ext eM).bP λb hb=>d4 b (λe=> ?_) (by have:=(nr.own.lt hb).2;omega)
    obtain ⟨cs,hr⟩:=aN nr aE hb;obtain ⟨cs',hr'⟩:=aN hrest aE e;exact hr.ne hr' aE rfl
   ·rw [kJ,List.drop_append_of_le_length (by rw [bG];omega),aT];exact d1
  refine ⟨cV,bj.2 ⟨UQ,y.1,eZ.at (i:=j) (r:=cM y) (by rw [aX,dw];rfl) rfl,Br.mk (λhb=> ?_) (λhb=> ?_)⟩⟩
  ·replace hb:=fj hb;apply Br.mk<;>intro fi
   ·replace fi:=fj fi;have hjc:j<cnt:=by omega
    refine ⟨cV,bj.2 ⟨UQ,y.2.1,y.2.2.1,y.2.2.2,?_,λcm nu=> ?_⟩⟩
    ·rw [eF];refine gC λi v hi=> ?_
     have h1:=eZ.rd j (cM y) (by rw [aX,dw];rfl);rw [cO,eF,Nat.add_assoc];exact h1 (1+i) v (by rw [Ct];exact hi)
    have cl:=bq nu;have Wx:=du nu;obtain ⟨c1,c2⟩:=(nr.ext cl).append (news:=ef y.2) (bytes:=24) aa rfl (Wj _) aa aa;refine ⟨c1,λjG dy aS=> ?_⟩;obtain ⟨d1,d2,d3,d4,d5⟩:=c2 jG dy aS;(repeat (refine And.intro ((d3).block _ aa) ?_));refine And.intro (d4 _ (λe=>by have:=(nr.own.lt e).2;omega) aa) ?_;refine ⟨n-1,by omega,trivial,trivial,(xr.trans (Below.mono cl zr)).trans d3,j+1,Wv,by omega,?_,?_⟩
    ·rw [Nat.min_eq_left (by omega:j+1<=cnt),kJ,aT];rw [Nat.min_eq_left aa] at d1;exact d1
    ·rw [zi (by rw [bG];omega)];rw [zi (by rw [bG];omega)] at hrest;refine (hrest.ext cl).bP λb hb=>d4 b (λe=> ?_) (by have:=(hrest.own.lt hb).2;omega)
     obtain ⟨cs,hr⟩:=aN hrest aE hb;obtain ⟨cs',hr'⟩:=aN nr aE e;exact hr.ne hr' aE rfl
   ·replace fi:=fh fi;exact stay λh=>fi aa
  ·replace hb:=fh hb;exact stay λh=>hb h.1
 ·replace hc:=fh hc;have hj':j=q.l.length:=by omega
  intro ig e31 yJ e32;have xf:Ext w wr:=x1.trans (Below.mono xr x1.size);have jA:=(xf.ab e31 (ax _)).ab e32 aa;rw [hj',kg] at hrest;rw [Nat.min_eq_right aa] at nr;refine ⟨⟨sr,so,rfl,(ak.boxed (ak.boxed hrest aa e31) aa e32).low (fm _),?_⟩,jA⟩;rw [kd];have h31:ak w1 ml 3 ig so ((q.l.take cnt).map λy=>ef y.2):=nr.bP λb hb=>by rw [e31];exact setRow_other _ _ _ _ (by have:=(nr.own.lt hb).1;omega)
  have h32:ak w1 ml 3 yJ so ((q.l.take cnt).map λy=>ef y.2):=h31.bP λb hb=>by rw [e32];exact setRow_other _ _ _ _ (by have:=(h31.own.lt hb).1;omega)
  exact h32.low aa
end Go.Proofs.YtalpkjfpmdpbiaaGreatDoor.Q
namespace Go.Proofs.YtalpkjfpmdpbiaaGreatDoor
open Go Go.Vc Go.RowKit Go.Proofs Go.dQ Go.bf Go.Code Go.ks Go.jd
set_option maxRecDepth 100000
section
variable {P:Nat->Prop} {w:World} {M:Sm} {oc:List Ce} {s1 s2 s3 s4 sq so sd:Sl} {bud:Int} {m n0:Nat}
def VH(O:Ce->Bool)(M:Sm)(c:Ce)(h:qS M.T):qS (fU O M c).T:=by
 unfold fU;split
 ·exact h
 ·split
  ·exact mo [_] (M:={M with dR:=M.dR++ [bz c]}) h
  ·exact mo _ h
def GS(O:Ce->Bool):∀(l:List Ce) {M:Sm},qS M.T->qS (l.foldl (fU O) M).T
 | [],_,h=>h
 |c::l,M,h=>GS O l (VH O M c h)
def ti(h:RM P w M oc s1 s2 s3 s4 sq so sd)(hP:Fw P w)(ho:qS M.T)(hd:GU (k7 M))(hk:m8 M 600000)(hb:1<=M.aO/\M.aO<=64)(WO:oc.length<=1000):
  ah 66 #[.agg (xM M s1 s2 s3 s4 sq so sd).toArray] w λe w'=>∃v,e=Value.tuple #[v,.int .i64 (k7 M).length]/\RMs P w (fo (oM oc) M) oc v w':=by
 apply (Ki.vc (aK:=s1) (aL:=s2) (aH:=s3) (bM:=s4) (cz:=sq) (bX:=so) (bY:=sd));have TJ:=hk.now;have wr:ai (M.now+1)=M.now+1:=wI;have en:(if 1099511627776<M.now+1 then 1099511627776 else M.now+1)=gh M:=by unfold gh;split<;>omega
 intro w0 e0 w1 e1 w2 e2;rw [wr,en] at e2 ⊢;have ot:bU≠Q.tX:=by decide
 have x1:Ext w w1:=(bq e0).ay e1;have z0:=du e0;have z1:w1.heap.size=w.heap.size+2:=by rw [e1];simp [z0]
 have ra1:Row w1 w (xM M s1 s2 s3 s4 sq so sd) bU:=(by rw [e0];exact Row.new w [_,_,_,_,_,_,_,_,_,_,_,_,_,_,_,_] _:Row w0 w (xM M s1 s2 s3 s4 sq so sd) bU).ext (bq e1);have rb1:∃cs,Row w1 w0 cs bU:=⟨_,by rw [e1];exact Row.new w0 [_,_,_,_,_,_,_,_,_,_,_,_,_,_,_,_] _⟩;obtain ⟨cb,rb1⟩:=rb1;have h1:=h.nN x1 w1;have hP1:=hP.bx x1 (ax _);have h2:RM (Bx P w.heap.size w1) w2 M oc s1 s2 s3 s4 sq so sd:=h1.box e2 ⟨by omega,by omega⟩ ra1 ot;have x2:Ext w w2:=x1.ab e2 (ax _);have z2:=mL e2;have Jm:∃cs,Row w2 w cs bU:=⟨_,by rw [e2];exact Row.set ra1 _⟩;have IM:Row w2 w0 cb bU:=rb1.same (by rw [e2,setRow_other _ _ _ _ aa]);obtain ⟨ca,Jm⟩:=Jm;refine (Q.NZ h2.s.qo h.s.ok (gh M) M.aO).mono ?_;rintro e w3 ⟨⟨s',s7,rfl,hq3,UY⟩,x3⟩;have zz3:=x3.size;refine ⟨_,_,s',s7,rfl,x3.heap aa,x3.heap aa,λw8 e8 w9 e9 bL A4=> ?_⟩;have x9:Ext w3 w9:=(bq e8).ab e9 (ax _);have z9:=kC e8 e9;have h3:RM (Bx P w.heap.size w1) w3 (iO M) oc s1 s2 s3 s4 s' so sd:=⟨⟨h2.s.t.ext x3,h2.s.g.ext x3,hq3,h.s.ok.due _ _⟩,h2.o.ext x3,h2.d.ext x3⟩;have y9:=x3.tr x9;have h10:=(h3.ext x9).box A4 ⟨by omega,by omega⟩ (Jm.ext y9) ot;have z10:=mL A4;have aid:∃cs,Row bL w cs bU:=⟨_,by rw [A4];exact Row.set (Jm.ext y9) _⟩;have aie:∃cs,Row bL w0 cs bU:=⟨_,(IM.ext y9).same (by rw [A4,setRow_other _ _ _ _ aa])⟩;have Lz:ak w2 iE 3 bL s7 ((k7 M).map ef):=ak.bP (UY.ext x9) λg hg=>by have:=(UY.own.lt hg).1;rw [A4,setRow_other _ _ _ _ aa]
 have br:Ext w bL:=(x2.tr y9).ab A4 (ax _);have PE:(k7 M).length<=64:=D8 hb;have hk5:m8 (iO M) 600000:=⟨hk.l,hk.c,by show 0<=gh M/\gh M<=_;unfold gh;omega,hk.d⟩;have uB:qS (iO M).T:=ho;unfold fo;generalize k7 M=L at*;have hn7:s7.n=L.length:=by have:=(Lz.rd (show 0<3 by decide)).n;rwa [aB] at this
 refine ⟨λn i a1 a2 a3 a4 a5 b1 b2 b3 b4 c1 c2 c3 c4 c5 c6 c7 wj=>∃(j:Nat)(M2:Sm),i=j/\j+n=L.length/\M2=(L.take j).foldl (fU (oM oc)) (iO M)/\FM (Bx P w.heap.size w1) wj oc M2 a1 a2 a3 a4 a5 b1 b2 b3 b4 c1 c2 c3 c4 c5 c6 c7/\ak w2 iE 3 wj s7 (L.map ef)/\Ext w wj/\bL.heap.size<=wj/\(∃cs,Row wj w cs bU)/\∃cs,Row wj w0 cs bU,⟨L.length,rfl,rfl,0,iO M,rfl,by omega,rfl,FM.of h10,Lz,br,ax _,aid,aie⟩,?_⟩;rintro n WR i a1 a2 a3 a4 a5 b1 b2 b3 b4 c1 c2 c3 c4 c5 c6 c7 ig ⟨j,M2,rfl,hj,FC,⟨⟨rfl,rfl,rfl,rfl,rfl,rfl,rfl,rfl,rfl⟩,hR⟩,xN,iK,aih,⟨aoL,ra⟩,⟨aoM,rb⟩⟩;have hok2:qS M2.T:=by rw [FC];exact GS _ _ uB
 have hsk2:m8 M2 700000:=by rw [FC];exact (hk5.Kj _ _).mono (by rw [bG];omega)
 apply Br.mk<;>intro fi
 ·replace fi:=fj fi;obtain ⟨y,hy⟩:=bh (l:=L) (i:=j) aa;have hy':(L.map ef)[j]? =some (ef y):=by rw [aX,hy];rfl
  have kJ:L.take (j+1)=L.take j++ [y]:=by rw [cu,hy];rfl
  have wk:=lD (j:=j);have xd:=Ext.dr ig;have zd:=lW ig;have eZ:=(xN.rd (show 0<3 by decide)).ext xd;refine ⟨eZ.fN (i:=(j:Int)) aE aa aa,_,_,_,eZ.bk hy',?_⟩;refine (zK (hR.ext xd) (λi hi=>hP1 i aa) hok2 hsk2 WO y (hd y (bc hy))).mono ?_;rintro e nv ⟨v,rfl,t1,t2,t3,t4,t5,t6,t7,rfl,aii,kx⟩;have aij:=kx.size;refine ⟨_,_,_,_,_,t1,t2,t3,t4,_,_,t5,_,_,t6,t7,rfl,kx.heap aa,kx.heap aa,kx.heap aa,λYa Jn=> ?_⟩;have adF:=(ra.ext xd).ext kx;have z53:=mL Jn;refine ⟨n-1,by omega,rfl,rfl,j+1,_,wk,by omega,?_,FM.of (aii.box Jn ⟨by omega,by omega⟩ adF ot),ak.bP ((xN.ext xd).ext kx) (λg hg=>by have:=(xN.own.lt hg).1;rw [Jn,setRow_other _ _ _ _ aa]),(iK.tr (xd.tr kx)).ab Jn (ax _),by omega,⟨_,by rw [Jn];exact Row.set adF _⟩,⟨_,((rb.ext xd).ext kx).same (by rw [Jn,setRow_other _ _ _ _ aa])⟩⟩;rw [kJ,iY,<-FC];rfl
 ·replace fi:=fh fi;rw [dn aa] at FC;subst FC;intro ye Yb;exact ⟨_,by rw [hn7],b1,b2,b3,b4,c3,c6,c7,rfl,(hR.box Yb ⟨by omega,by omega⟩ rb ot).out,iK.ab Yb aa⟩
def GV(hb:1<=bud/\bud<=64)(N:Nat)(hN:N<=1000)(h:RM P w M oc s1 s2 s3 s4 sq so sd)(hP:Fw P w)(hs:o5 bud m M n0)(hn0:n0+2560*N<=600000)(WO:oc.length<=1000):
  Calls Tryz.prog 63 #[.agg (xM M s1 s2 s3 s4 sq so sd).toArray,.int .i64 N] w λe w'=>∃v,e=.returned (.tuple #[v,.int .i64 (runM (oM oc) N M).2])/\RMs P w (runM (oM oc) N M).1 oc v w':=by
 apply (N0.vc (aK:=s1) (aL:=s2) (aH:=s3) (bM:=s4) (cz:=sq) (bX:=so) (bY:=sd));intro w0 e0 w1 e1;have ot:bU≠Q.tX:=by decide
 have x1:Ext w w1:=((Ext.ck _).ay e0).ay e1;have z0:=du e0;have z1:w1.heap.size=w.heap.size+2:=by rw [e1];simp [z0]
 have ra1:∃cs,Row w1 w.heap.size cs bU:=⟨_,(by rw [e0];exact Row.new w [_,_,_,_,_,_,_,_,_,_,_,_,_,_,_,_] _:Row w0 w.heap.size (xM M s1 s2 s3 s4 sq so sd) bU).ext ((Ext.ck _).ay e1)⟩;have rb1:∃cs,Row w1 w0.heap.size cs bU:=⟨_,by rw [e1];exact Row.new w0 [_,_,_,_,_,_,_,_,_,_,_,_,_,_,_,_] _⟩;have h1:=h.nN x1 w1.heap.size;have hP1:=hP.bx x1 (Nat.le_refl _);clear e0 e1;refine ⟨λn i a1 a2 a3 a4 a5 b1 b2 b3 b4 c1 c2 c3 c4 c5 c6 c7 wj=>∃(k:Nat)(M2:Sm),i=k/\k+n=N/\(runM (oM oc) k M).2=k/\M2=(runM (oM oc) k M).1/\FM (Bx P w.heap.size w1.heap.size) wj oc M2 a1 a2 a3 a4 a5 b1 b2 b3 b4 c1 c2 c3 c4 c5 c6 c7/\Ext w wj/\w1.heap.size<=wj.heap.size/\(∃cs,Row wj w.heap.size cs bU)/\∃cs,Row wj w0.heap.size cs bU,⟨N,rfl,0,M,rfl,by omega,rfl,rfl,FM.of h1,x1,Nat.le_refl _,ra1,rb1⟩,?_⟩;clear h1 ra1 rb1;rintro n WR i a1 a2 a3 a4 a5 b1 b2 b3 b4 c1 c2 c3 c4 c5 c6 c7 cx ⟨k,M2,rfl,Fq,Bk,FC,⟨⟨rfl,rfl,rfl,rfl,rfl,rfl,rfl,rfl,rfl⟩,hR⟩,eY,aoN,⟨ca,ra⟩,⟨cb,rb⟩⟩;have hql:c3.n=M2.q.l.length:=by have:=(hR.s.qo.rd (show 0<4 by decide)).n;rwa [List.length_map] at this
 have fin:runM (oM oc) N M=runM (oM oc) k M->∀Dr:World,∀cs:Array Value,Dr=cx.setRow w0.heap.size cs->∃v,Ending.returned (.tuple #[.agg (xM M2 b1 b2 b3 b4 c3 c6 c7).toArray,.int .i64 k])=.returned (.tuple #[v,.int .i64 (runM (oM oc) N M).2])/\RMs P w (runM (oM oc) N M).1 oc v Dr:=λee Dr cs e45=>by rw [ee,Bk,<-FC];exact ⟨_,rfl,b1,b2,b3,b4,c3,c6,c7,rfl,(hR.box e45 ⟨by omega,by omega⟩ rb ot).out,eY.ab e45 (by omega)⟩
 refine Br.mk (λhp=>Br.mk (λhm=>Br.mk (λrU=> ?_) (λrU Dn UZ=>fin ?_ Dn _ UZ)) (λhm Dn UZ=>fin ?_ Dn _ UZ)) (λhp Dn UZ=>fin ?_ Dn _ UZ)
 ·simp only [decide_eq_true_eq,gt_iff_lt] at hp hm;have hp':0<(runM (oM oc) k M).1.q.l.length:=by rw [<-FC];omega
  have Qk:=(o5.run hb (oM oc) k hs);have lh:=Qk.tj (by omega) hb;rw [<-FC] at lh Qk;have es:=u6 (oM oc) k M Bk;rw [if_pos hp'] at es;refine (ti hR (λi hi=>hP1 i (by omega)) Qk.l.ok lh.1 lh.2.1 lh.2.2 WO).mono ?_;rintro e fu ⟨v,rfl,t1,t2,t3,t4,t5,t6,t7,rfl,aik,di⟩;have ail:=di.size;have wk:IntKind.wrap .i64 ((k:Int)+1)=((k+1:Nat):Int):=by rw [wI];omega
  refine ⟨_,_,_,_,_,t1,t2,t3,t4,_,_,t5,_,_,t6,t7,_,rfl,di.k,di.k,λnp U0 pY Wy jz PF=> ?_⟩;have ky:Ext fu pY:=((Ext.ck _).ay U0).ab Wy (Nat.le_refl _);have z43:=kC U0 Wy;clear U0 Wy;have adH:=(ra.ext di).ext ky;have z44:=mL PF;exact ⟨n-1,by omega,rfl,k+1,_,wk,by omega,by rw [es],by rw [es,FC],FM.of ((aik.ext ky).box PF ⟨by omega,by omega⟩ adH ot),(eY.tr (di.tr ky)).ab PF (Nat.le_refl _),by omega,⟨_,by rw [PF];exact Row.set adH _⟩,⟨_,((rb.ext di).ext ky).same (by rw [PF,setRow_other _ _ _ _ (by omega)])⟩⟩
 ·simp only [decide_eq_true_eq,decide_eq_false_iff_not] at hm rU;rw [show N=k by omega]
 ·replace hm:=fh hm;rw [show N=k by omega]
 ·simp only [decide_eq_false_iff_not,gt_iff_lt] at hp;have:=u7 (oM oc) k n M Bk (by rw [<-FC];omega);rwa [Fq] at this
end
end Go.Proofs.YtalpkjfpmdpbiaaGreatDoor
