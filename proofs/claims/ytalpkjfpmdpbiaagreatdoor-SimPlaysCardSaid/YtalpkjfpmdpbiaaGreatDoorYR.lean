import Derived.Test.YtalpkjfpmdpbiaaGreatDoorYQ
import Derived.Test.YtalpkjfpmdpbiaaGreatDoorQB
import Derived.Test.YtalpkjfpmdpbiaaGreatDoorWB
set_option linter.all false
namespace Go.Proofs.YtalpkjfpmdpbiaaGreatDoor
open Go Go.Vc Go.RowKit Go.Proofs Go.dS Go.bh Go.Code Go.km Go.iQ
set_option maxRecDepth 100000
def iL(c c':Ce)(a b d:Int)(he:c'=(c.1+a,c.2.1+b,c.2.2+d))(hc:dH c)(ha:(-1<=a/\a<=1)/\(-1<=b/\b<=1)/\-1<=d/\d<=1)(w:World):ah 100 #[iG c,a,b,d] w λe w'=>e=(iG c')/\Ext w w':=by subst he;apply Sy.vc;obtain ⟨⟨h1,h2⟩,⟨h3,h4⟩,h5,h6⟩:=id hc;have q1:ai (c.1+a)=c.1+a:=wI;have q2:ai (c.2.1+b)=c.2.1+b:=wI;have q3:ai (c.2.2+d)=c.2.2+d:=wI;intro w0 e0 w1 e1 w2 e2;rw [q1,q2,q3];exact ⟨rfl,((bo e0).ay e1).ab e2 (by rw [e0];simp)⟩
def EI(c:Ce)(hc:dH c)(w:World):ah 55 #[iG c] w λe w'=>∃s:Sl,e=s/\aj w gz 3 w' s ((c::iI c).map dn)/\Ext w w':=by
 apply Lu.vc;intro w0 e0;have x0:Ext w w0.drew:=(bo e0).tr (Ext.dr w0);have z0:w0.drew.heap.size=w.heap.size+1:=by show w0.heap.size=_;rw [e0];simp
 have r0:Row w0.drew w (dn c) gz:=(by rw [e0];exact Row.new w [_,_,_] _:Row w0 w _ gz).ext (Ext.dr w0);refine (iL c (c.1-1,c.2.1,c.2.2) (-1) 0 0 (jN aa aa aa) hc aC w0.drew).mono ?_;rintro e w1 ⟨rfl,x1⟩;have z1:=x1.size;have r1:=Lo.wv (r0.ext x1);refine ⟨_,_,_,rfl,x1.heap aa,r1,r1,r1,r1,r1,r1,(iL c (c.1+1,c.2.1,c.2.2) 1 0 0 (jN aa aa aa) hc aC w1).mono ?_⟩;rintro e w5 ⟨rfl,x5⟩;have y5:=x1.tr x5;have z5:=y5.size;have r5:=Lo.wv (r0.ext y5);refine ⟨_,_,_,rfl,x5.heap aa,r5,r5,r5,r5,r5,(iL c (c.1,c.2.1-1,c.2.2) 0 (-1) 0 (jN aa aa aa) hc aC w5).mono ?_⟩;rintro e w9 ⟨rfl,x9⟩;have y9:=y5.tr x9;have z9:=y9.size;have r9:=Lo.wv (r0.ext y9);refine ⟨_,_,_,rfl,x9.heap aa,r9,r9,r9,r9,(iL c (c.1,c.2.1+1,c.2.2) 0 1 0 (jN aa aa aa) hc aC w9).mono ?_⟩;rintro e cC ⟨rfl,cz⟩;have XI:=y9.tr cz;have z13:=XI.size;have Y4:=Lo.wv (r0.ext XI);refine ⟨_,_,_,rfl,cz.heap aa,Y4,Y4,Y4,(iL c (c.1,c.2.1,c.2.2-1) 0 0 (-1) (jN aa aa aa) hc aC cC).mono ?_⟩;rintro e cE ⟨rfl,cR⟩;have VQ:=XI.tr cR;have z17:=VQ.size;have r17:=Lo.wv (r0.ext VQ);refine ⟨_,_,_,rfl,cR.heap aa,r17,r17,(iL c (c.1,c.2.1,c.2.2+1) 0 0 1 (jN aa aa aa) hc aC cE).mono ?_⟩;rintro e ef ⟨rfl,fT⟩;have y21:=VQ.tr fT;have z21:=y21.size;refine ⟨_,_,_,rfl,fT.heap aa,Lo.wv (r0.ext y21),λeh Xk=> ?_⟩;have hr:Row eh ef (((c::iI c).map dn).flatten) gz:=Row.nw Xk;refine ⟨⟨bu ef.heap.size,7,7⟩,rfl,aj.gm aa hr (by simp [iI]) (ax _) rfl (by intro r hr;obtain ⟨y,-,rfl⟩:=aS.1 hr;rfl),(x0.tr y21).ay Xk⟩
def Ca(b:Int)(w:World):ah 56 #[b] w λe w'=>e=Value.int .i64 (bQ b)/\w'=w:=by
 apply HP.vc;unfold bQ;apply Br.mk<;>intro h
 ·rw [if_pos (by simpa using h)];exact ⟨rfl,rfl⟩
 ·rw [if_neg (by simpa using h)];have wet:ah 101 #[b] w λe w'=>e=Value.bool (fu b)/\w'=w:=by
   apply Dj.vc;unfold fu;refine Br.mk (λh=>⟨?_,rfl⟩) (λh=>⟨?_,rfl⟩)
   ·have h1:=kX h;rw [decide_eq_true h1,re];congr 2
    first|rfl|(rw [decide_eq_decide];omega)
   ·have h1:=kX h;rw [decide_eq_false h1,M8]
  refine wet.mono ?_;rintro e w0 ⟨rfl,rfl⟩;refine ⟨_,rfl,Br.mk (λh=> ?_) (λh=> ?_)⟩
  ·rw [if_pos h];exact ⟨rfl,rfl⟩
  ·rw [if_neg (by rw [h];decide)];exact ⟨rfl,rfl⟩
end Go.Proofs.YtalpkjfpmdpbiaaGreatDoor
namespace Go.Proofs.YtalpkjfpmdpbiaaGreatDoor
open Go Go.Vc Go.RowKit Go.Proofs Go.dS Go.bh Go.Code Go.km Go.iQ
set_option maxRecDepth 100000
abbrev Ye(ag cap:Int)(d:Dk)(s1 s2 s3 s4:Sl)(q:QS)(sq:Sl)(bud now:Int)(so sd:Sl):LV:=[.int .i64 ag,.int .i64 cap,.int .i64 d.room,.int .i64 d.c9,.int .i64 d.wait,.slice s1.a s1.n s1.c,.slice s2.a s2.n s2.c,.slice s3.a s3.n s3.c,.slice s4.a s4.n s4.c,.int .i64 q.room,.int .i64 q.lost,.slice sq.a sq.n sq.c,.int .i64 bud,.int .i64 now,.slice so.a so.n so.c,.slice sd.a sd.n sd.c]
structure RS(P:Nat->Prop)(w:World)(T:Tb)(ch:List Go.iQ.Cg)(q:QS)(s1 s2 s3 s4 sq:Sl):Prop where
 t:RT P w T s1 s2 s3
 g:RG P w s4 ch
 qo:aj 0 Q.tX 4 w sq (q.l.map cN)
 ok:xR q
def uC(V:Ce->Int)(now:Int)(q:QS)(n:Ce):QS:=if decide (0<bQ (V n))=true then oO V now q n else q
def T0(V:Ce->Int)(now:Int)(q:QS)(c:Ce):oJ V now q c=(c::iI c).foldl (uC V now) q:=by unfold oJ iR;rw [List.foldl_filter];rfl
def DN(V:Ce->Int)(now:Int):∀(l:List Ce)(q:QS),q.lost<=(l.foldl (uC V now) q).lost/\(l.foldl (uC V now) q).lost<=q.lost+l.length
 | [],q=>⟨mu _,by simp⟩
 |n::l,q=>by
  have h1:=DN V now l (uC V now q n)
  have h2:=vM q n (now+bQ (V n))
  have h3:(uC V now q n).lost=q.lost\/(uC V now q n).lost=(fc q n (now+bQ (V n))).1.lost:=by
   unfold uC;split
   ·exact .inr rfl
   ·exact .inl rfl
  simp only [jL,fX];omega
def NA{V:Ce->Int}{now:Int}{q:QS}(h:xR q)(n:Ce):xR (uC V now q n):=by
 unfold uC;split
 ·exact h.add _ _
 ·exact h
section
variable {P P':Nat->Prop} {w w' v v':World} {s s1 s2 s3 s4 sq so sd:Sl} {T:Tb} {ch:List Go.iQ.Cg} {q:QS} {ag cap bud now:Int}
def oa(h:RT P w T s1 s2 s3)(ho:qH T)(q:QS)(c:Ce)(hc:lY c):ah 57 #[.agg (Ye ag cap T.1 s1 s2 s3 s4 q sq bud now so sd).toArray,iG c] w λe w'=>e=Value.int .i64 (eB T.2 c)/\Ext w w':=by
 apply (TL.vc (aK:=s1) (aL:=s2) (aH:=s3) (bO:=s4) (cD:=sq) (cg:=so) (cj:=sd));intro w0 e0 w1 e1;have x1:Ext w w1:=(bo e0).ay e1;have z0:=dt e0;have z1:w1.heap.size=w.heap.size+2:=by rw [e1];simp [z0]
 refine (rU (ag:=ag) (cap:=cap) (h.ext x1) ho c hc).mono ?_;rintro e w2 ⟨rfl,x2⟩;exact ⟨_,rfl,x2.heap aa,x2.heap aa,rfl,x1.tr x2⟩
def Fk(h:RS P w T ch q s1 s2 s3 s4 sq)(hP:Fw P w)(ho:qH T)(hn:ch.length<=900000)(hl:0<=q.lost/\q.lost<=900000)(Uh:0<=now/\now<=1099511627776)(c:Ce)(hc:dH c)(b:Int):
  ah 26 #[.agg (Ye ag cap T.1 s1 s2 s3 s4 q sq bud now so sd).toArray,iG c,b] w λe w'=>∃Jm FA Jn YX sq':Sl,e=Value.tuple #[.agg (Ye ag cap T.1 Jm FA Jn YX (if (cr T.2 c b).2=0 then oJ (eB (cr T.2 c b).1) now q c else q) sq' bud now so sd).toArray,.int .i64 (cr T.2 c b).2]/\RS P w' (T.1,(cr T.2 c b).1) (xE T.2 ch c b) (if (cr T.2 c b).2=0 then oJ (eB (cr T.2 c b).1) now q c else q) Jm FA Jn YX sq'/\Ext w w':=by
 apply (L4.vc (aK:=s1) (aL:=s2) (aH:=s3) (bO:=s4) (cD:=sq) (cg:=so) (cj:=sd));intro w0 e0 w1 e1 w2 e2;have x2:Ext w w2:=((bo e0).ay e1).ay e2;have z0:=dt e0;have z1:w1.heap.size=w.heap.size+2:=by rw [e1];simp [z0]
 have z2:w2.heap.size=w.heap.size+3:=by rw [e2];simp [z1]
 have J0:Row w2 w (Ye ag cap T.1 s1 s2 s3 s4 q sq bud now so sd) bG:=((by rw [e0];exact Row.new w [_,_,_,_,_,_,_,_,_,_,_,_,_,_,_,_] _:Row w0 w _ bG).ext (bo e1)).ext (bo e2);have Jp:Row w2 w1 [af,af,af,af,af,.slice none 0 0,.slice none 0 0,.slice none 0 0,.slice none 0 0,af,af,.slice none 0 0,af,af,.slice none 0 0,.slice none 0 0] bG:=Row.nw e2;have ph:=h.t.nT x2 w2;have hG2:=h.g.nT x2 w2;have QL:=hP.bx x2 (ax _);refine (Hb (ag:=ag) (cap:=cap) ph hG2 QL ho aa c hc.ok b).mono ?_;rintro e w3 ⟨t1,t2,t3,t4,rfl,h3,g3,x3⟩;have z3:=x3.size;refine ⟨_,_,_,_,_,t1,t2,t3,t4,_,rfl,x3.heap aa,x3.heap aa,x3.heap aa,λbY mB cU Bo cY yZ=> ?_⟩;have bw:Ext w3 cU:=(bo mB).ab Bo (ax _);have z15:=jE mB Bo;have z16:=mC yZ;have h16:=(h3.ext bw).box yZ ⟨by omega,by omega⟩;have g16:=(g3.ext bw).box yZ ⟨by omega,by omega⟩;have cQ:Ext w cY:=(x2.tr (x3.tr bw)).ab yZ (ax _);have Vb:Row cY w (Ye ag cap T.1 t1 t2 t3 t4 q sq bud now so sd) bG:=by rw [yZ];exact Row.set (J0.ext (x3.tr bw)) _
 have q16:=h.qo.ext cQ;have nbox:w1.heap.size≠w:=by omega
 have alZ:∃cs,Row cY w1 cs bG:=⟨_,(Jp.ext (x3.tr bw)).same (by rw [yZ,setRow_other _ _ _ _ nbox])⟩;have ot:bG≠Q.tX:=by decide
 refine Br.mk (λhb=>λcE qk=> ?_) (λhb=> ?_)
 ·have hb:¬(cr T.2 c b).2=0:=by simpa using hb
  rw [if_neg hb];have hk:∀g,sq.bj=some g->g<w.heap.size:=λg hg=>(h.qo.own.lt hg).2
  exact ⟨t1,t2,t3,t4,sq,rfl,⟨(h16.box qk ⟨by omega,by omega⟩).out,(g16.box qk ⟨by omega,by omega⟩).out,aj.bM q16 λg hg=>by have:=hk g hg;rw [qk,setRow_other _ _ _ _ aa],h.ok⟩,cQ.ab qk aa⟩
 have hb:(cr T.2 c b).2=0:=by simpa using hb
 rw [if_pos hb,T0,hb];have gA:=Et ho c b;generalize cr T.2 c b=S at*;refine (EI c hc cY).mono ?_;rintro e dA ⟨pg,rfl,QT,cf⟩;have z18:=cf.size;have fq:=QT.rd (show 0<3 by decide);have aiC:pg.n=7:=fq.n;refine ⟨pg,rfl,cf.heap aa,cf.heap aa,cf.heap aa,cf.heap aa,λn x a1 a2 a3 a4 a5 b1 b2 b3 b4 c1 c2 c3 c4 c5 c6 c7 wr=>∃(j:Nat)(qj:QS)(sj:Sl),x=j/\j+n=7/\a1=ag/\a2=cap/\a3=T.1.room/\a4=T.1.c9/\a5=T.1.wait/\b1=⟨t1.a,t1.n,t1.c⟩/\b2=⟨t2.a,t2.n,t2.c⟩/\b3=⟨t3.a,t3.n,t3.c⟩/\b4=⟨t4.a,t4.n,t4.c⟩/\c1=qj.room/\c2=qj.lost/\c3=sj/\c4=bud/\c5=now/\c6=⟨so.a,so.n,so.c⟩/\c7=⟨sd.a,sd.n,sd.c⟩/\qj=((c::iI c).take j).foldl (uC (eB S.1) now) q/\xR qj/\aj 0 Q.tX 4 wr sj (qj.l.map cN)/\RT (Bx P w.heap.size w2) wr (T.1,S.1) t1 t2 t3/\RG (Bx P w.heap.size w2) wr t4 (xE T.2 ch c b)/\aj cY gz 3 wr pg ((c::iI c).map dn)/\Ext w wr/\(∃cs,Row wr w1 cs bG)/\dA.heap.size<=wr/\Row wr w (Ye ag cap T.1 t1 t2 t3 t4 qj sj bud now so sd) bG,⟨7,rfl,rfl,rfl,0,q,sq,rfl,rfl,rfl,rfl,rfl,rfl,rfl,rfl,rfl,rfl,rfl,rfl,rfl,rfl,rfl,rfl,rfl,rfl,rfl,h.ok,q16.ext cf,h16.ext cf,g16.ext cf,QT,cQ.tr cf,(by obtain ⟨cs,xC⟩:=alZ;exact ⟨cs,xC.ext cf⟩),ax _,Vb.ext cf⟩,?_⟩;rintro n us x a1 a2 a3 a4 a5 b1 b2 b3 b4 c1 c2 c3 c4 c5 c6 c7 wr ⟨j,qj,sj,rfl,hj,rfl,rfl,rfl,rfl,rfl,rfl,rfl,rfl,rfl,rfl,rfl,rfl,rfl,rfl,rfl,rfl,Qa,qZ,hqo,hT,hG,hnear,xw,⟨csb,hrb⟩,zr,Mv⟩;apply Br.mk<;>intro eF
 ·replace eF:=fe eF;obtain ⟨y,hy⟩:=aZ (l:=c::iI c) (i:=j) (by have:(c::iI c).length=7:=rfl;omega);have oky:lY y:=by
   rcases bJ.1 (bf hy) with rfl|h
   ·exact hc.ok
   ·exact wQ hc h
  have hy':((c::iI c).map dn)[j]? =some (dn y):=by rw [aV,hy];rfl
  have j2:(c::iI c).take (j+1)=(c::iI c).take j++ [y]:=by rw [cm,hy];rfl
  have wk:=kK (j:=j);have acB:=hnear.rd (show 0<3 by decide);have xd:=Ext.dr wr;have zd:=kQ wr;have cX:=acB.fp (i:=(j:Int)) aC aa eF;refine ⟨cX,_,_,_,(acB.ext xd).aY hy',(oa (ag:=a1) (cap:=a2) (s4:=t4) (sq:=c3) (bud:=c4) (now:=c5) (so:=so) (sd:=sd) (hT.ext xd) gA qj y oky).mono ?_⟩;rintro e DS ⟨rfl,lp⟩;have z45:=lp.size;refine ⟨_,rfl,lp.heap aa,lp.heap aa,lp.heap aa,lp.heap aa,(Ca (eB S.1 y) DS).mono ?_⟩;rintro e oV ⟨rfl,al0⟩;subst al0;have mc:=xd.tr lp;have hd:=HG (eB S.1 y);have Vw:ai (c5+bQ (eB S.1 y))=c5+bQ (eB S.1 y):=wI;have hlost:=DN (eB S.1) c5 ((c::iI c).take j) q;have aje:((c::iI c).take j).length<=7:=by rw [bF];omega
  rw [<-Qa] at hlost;refine ⟨_,rfl,rfl,rfl,rfl,rfl,Br.mk (λQR=> ?_) (λQR=> ?_)⟩
  ·have QR:decide (0<bQ (eB S.1 y))=true:=by simpa using QR
   have CO:uC (eB S.1) c5 qj y=(fc qj y (c5+bQ (eB S.1 y))).1:=by unfold uC;rw [if_pos QR]
   have xd2:=mc.tr (Ext.dr oV);have zd2:=kQ oV;refine ⟨cX,_,_,_,(acB.ext xd2).aY hy',?_,λBQ Vy=> ?_⟩
   ·rw [Vw];refine (Q.vX (hqo.ext xd2) qZ aa y (c5+bQ (eB S.1 y))).mono ?_;rintro e Gh ⟨⟨s',rfl,al1⟩,uS⟩;have z52:=uS.size;have af2:=xd2.tr uS;refine ⟨_,_,s',_,rfl,uS.heap aa,uS.heap aa,uS.heap aa,uS.heap aa,(Mv.ext af2).aY (o:=13) (λj hj=>by
     match j,hj with
     |0,_=>rfl),λVI e57 By e58 Xv Zi=> ?_⟩
    have oW:Ext Gh By:=(bo e57).ab e58 (ax _);have z58:=oW.size;have xx:=af2.tr oW;have af3:=al1.ext oW;have hra58:=Mv.ext xx;have z59:=mC Zi;refine ⟨n-1,by omega,rfl,rfl,rfl,j+1,_,s',wk,by omega,rfl,rfl,rfl,rfl,rfl,rfl,rfl,rfl,rfl,by rw [CO],by rw [CO],rfl,rfl,rfl,rfl,rfl,by rw [j2,jc,<-Qa];rfl,NA qZ y,?_,(hT.ext xx).box Zi ⟨by omega,by omega⟩,(hG.ext xx).box Zi ⟨by omega,by omega⟩,aj.bM (hnear.ext xx) (λg hg=>by have:=(hnear.own.lt hg).1;rw [Zi,setRow_other _ _ _ _ aa]),(xw.tr xx).ab Zi (ax _),⟨csb,(hrb.ext xx).same (by rw [Zi,setRow_other _ _ _ _ nbox])⟩,by omega,by rw [CO,Zi];exact Row.set hra58 _⟩;rw [CO];refine aj.bM af3 λg hg=> ?_
    obtain ⟨cs',hr'⟩:=aM af3 aC hg;rw [Zi,setRow_other _ _ _ _ (hr'.ne hra58 ot.symm)]
   ·have Bu:Ext wr BQ:=xd2.ay Vy;have z60:=dt Vy;have acC:∃τ,Row BQ oV.drew.heap.size [af,af,.slice none 0 0] τ/\Q.tX≠τ:=⟨36,by rw [Vy];exact Row.new oV.drew [_,_,_] _,by decide⟩;obtain ⟨τq,acC,oq⟩:=acC;rw [Vw];refine (Q.vX (hqo.ext Bu) qZ aa y (c5+bQ (eB S.1 y))).mono ?_;rintro e yY ⟨⟨s',rfl,af4⟩,pn⟩;have z61:=pn.size;have af5:=Bu.tr pn;refine ⟨_,_,s',_,rfl,pn.heap aa,pn.heap aa,pn.heap aa,pn.heap aa,pn.heap aa,(Mv.ext af5).aY (o:=13) (λj hj=>by
     match j,hj with
     |0,_=>rfl),λsI Fu sJ QU=> ?_⟩
    have af6:aj 0 Q.tX 4 sI s' ((fc qj y (c5+bQ (eB S.1 y))).1.l.map cN):=by
     refine aj.bM af4 λg hg=> ?_
     obtain ⟨cs',hr'⟩:=aM af4 aC hg;rw [Fu,setRow_other _ _ _ _ (hr'.ne (acC.ext pn) oq)]
    have xx:Ext wr sI:=af5.ab Fu aa;have hra66:=Mv.ext xx;have z66:=mC Fu;have z67:=mC QU;refine ⟨n-1,by omega,rfl,rfl,rfl,j+1,_,s',wk,by omega,rfl,rfl,rfl,rfl,rfl,rfl,rfl,rfl,rfl,by rw [CO],by rw [CO],rfl,rfl,rfl,rfl,rfl,by rw [j2,jc,<-Qa];rfl,NA qZ y,?_,(hT.ext xx).box QU ⟨by omega,by omega⟩,(hG.ext xx).box QU ⟨by omega,by omega⟩,aj.bM (hnear.ext xx) (λg hg=>by have:=(hnear.own.lt hg).1;rw [QU,setRow_other _ _ _ _ aa]),(xw.tr xx).ab QU (ax _),⟨csb,(hrb.ext xx).same (by rw [QU,setRow_other _ _ _ _ nbox])⟩,by omega,by rw [CO,QU];exact Row.set hra66 _⟩;rw [CO];refine aj.bM af6 λg hg=> ?_
    obtain ⟨cs',hr'⟩:=aM af6 aC hg;rw [QU,setRow_other _ _ _ _ (hr'.ne hra66 ot.symm)]
  ·have QR:¬decide (0<bQ (eB S.1 y))=true:=by simpa using QR
   have CO:uC (eB S.1) c5 qj y=qj:=by unfold uC;rw [if_neg QR]
   exact ⟨n-1,by omega,rfl,rfl,rfl,j+1,qj,c3,wk,by omega,rfl,rfl,rfl,rfl,rfl,rfl,rfl,rfl,rfl,rfl,rfl,rfl,rfl,rfl,rfl,rfl,by rw [j2,jc,<-Qa];exact CO.symm,qZ,hqo.ext mc,hT.ext mc,hG.ext mc,hnear.ext mc,xw.tr mc,⟨csb,hrb.ext mc⟩,by omega,Mv.ext mc⟩
 ·replace eF:=eX eF;have hj7:(c::iI c).take j=c::iI c:=cZ (by have:(c::iI c).length=7:=rfl;omega);rw [hj7] at Qa;subst Qa;intro JU VX;refine ⟨t1,t2,t3,t4,c3,rfl,⟨(hT.box VX ⟨by omega,by omega⟩).out,(hG.box VX ⟨by omega,by omega⟩).out,aj.bM hqo λg hg=> ?_,qZ⟩,xw.ab VX aa⟩;obtain ⟨cs',hr'⟩:=aM hqo aC hg;rw [VX,setRow_other _ _ _ _ (hr'.ne hrb ot.symm)]
end
end Go.Proofs.YtalpkjfpmdpbiaaGreatDoor
