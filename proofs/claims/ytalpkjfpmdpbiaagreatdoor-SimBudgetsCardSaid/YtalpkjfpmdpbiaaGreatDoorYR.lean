import Derived.Test.YtalpkjfpmdpbiaaGreatDoorYQ
import Derived.Test.YtalpkjfpmdpbiaaGreatDoorQB
import Derived.Test.YtalpkjfpmdpbiaaGreatDoorWB
set_option linter.all false
namespace Go.Proofs.YtalpkjfpmdpbiaaGreatDoor
open Go Go.Vc Go.RowKit Go.Proofs Go.dQ Go.bf Go.Code Go.ks Go.jd
set_option maxRecDepth 100000
def iI(c c':Ce)(a b d:Int)(he:c'=(c.1+a,c.2.1+b,c.2.2+d))(hc:dB c)(ha:(-1<=a/\a<=1)/\(-1<=b/\b<=1)/\-1<=d/\d<=1)(w:World):ah 100 #[iS c,a,b,d] w λe w'=>e=(iS c')/\Ext w w':=by subst he;apply R0.vc;obtain ⟨⟨h1,h2⟩,⟨h3,h4⟩,h5,h6⟩:=id hc;have q1:ai (c.1+a)=c.1+a:=wI;have q2:ai (c.2.1+b)=c.2.1+b:=wI;have q3:ai (c.2.2+d)=c.2.2+d:=wI;intro w0 e0 w1 e1 w2 e2;rw [q1,q2,q3];exact ⟨rfl,((bq e0).ay e1).ab e2 (by rw [e0];simp)⟩
def Ek(c:Ce)(hc:dB c)(w:World):ah 55 #[iS c] w λe w'=>∃s:Sl,e=s/\ak w iE 3 w' s ((c::iF c).map ef)/\Ext w w':=by
 apply KL.vc;intro w0 e0;have x0:Ext w w0.drew:=(bq e0).tr (Ext.dr w0);have z0:w0.drew.heap.size=w.heap.size+1:=by show w0.heap.size=_;rw [e0];simp
 have r0:Row w0.drew w (ef c) iE:=(by rw [e0];exact Row.new w [_,_,_] _:Row w0 w _ iE).ext (Ext.dr w0);refine (iI c (c.1-1,c.2.1,c.2.2) (-1) 0 0 (jJ aa aa aa) hc aE w0.drew).mono ?_;rintro e w1 ⟨rfl,x1⟩;have z1:=x1.size;have r1:=Lo.wv (r0.ext x1);refine ⟨_,_,_,rfl,x1.heap aa,r1,r1,r1,r1,r1,r1,(iI c (c.1+1,c.2.1,c.2.2) 1 0 0 (jJ aa aa aa) hc aE w1).mono ?_⟩;rintro e w5 ⟨rfl,x5⟩;have y5:=x1.tr x5;have z5:=y5.size;have r5:=Lo.wv (r0.ext y5);refine ⟨_,_,_,rfl,x5.heap aa,r5,r5,r5,r5,r5,(iI c (c.1,c.2.1-1,c.2.2) 0 (-1) 0 (jJ aa aa aa) hc aE w5).mono ?_⟩;rintro e w9 ⟨rfl,x9⟩;have y9:=y5.tr x9;have z9:=y9.size;have r9:=Lo.wv (r0.ext y9);refine ⟨_,_,_,rfl,x9.heap aa,r9,r9,r9,r9,(iI c (c.1,c.2.1+1,c.2.2) 0 1 0 (jJ aa aa aa) hc aE w9).mono ?_⟩;rintro e cA ⟨rfl,cD⟩;have W8:=y9.tr cD;have z13:=W8.size;have Ye:=Lo.wv (r0.ext W8);refine ⟨_,_,_,rfl,cD.heap aa,Ye,Ye,Ye,(iI c (c.1,c.2.1,c.2.2-1) 0 0 (-1) (jJ aa aa aa) hc aE cA).mono ?_⟩;rintro e cC ⟨rfl,cP⟩;have Vd:=W8.tr cP;have z17:=Vd.size;have r17:=Lo.wv (r0.ext Vd);refine ⟨_,_,_,rfl,cP.heap aa,r17,r17,(iI c (c.1,c.2.1,c.2.2+1) 0 0 1 (jJ aa aa aa) hc aE cC).mono ?_⟩;rintro e ea ⟨rfl,fW⟩;have y21:=Vd.tr fW;have z21:=y21.size;refine ⟨_,_,_,rfl,fW.heap aa,Lo.wv (r0.ext y21),λeg WG=> ?_⟩;have hr:Row eg ea (((c::iF c).map ef).flatten) iE:=Row.nw WG;refine ⟨⟨bu ea.heap.size,7,7⟩,rfl,ak.gg aa hr (by simp [iF]) (ax _) rfl (by intro r hr;obtain ⟨y,-,rfl⟩:=aR.1 hr;rfl),(x0.tr y21).ay WG⟩
def BK(b:Int)(w:World):ah 56 #[b] w λe w'=>e=Value.int .i64 (bO b)/\w'=w:=by
 apply Hm.vc;unfold bO;apply Br.mk<;>intro h
 ·rw [if_pos (by simpa using h)];exact ⟨rfl,rfl⟩
 ·rw [if_neg (by simpa using h)];have wet:ah 101 #[b] w λe w'=>e=Value.bool (fp b)/\w'=w:=by
   apply CS.vc;unfold fp;refine Br.mk (λh=>⟨?_,rfl⟩) (λh=>⟨?_,rfl⟩)
   ·have h1:=kB h;rw [decide_eq_true h1,qO];congr 2
    first|rfl|(rw [decide_eq_decide];omega)
   ·have h1:=kB h;rw [decide_eq_false h1,Mn]
  refine wet.mono ?_;rintro e w0 ⟨rfl,rfl⟩;refine ⟨_,rfl,Br.mk (λh=> ?_) (λh=> ?_)⟩
  ·rw [if_pos h];exact ⟨rfl,rfl⟩
  ·rw [if_neg (by rw [h];decide)];exact ⟨rfl,rfl⟩
end Go.Proofs.YtalpkjfpmdpbiaaGreatDoor
namespace Go.Proofs.YtalpkjfpmdpbiaaGreatDoor
open Go Go.Vc Go.RowKit Go.Proofs Go.dQ Go.bf Go.Code Go.ks Go.jd
set_option maxRecDepth 100000
abbrev XF(ag cap:Int)(d:Dk)(s1 s2 s3 s4:Sl)(q:QS)(sq:Sl)(bud now:Int)(so sd:Sl):LV:=[.int .i64 ag,.int .i64 cap,.int .i64 d.room,.int .i64 d.dt,.int .i64 d.wait,.slice s1.a s1.n s1.c,.slice s2.a s2.n s2.c,.slice s3.a s3.n s3.c,.slice s4.a s4.n s4.c,.int .i64 q.room,.int .i64 q.lost,.slice sq.a sq.n sq.c,.int .i64 bud,.int .i64 now,.slice so.a so.n so.c,.slice sd.a sd.n sd.c]
structure RS(P:Nat->Prop)(w:World)(T:Tb)(ch:List Go.jd.Cg)(q:QS)(s1 s2 s3 s4 sq:Sl):Prop where
 t:RT P w T s1 s2 s3
 g:RG P w s4 ch
 qo:ak 0 Q.tX 4 w sq (q.l.map cM)
 ok:wC q
def tY(V:Ce->Int)(now:Int)(q:QS)(n:Ce):QS:=if decide (0<bO (V n))=true then oG V now q n else q
def Tv(V:Ce->Int)(now:Int)(q:QS)(c:Ce):oB V now q c=(c::iF c).foldl (tY V now) q:=by unfold oB iN;rw [List.foldl_filter];rfl
def Dj(V:Ce->Int)(now:Int):∀(l:List Ce)(q:QS),q.lost<=(l.foldl (tY V now) q).lost/\(l.foldl (tY V now) q).lost<=q.lost+l.length
 | [],q=>⟨oF _,by simp⟩
 |n::l,q=>by
  have h1:=Dj V now l (tY V now q n)
  have h2:=vg q n (now+bO (V n))
  have h3:(tY V now q n).lost=q.lost\/(tY V now q n).lost=(eX q n (now+bO (V n))).1.lost:=by
   unfold tY;split
   ·exact .inr rfl
   ·exact .inl rfl
  simp only [jI,fR];omega
def MM{V:Ce->Int}{now:Int}{q:QS}(h:wC q)(n:Ce):wC (tY V now q n):=by
 unfold tY;split
 ·exact h.add _ _
 ·exact h
section
variable {P P':Nat->Prop} {w w' v v':World} {s s1 s2 s3 s4 sq so sd:Sl} {T:Tb} {ch:List Go.jd.Cg} {q:QS} {ag cap bud now:Int}
def nT(h:RT P w T s1 s2 s3)(ho:qS T)(q:QS)(c:Ce)(hc:mA c):ah 57 #[.agg (XF ag cap T.1 s1 s2 s3 s4 q sq bud now so sd).toArray,iS c] w λe w'=>e=Value.int .i64 (ey T.2 c)/\Ext w w':=by
 apply (Tf.vc (aK:=s1) (aL:=s2) (aH:=s3) (bM:=s4) (cz:=sq) (bX:=so) (bY:=sd));intro w0 e0 w1 e1;have x1:Ext w w1:=(bq e0).ay e1;have z0:=du e0;have z1:w1.heap.size=w.heap.size+2:=by rw [e1];simp [z0]
 refine (zC (ag:=ag) (cap:=cap) (h.ext x1) ho c hc).mono ?_;rintro e w2 ⟨rfl,x2⟩;exact ⟨_,rfl,x2.heap aa,x2.heap aa,rfl,x1.tr x2⟩
def ET(h:RS P w T ch q s1 s2 s3 s4 sq)(hP:Fw P w)(ho:qS T)(hn:ch.length<=900000)(hl:0<=q.lost/\q.lost<=900000)(TJ:0<=now/\now<=1099511627776)(c:Ce)(hc:dB c)(b:Int):
  ah 26 #[.agg (XF ag cap T.1 s1 s2 s3 s4 q sq bud now so sd).toArray,iS c,b] w λe w'=>∃IJ E1 IK X5 sq':Sl,e=Value.tuple #[.agg (XF ag cap T.1 IJ E1 IK X5 (if (cj T.2 c b).2=0 then oB (ey (cj T.2 c b).1) now q c else q) sq' bud now so sd).toArray,.int .i64 (cj T.2 c b).2]/\RS P w' (T.1,(cj T.2 c b).1) (xe T.2 ch c b) (if (cj T.2 c b).2=0 then oB (ey (cj T.2 c b).1) now q c else q) IJ E1 IK X5 sq'/\Ext w w':=by
 apply (Lk.vc (aK:=s1) (aL:=s2) (aH:=s3) (bM:=s4) (cz:=sq) (bX:=so) (bY:=sd));intro w0 e0 w1 e1 w2 e2;have x2:Ext w w2:=((bq e0).ay e1).ay e2;have z0:=du e0;have z1:w1.heap.size=w.heap.size+2:=by rw [e1];simp [z0]
 have z2:w2.heap.size=w.heap.size+3:=by rw [e2];simp [z1]
 have Jm:Row w2 w (XF ag cap T.1 s1 s2 s3 s4 q sq bud now so sd) bU:=((by rw [e0];exact Row.new w [_,_,_,_,_,_,_,_,_,_,_,_,_,_,_,_] _:Row w0 w _ bU).ext (bq e1)).ext (bq e2);have IM:Row w2 w1 [af,af,af,af,af,.slice none 0 0,.slice none 0 0,.slice none 0 0,.slice none 0 0,af,af,.slice none 0 0,af,af,.slice none 0 0,.slice none 0 0] bU:=Row.nw e2;have qH:=h.t.nN x2 w2;have hG2:=h.g.nN x2 w2;have Qi:=hP.bx x2 (ax _);refine (Gu (ag:=ag) (cap:=cap) qH hG2 Qi ho aa c hc.ok b).mono ?_;rintro e w3 ⟨t1,t2,t3,t4,rfl,h3,g3,x3⟩;have z3:=x3.size;refine ⟨_,_,_,_,_,t1,t2,t3,t4,_,rfl,x3.heap aa,x3.heap aa,x3.heap aa,λcm nu cS A1 dy yH=> ?_⟩;have bA:Ext w3 cS:=(bq nu).ab A1 (ax _);have z15:=kC nu A1;have z16:=mL yH;have h16:=(h3.ext bA).box yH ⟨by omega,by omega⟩;have g16:=(g3.ext bA).box yH ⟨by omega,by omega⟩;have cY:Ext w dy:=(x2.tr (x3.tr bA)).ab yH (ax _);have alk:Row dy w (XF ag cap T.1 t1 t2 t3 t4 q sq bud now so sd) bU:=by rw [yH];exact Row.set (Jm.ext (x3.tr bA)) _
 have q16:=h.qo.ext cY;have nbox:w1.heap.size≠w:=by omega
 have alm:∃cs,Row dy w1 cs bU:=⟨_,(IM.ext (x3.tr bA)).same (by rw [yH,setRow_other _ _ _ _ nbox])⟩;have ot:bU≠Q.tX:=by decide
 refine Br.mk (λhb=>λcC pX=> ?_) (λhb=> ?_)
 ·have hb:¬(cj T.2 c b).2=0:=by simpa using hb
  rw [if_neg hb];have hk:∀g,sq.bg=some g->g<w.heap.size:=λg hg=>(h.qo.own.lt hg).2
  exact ⟨t1,t2,t3,t4,sq,rfl,⟨(h16.box pX ⟨by omega,by omega⟩).out,(g16.box pX ⟨by omega,by omega⟩).out,ak.bP q16 λg hg=>by have:=hk g hg;rw [pX,setRow_other _ _ _ _ aa],h.ok⟩,cY.ab pX aa⟩
 have hb:(cj T.2 c b).2=0:=by simpa using hb
 rw [if_pos hb,Tv,hb];have gp:=DZ ho c b;generalize cj T.2 c b=S at*;refine (Ek c hc dy).mono ?_;rintro e dJ ⟨oW,rfl,Qo,cn⟩;have z18:=cn.size;have eZ:=Qo.rd (show 0<3 by decide);have ahY:oW.n=7:=eZ.n;refine ⟨oW,rfl,cn.heap aa,cn.heap aa,cn.heap aa,cn.heap aa,λn x a1 a2 a3 a4 a5 b1 b2 b3 b4 c1 c2 c3 c4 c5 c6 c7 wr=>∃(j:Nat)(qj:QS)(sj:Sl),x=j/\j+n=7/\a1=ag/\a2=cap/\a3=T.1.room/\a4=T.1.dt/\a5=T.1.wait/\b1=⟨t1.a,t1.n,t1.c⟩/\b2=⟨t2.a,t2.n,t2.c⟩/\b3=⟨t3.a,t3.n,t3.c⟩/\b4=⟨t4.a,t4.n,t4.c⟩/\c1=qj.room/\c2=qj.lost/\c3=sj/\c4=bud/\c5=now/\c6=⟨so.a,so.n,so.c⟩/\c7=⟨sd.a,sd.n,sd.c⟩/\qj=((c::iF c).take j).foldl (tY (ey S.1) now) q/\wC qj/\ak 0 Q.tX 4 wr sj (qj.l.map cM)/\RT (Bx P w.heap.size w2) wr (T.1,S.1) t1 t2 t3/\RG (Bx P w.heap.size w2) wr t4 (xe T.2 ch c b)/\ak dy iE 3 wr oW ((c::iF c).map ef)/\Ext w wr/\(∃cs,Row wr w1 cs bU)/\dJ.heap.size<=wr/\Row wr w (XF ag cap T.1 t1 t2 t3 t4 qj sj bud now so sd) bU,⟨7,rfl,rfl,rfl,0,q,sq,rfl,rfl,rfl,rfl,rfl,rfl,rfl,rfl,rfl,rfl,rfl,rfl,rfl,rfl,rfl,rfl,rfl,rfl,rfl,h.ok,q16.ext cn,h16.ext cn,g16.ext cn,Qo,cY.tr cn,(by obtain ⟨cs,wY⟩:=alm;exact ⟨cs,wY.ext cn⟩),ax _,alk.ext cn⟩,?_⟩;rintro n us x a1 a2 a3 a4 a5 b1 b2 b3 b4 c1 c2 c3 c4 c5 c6 c7 wr ⟨j,qj,sj,rfl,hj,rfl,rfl,rfl,rfl,rfl,rfl,rfl,rfl,rfl,rfl,rfl,rfl,rfl,rfl,rfl,rfl,Pt,qI,hqo,hT,hG,hnear,xw,⟨csb,hrb⟩,zr,Vh⟩;apply Br.mk<;>intro fi
 ·replace fi:=fj fi;obtain ⟨y,hy⟩:=bh (l:=c::iF c) (i:=j) (by have:(c::iF c).length=7:=rfl;omega);have oky:mA y:=by
   rcases bI.1 (bc hy) with rfl|h
   ·exact hc.ok
   ·exact v9 hc h
  have hy':((c::iF c).map ef)[j]? =some (ef y):=by rw [aX,hy];rfl
  have kJ:(c::iF c).take (j+1)=(c::iF c).take j++ [y]:=by rw [cu,hy];rfl
  have wk:=lD (j:=j);have abO:=hnear.rd (show 0<3 by decide);have xd:=Ext.dr wr;have zd:=lW wr;have cV:=abO.fN (i:=(j:Int)) aE aa fi;refine ⟨cV,_,_,_,(abO.ext xd).bk hy',(nT (ag:=a1) (cap:=a2) (s4:=t4) (sq:=c3) (bud:=c4) (now:=c5) (so:=so) (sd:=sd) (hT.ext xd) gp qj y oky).mono ?_⟩;rintro e Dr ⟨rfl,lj⟩;have z45:=lj.size;refine ⟨_,rfl,lj.heap aa,lj.heap aa,lj.heap aa,lj.heap aa,(BK (ey S.1 y) Dr).mono ?_⟩;rintro e oO ⟨rfl,aln⟩;subst aln;have ma:=xd.tr lj;have hd:=Hd (ey S.1 y);have UR:ai (c5+bO (ey S.1 y))=c5+bO (ey S.1 y):=wI;have hlost:=Dj (ey S.1) c5 ((c::iF c).take j) q;have aiy:((c::iF c).take j).length<=7:=by rw [bG];omega
  rw [<-Pt] at hlost;refine ⟨_,rfl,rfl,rfl,rfl,rfl,Br.mk (λQn=> ?_) (λQn=> ?_)⟩
  ·have Qn:decide (0<bO (ey S.1 y))=true:=by simpa using Qn
   have Co:tY (ey S.1) c5 qj y=(eX qj y (c5+bO (ey S.1 y))).1:=by unfold tY;rw [if_pos Qn]
   have xd2:=ma.tr (Ext.dr oO);have zd2:=lW oO;refine ⟨cV,_,_,_,(abO.ext xd2).bk hy',?_,λBo US=> ?_⟩
   ·rw [UR];refine (Q.vu (hqo.ext xd2) qI aa y (c5+bO (ey S.1 y))).mono ?_;rintro e Jr ⟨⟨s',rfl,alo⟩,wS⟩;have z52:=wS.size;have afy:=xd2.tr wS;refine ⟨_,_,s',_,rfl,wS.heap aa,wS.heap aa,wS.heap aa,wS.heap aa,(Vh.ext afy).bk (o:=13) (λj hj=>by
     match j,hj with
     |0,_=>rfl),λU4 e57 A8 e58 WU Yx=> ?_⟩
    have oP:Ext Jr A8:=(bq e57).ab e58 (ax _);have z58:=oP.size;have xx:=afy.tr oP;have afz:=alo.ext oP;have hra58:=Vh.ext xx;have z59:=mL Yx;refine ⟨n-1,by omega,rfl,rfl,rfl,j+1,_,s',wk,by omega,rfl,rfl,rfl,rfl,rfl,rfl,rfl,rfl,rfl,by rw [Co],by rw [Co],rfl,rfl,rfl,rfl,rfl,by rw [kJ,iY,<-Pt];rfl,MM qI y,?_,(hT.ext xx).box Yx ⟨by omega,by omega⟩,(hG.ext xx).box Yx ⟨by omega,by omega⟩,ak.bP (hnear.ext xx) (λg hg=>by have:=(hnear.own.lt hg).1;rw [Yx,setRow_other _ _ _ _ aa]),(xw.tr xx).ab Yx (ax _),⟨csb,(hrb.ext xx).same (by rw [Yx,setRow_other _ _ _ _ nbox])⟩,by omega,by rw [Co,Yx];exact Row.set hra58 _⟩;rw [Co];refine ak.bP afz λg hg=> ?_
    obtain ⟨cs',hr'⟩:=aN afz aE hg;rw [Yx,setRow_other _ _ _ _ (hr'.ne hra58 ot.symm)]
   ·have A6:Ext wr Bo:=xd2.ay US;have z60:=du US;have abP:∃τ,Row Bo oO.drew.heap.size [af,af,.slice none 0 0] τ/\Q.tX≠τ:=⟨36,by rw [US];exact Row.new oO.drew [_,_,_] _,by decide⟩;obtain ⟨τq,abP,oq⟩:=abP;rw [UR];refine (Q.vu (hqo.ext A6) qI aa y (c5+bO (ey S.1 y))).mono ?_;rintro e yG ⟨⟨s',rfl,afA⟩,pa⟩;have z61:=pa.size;have afB:=A6.tr pa;refine ⟨_,_,s',_,rfl,pa.heap aa,pa.heap aa,pa.heap aa,pa.heap aa,pa.heap aa,(Vh.ext afB).bk (o:=13) (λj hj=>by
     match j,hj with
     |0,_=>rfl),λsy Qh um Qp=> ?_⟩
    have afC:ak 0 Q.tX 4 sy s' ((eX qj y (c5+bO (ey S.1 y))).1.l.map cM):=by
     refine ak.bP afA λg hg=> ?_
     obtain ⟨cs',hr'⟩:=aN afA aE hg;rw [Qh,setRow_other _ _ _ _ (hr'.ne (abP.ext pa) oq)]
    have xx:Ext wr sy:=afB.ab Qh aa;have hra66:=Vh.ext xx;have z66:=mL Qh;have z67:=mL Qp;refine ⟨n-1,by omega,rfl,rfl,rfl,j+1,_,s',wk,by omega,rfl,rfl,rfl,rfl,rfl,rfl,rfl,rfl,rfl,by rw [Co],by rw [Co],rfl,rfl,rfl,rfl,rfl,by rw [kJ,iY,<-Pt];rfl,MM qI y,?_,(hT.ext xx).box Qp ⟨by omega,by omega⟩,(hG.ext xx).box Qp ⟨by omega,by omega⟩,ak.bP (hnear.ext xx) (λg hg=>by have:=(hnear.own.lt hg).1;rw [Qp,setRow_other _ _ _ _ aa]),(xw.tr xx).ab Qp (ax _),⟨csb,(hrb.ext xx).same (by rw [Qp,setRow_other _ _ _ _ nbox])⟩,by omega,by rw [Co,Qp];exact Row.set hra66 _⟩;rw [Co];refine ak.bP afC λg hg=> ?_
    obtain ⟨cs',hr'⟩:=aN afC aE hg;rw [Qp,setRow_other _ _ _ _ (hr'.ne hra66 ot.symm)]
  ·have Qn:¬decide (0<bO (ey S.1 y))=true:=by simpa using Qn
   have Co:tY (ey S.1) c5 qj y=qj:=by unfold tY;rw [if_neg Qn]
   exact ⟨n-1,by omega,rfl,rfl,rfl,j+1,qj,c3,wk,by omega,rfl,rfl,rfl,rfl,rfl,rfl,rfl,rfl,rfl,rfl,rfl,rfl,rfl,rfl,rfl,rfl,by rw [kJ,iY,<-Pt];exact Co.symm,qI,hqo.ext ma,hT.ext ma,hG.ext ma,hnear.ext ma,xw.tr ma,⟨csb,hrb.ext ma⟩,by omega,Vh.ext ma⟩
 ·replace fi:=fh fi;have hj7:(c::iF c).take j=c::iF c:=dn (by have:(c::iF c).length=7:=rfl;omega);rw [hj7] at Pt;subst Pt;intro Jh Vk;refine ⟨t1,t2,t3,t4,c3,rfl,⟨(hT.box Vk ⟨by omega,by omega⟩).out,(hG.box Vk ⟨by omega,by omega⟩).out,ak.bP hqo λg hg=> ?_,qI⟩,xw.ab Vk aa⟩;obtain ⟨cs',hr'⟩:=aN hqo aE hg;rw [Vk,setRow_other _ _ _ _ (hr'.ne hrb ot.symm)]
end
end Go.Proofs.YtalpkjfpmdpbiaaGreatDoor
