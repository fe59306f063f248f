import Derived.Test.YtalpkjfpmdpbiaaGreatDoorKT
import Derived.Test.YtalpkjfpmdpbiaaGreatDoorGF
import Derived.Test.YtalpkjfpmdpbiaaGreatDoorP
import Derived.Test.YtalpkjfpmdpbiaaGreatDoorWA
set_option linter.all false
namespace Go.Proofs.YtalpkjfpmdpbiaaGreatDoor
open Go Go.Vc Go.RowKit Go.Proofs Go.dQ Go.bf Go.Code Go.jd
def dB(c:Ce):Prop:=(-2000000000<=c.1/\c.1<=2000000000)/\(-2000000000<=c.2.1/\c.2.1<=2000000000)/\-2000000000<=c.2.2/\c.2.2<=2000000000
def nS(c:Ce):Prop:=(-1000000000<=c.1/\c.1<=1000000000)/\(-1000000000<=c.2.1/\c.2.1<=1000000000)/\-1000000000<=c.2.2/\c.2.2<=1000000000
def dB.ok{c:Ce}(h:dB c):mA c:=by unfold dB at h;unfold mA inI;omega
def nS.wide{c:Ce}(h:nS c):dB c:=by unfold nS at h;unfold dB;omega
def v9{c:Ce}(h:dB c){n:Ce}(hn:n ∈ iF c):mA n:=by unfold dB at h;unfold iF bz ir at hn;simp only [bI,fS,or_false] at hn;rcases hn with rfl|rfl|rfl|rfl|rfl|rfl<;>(unfold mA inI;simp only;omega)
def V8{c:Ce}(h:nS c){n:Ce}(hn:n ∈ iF c):dB n:=by unfold nS at h;unfold iF bz ir at hn;simp only [bI,fS,or_false] at hn;rcases hn with rfl|rfl|rfl|rfl|rfl|rfl<;>(unfold dB;simp only;omega)
def nj(n:Int)(h: -2147483648<=n/\n<=2147483648)(w:World):ah 143 #[n] w λe w'=>e=n/\w'=w:=by apply Q0.vc;have e1:(if (-2147483648)>n then (-2147483648) else n)=n:=if_neg aa;rw [e1,if_neg aa];exact ⟨rfl,rfl⟩
def Tg(c:Ce)(h:(-2147483648<=c.1/\c.1<=2147483648)/\(-2147483648<=c.2.1/\c.2.1<=2147483648)/\-2147483648<=c.2.2/\c.2.2<=2147483648)(w:World):ah 142 #[iS c] w λe w'=>e=(iS c)/\Ext w w':=by
 apply QZ.vc;intro w0 e0 w1 e1;have x1:Ext w w1:=(bq e0).ay e1;have z0:=du e0;have r0:Row w1 w [c.1,c.2.1,c.2.2] iE:=(by rw [e0];exact Row.new w [_,_,_] _:Row w0 w _ _).ext (bq e1);have xd:=Ext.dr w1;have r1:=r0.ext xd;refine (nj c.1 h.1 w1.drew).mono ?_;rintro e w2 ⟨rfl,rfl⟩;refine ⟨_,rfl,rfl,rfl,r1.bk (o:=2) (λj hj=>by
  match j,hj with
  |0,_=>rfl),r1.bk (o:=1) (λj hj=>by
  match j,hj with
  |0,_=>rfl),(nj c.2.1 h.2.1 w1.drew).mono ?_⟩
 rintro e w4 ⟨rfl,rfl⟩;refine ⟨_,rfl,rfl,rfl,r1.bk (o:=2) (λj hj=>by
  match j,hj with
  |0,_=>rfl),(nj c.2.2 h.2.2 w1.drew).mono ?_⟩
 rintro e w6 ⟨rfl,rfl⟩;exact ⟨_,rfl,rfl,rfl,λw8 e8=>⟨rfl,(x1.tr xd).ab e8 aa⟩⟩
def jW(a b d:Int)(c c':Ce)(he:c'=(c.1+a,c.2.1+b,c.2.2+d))(hc:dB c)(ha:(-1<=a/\a<=1)/\(-1<=b/\b<=1)/\-1<=d/\d<=1){g:Nat}{w:World}(hr:Row w g [c.1,c.2.1,c.2.2] iE):
  ah 141 #[a,b,d,g] w λe w'=>e=(iS c')/\Ext w w':=by
 subst he;apply Gn.vc;obtain ⟨⟨h1,h2⟩,⟨h3,h4⟩,h5,h6⟩:=id hc;intro w0 e0;have x0:=bq e0;have z0:=du e0;have xd:=x0.tr (Ext.dr w0);have zd:=lW w0;have r1:=hr.ext xd;have q1:ai (c.1+a)=c.1+a:=wI;have q2:ai (c.2.1+b)=c.2.1+b:=wI;have q3:ai (c.2.2+d)=c.2.2+d:=wI;refine ⟨c.1,r1.at 0 rfl,c.2.1,r1.at 1 rfl,c.2.2,r1.at 2 rfl,(nj c.1 aa w0.drew).mono ?_⟩;rintro e w4 ⟨rfl,rfl⟩;refine ⟨_,rfl,rfl,lH (r1.at 2 rfl),lH (r1.at 1 rfl),(nj c.2.1 aa w0.drew).mono ?_⟩;rintro e w6 ⟨rfl,rfl⟩;refine ⟨_,rfl,rfl,lH (r1.at 2 rfl),(nj c.2.2 aa w0.drew).mono ?_⟩;rintro e w8 ⟨rfl,rfl⟩;refine ⟨_,rfl,rfl,?_⟩;rw [q1,q2,q3];refine (Tg (c.1+a,c.2.1+b,c.2.2+d) (by simp only;omega) w0.drew).mono ?_;rintro e bL ⟨rfl,br⟩;exact ⟨_,_,_,rfl,br.heap aa,λcm nu=>⟨rfl,(xd.tr br).ab nu (ax _)⟩⟩
abbrev ef(c:Ce):LV:=[.int .i64 c.1,.int .i64 c.2.1,.int .i64 c.2.2]
def AI(c:Ce):One (ef c):=by intro v hv;simp at hv;rcases hv with rfl|rfl|rfl<;>rfl
abbrev Lm(c:Ce):LV:=[.int .i64 (c.1-1),.int .i64 c.2.1,.int .i64 c.2.2,.int .i64 (c.1+1),.int .i64 c.2.1,.int .i64 c.2.2,.int .i64 c.1,.int .i64 (c.2.1-1),.int .i64 c.2.2,.int .i64 c.1,.int .i64 (c.2.1+1),.int .i64 c.2.2,.int .i64 c.1,.int .i64 c.2.1,.int .i64 (c.2.2-1),.int .i64 c.1,.int .i64 c.2.1,.int .i64 (c.2.2+1)]
def Ln(c:Ce):One (Lm c):=by intro v hv;simp only [Lm,bI,fS,or_false] at hv;rcases hv with rfl|rfl|rfl|rfl|rfl|rfl|rfl|rfl|rfl|rfl|rfl|rfl|rfl|rfl|rfl|rfl|rfl|rfl<;>rfl
def Th(c:Ce):Lm c=((iF c).map ef).flatten:=rfl
def og{cs vs:LV}(h:vs.length=cs.length):aV cs 0 vs=vs:=by rw [dA _ _ _ aa];simp [<-h]
def jJ{a b c a' b' c':Int}(h1:a=a')(h2:b=b')(h3:c=c'):((a,b,c):Ce)=(a',b',c'):=by rw [h1,h2,h3]
set_option maxRecDepth 100000 in
def lr(c:Ce)(hc:dB c)(w:World):ah 93 #[iS c] w λe w'=>e=Value.agg (Lm c).toArray/\Ext w w':=by apply NB.vc;intro w0 e0 w1 e1;have x1:Ext w w1:=(bq e0).ay e1;have z0:=du e0;have r0:Row w1 w [c.1,c.2.1,c.2.2] iE:=(by rw [e0];exact Row.new w [_,_,_] _:Row w0 w _ _).ext (bq e1);have rb:Row w1 w0 [af,af,af,af,af,af,af,af,af,af,af,af,af,af,af,af,af,af] 161:=Row.nw e1;refine (jW (-1) 0 0 c (c.1-1,c.2.1,c.2.2) (jJ aa aa aa) hc aE r0).mono ?_;rintro e w2 ⟨rfl,x2⟩;refine ⟨_,_,_,rfl,(jW 1 0 0 c (c.1+1,c.2.1,c.2.2) (jJ aa aa aa) hc aE (r0.ext x2)).mono ?_⟩;rintro e w6 ⟨rfl,x6⟩;have y6:=x2.tr x6;refine ⟨_,_,_,rfl,(jW 0 (-1) 0 c (c.1,c.2.1-1,c.2.2) (jJ aa aa aa) hc aE (r0.ext y6)).mono ?_⟩;rintro e bL ⟨rfl,br⟩;have Ug:=y6.tr br;refine ⟨_,_,_,rfl,(jW 0 1 0 c (c.1,c.2.1+1,c.2.2) (jJ aa aa aa) hc aE (r0.ext Ug)).mono ?_⟩;rintro e cm ⟨rfl,cl⟩;have y14:=Ug.tr cl;refine ⟨_,_,_,rfl,(jW 0 0 (-1) c (c.1,c.2.1,c.2.2-1) (jJ aa aa aa) hc aE (r0.ext y14)).mono ?_⟩;rintro e dJ ⟨rfl,cn⟩;have y18:=y14.tr cn;refine ⟨_,_,_,rfl,(jW 0 0 1 c (c.1,c.2.1,c.2.2+1) (jJ aa aa aa) hc aE (r0.ext y18)).mono ?_⟩;rintro e cx ⟨rfl,eY⟩;have y22:=y18.tr eY;have r22:=rb.ext y22;refine ⟨_,_,_,rfl,⟨rfl,r22.wr cy⟩,λg7 IL=> ?_⟩;have IL:g7=aZ cx (bu w0.heap.size) (Lm c):=IL;rw [r22.aZ (vs:=Lm c) cy (Ln c),og cy] at IL;have hr':Row g7 w0 (Lm c) 161:=r22.st IL;exact ⟨_,_,_,_,_,_,_,_,_,_,_,_,_,_,_,_,_,_,hr'.bk (λj hj=>by rw [cO]),rfl,(x1.tr y22).ab IL aa⟩
def ru(b:Int)(w:World):ah 94 #[b] w λe w'=>e=Value.bool (b==3)/\w'=w:=by apply GL.vc;exact ⟨rfl,rfl⟩
def mV(b:Int)(w:World):ah 134 #[b] w λe w'=>e=Value.bool (fp b)/\w'=w:=by
 apply NK.vc;unfold fp;refine Br.mk (λh=>⟨?_,rfl⟩) (λh=>⟨?_,rfl⟩)
 ·have h1:=kB h;rw [decide_eq_true h1,qO]
 ·have h1:=kB h;rw [decide_eq_false h1,Mn]
def Is(b:Int)(w:World):ah 185 #[b] w λe w'=>e=Value.bool (qv b)/\w'=w:=by
 apply D5.vc;unfold qv;refine Br.mk (λh=>⟨?_,rfl⟩) (λh=>(mV b w).mono ?_)
 ·have h1:=kB h;rw [decide_eq_true h1,Bool.true_or]
 ·rintro e w' ⟨rfl,rfl⟩;have h1:=kB h;rw [decide_eq_false h1,Bool.false_or];exact ⟨_,rfl,rfl,rfl⟩
def zR(b:Int)(w:World):ah 89 #[b] w λe w'=>e=Value.int .i64 (bO b)/\w'=w:=by
 apply J1.vc;refine (ru b w).mono ?_;rintro e w0 ⟨rfl,rfl⟩;unfold bO;refine ⟨_,rfl,Br.mk (λh=> ?_) (λh=>(mV b w0).mono ?_)⟩
 ·rw [if_pos (by simpa using h)];exact ⟨rfl,rfl⟩
 ·rintro e w2 ⟨rfl,rfl⟩;rw [if_neg (by simpa using h)];refine ⟨_,rfl,Br.mk (λh=> ?_) (λh=> ?_)⟩
  ·rw [if_pos h];exact ⟨rfl,rfl⟩
  ·rw [if_neg (by rw [h];decide)];exact ⟨rfl,rfl⟩
end Go.Proofs.YtalpkjfpmdpbiaaGreatDoor
namespace Go.Proofs.YtalpkjfpmdpbiaaGreatDoor
open Go Go.Vc Go.RowKit Go.Proofs Go.dQ Go.bf Go.Code Go.jd
def Tl(v:Value)(V:Ce->Int)(w:World):Prop:=∃D:Nat->Prop,(∀i,D i->i<w.heap.size)/\∀w',(∀i,D i->w'.heap[i]? =w.heap[i]?)->∀c,mA c->dH Tryz.prog v [iS c] w' λe w''=>e=Value.int .i64 (V c)/\Ext w' w''
def Tl.ext{v:Value}{V:Ce->Int}{w w':World}(h:Tl v V w)(x:Ext w w'):Tl v V w':=by obtain ⟨D,h1,h2⟩:=h;exact ⟨D,λi hi=>kN (h1 i hi) x.size,λw'' hk=>h2 w'' λi hi=>(hk i hi).trans (x.heap (h1 i hi))⟩
def Tl.at{v:Value}{V:Ce->Int}{w:World}(h:Tl v V w){c:Ce}(hc:mA c):dH Tryz.prog v [iS c] w λe w'=>e=Value.int .i64 (V c)/\Ext w w':=by obtain ⟨D,h1,h2⟩:=h;exact h2 w (λ_ _=>rfl) c hc
def dW{v:Value}{l:LV}{w:World}{R R':Ending->World->Prop}(h:dH Tryz.prog v l w R)(k:∀e w',R e w'->R' e w'):dH Tryz.prog v l w R':=rN h k
abbrev fq(x:Go.jd.Cg):LV:=[.int .i64 x.1.1,.int .i64 x.1.2.1,.int .i64 x.1.2.2,.int .i64 x.2]
def Ti{E k n:Nat}{w w':World}{s s':Sl}{news:LV}(h:aD E k w s n news s' w')(hc:s.c<s.n+n):Ext w w':=by
 cases h with
 |fits hf=>omega
 |vV=>exact (Ext.dr w).tr (Ext.al _ _)
set_option maxRecDepth 100000 in
def KC{v:Value}{V:Ce->Int}{w:World}(hV:Tl v V w)(c:Ce)(hc:dB c):
  ah 87 #[v,iS c] w λe w'=>∃s:Sl,e=s/\ak w iE 3 w' s ((iN V c).map ef)/\Ext w w':=by
 apply J5.vc;intro w0 e0;have x0:=bq e0;have z0:=du e0;refine (lr c hc w0).mono ?_;rintro e w1 ⟨rfl,x1⟩;have z1:=x1.size;refine ⟨_,_,_,_,_,_,_,_,_,_,_,_,_,_,_,_,_,_,rfl,x1.heap aa,λeC Bs=> ?_⟩;have dK:=bq Bs;have z20:=du Bs;have hr:Row eC w1 [af,af,af,af,af,af,af,af,af,af,af,af,af,af,af,af,af,af] 161:=Row.nw Bs;refine ⟨⟨rfl,hr.wr cy⟩,λe=>by
  have:w1.heap.size=w.heap.size:=by simpa [cQ] using e
  omega,λea uq cx A3=> ?_⟩
 have uq:ea=aZ eC (bu w1.heap.size) (Lm c):=uq;rw [hr.aZ (vs:=Lm c) cy (Ln c),og cy] at uq;have mK:Row ea w1 (Lm c) 161:=hr.st uq;have fW:Ext w ea:=(x0.tr (x1.tr dK)).ab uq aa;have z21:=mL uq;have xd:=Ext.dr ea;have zd:=lW ea;have eY:=bq A3;have z22:=du A3;have akP:Row cx ea.drew.heap.size (ef c) iE:=Row.nw A3;have akQ:=fW.tr (xd.tr eY);have aa7:=mK.ext (xd.tr eY);have ho:ak w iE 3 cx ⟨bu ea.drew.heap.size,1,1⟩ [ef c]:=ak.gg aa akP cy (ax _) rfl cy;have ha:=ho.ke (bytes:=24) (more:=(iF c).map ef) aa (λr hr=>by obtain ⟨y,-,rfl⟩:=aR.1 hr;rfl) (λr hr=>by obtain ⟨y,-,rfl⟩:=aR.1 hr;exact AI y) (by simp [iF]) (by simp [iF]);obtain ⟨hp,aS⟩:=ha;refine ⟨((iF c).map ef).flatten,?_,hp,λkL eg PD=> ?_⟩
 ·rw [eE];intro i u hu;exact aa7.at i (by rw [Th];exact hu)
 obtain ⟨ur,aet,-,-,-⟩:=aS kL eg PD;have cW:Ext cx eg:=Ti PD (show (1:Nat)<1+(6-0) by decide);have z25:=cW.size;have aeZ:Ext w eg:=akQ.tr cW;have ur:ak w iE 3 eg kL ((c::iF c).map ef):=ur;have eZ:=ur.rd (show 0<3 by decide);have aqL:kL.n=7:=eZ.n;refine ⟨cW.heap aa,cW.heap aa,λn x gP ig=>∃j:Nat,x=j/\j+n=7/\ak eg iE 3 ig gP ((((c::iF c).take j).filter λn=>decide (0<bO (V n))).map ef)/\Ext eg ig,⟨7,rfl,rfl,0,rfl,rfl,ak.nil,Ext.ck _⟩,?_⟩;rintro n us x gP ig ⟨j,rfl,hj,LU,iK⟩;have z31:=iK.size;apply Br.mk<;>intro hb
 ·replace hb:=fj hb;obtain ⟨y,hy⟩:=bh (l:=c::iF c) (i:=j) (by have:(c::iF c).length=7:=rfl;omega);have TC:y ∈ c::iF c:=bc hy;have oky:mA y:=by
   rcases bI.1 TC with rfl|h
   ·exact hc.ok
   ·exact v9 hc h
  have hy':((c::iF c).map ef)[j]? =some (ef y):=by rw [aX,hy];rfl
  have kJ:(c::iF c).take (j+1)=(c::iF c).take j++ [y]:=by rw [cu,hy];rfl
  refine ⟨eZ.fN (i:=(j:Int)) aE aa hb,_,_,_,(eZ.ext iK).bk hy',λnv IH jj Pu=> ?_⟩;have gd:Ext ig jj:=(bq IH).ab Pu (ax _);have z37:=kC IH Pu;refine dW ((hV.ext (aeZ.tr (iK.tr gd))).at oky) ?_;rintro e qx ⟨rfl,ja⟩;have z38:=ja.size;refine ⟨_,rfl,ja.heap aa,ja.heap aa,ja.heap aa,(zR (V y) qx).mono ?_⟩;rintro e iQ ⟨rfl,rfl⟩;have wk:=lD (j:=j);refine ⟨_,rfl,rfl,rfl,rfl,?_⟩;have ae0:=LU.ext (gd.tr ja);apply Br.mk<;>intro hd
  ·intro np U0;subst U0;have aqM:gP.n<=7:=by have h1:=(LU.rd (show 0<3 by decide)).n;have h2:=CF (λn=>decide (0<bO (V n))) ((c::iF c).take j);rw [aB] at h1;rw [bG] at h2;omega
   obtain ⟨Pv,hres8⟩:=ae0.kD (bytes:=24) (news:=ef y) (.cells #[y.1,y.2.1,y.2.2] iE) aa rfl (AI y) aa aa;refine ⟨Pv,λTH jz Uy=> ?_⟩;obtain ⟨f8,wO,hn8,x8,UT,-⟩:=hres8 TH jz Uy;have xa:=Ext.al iQ (.cells #[y.1,y.2.1,y.2.2] iE);have Z9:∀b,gP.bg=some b->eg.heap.size<=b/\b<ig.heap.size:=λb hb=>LU.own.lt hb
   have kp:∀j,(j<eg.heap.size\/ig.heap.size<=j)->j<iQ.heap.size->jz.heap[j]? =(iQ.alloc (.cells #[y.1,y.2.1,y.2.2] iE)).heap[j]? :=λj hj hj2=>by rw [UT j (λhb=>by have:=Z9 j hb;omega) hj2,xa.heap hj2]
   refine ⟨kp _ (.inl aa) aa,kp _ (.inl aa) aa,kp _ (.inr aa) aa,f8,n-1,by omega,rfl,rfl,j+1,wk,by omega,?_,(Below.trans (iK.tr (gd.tr ja)) x8:Below eg eg jz)⟩;rw [kJ,sP,aT,Xx (by simpa using hd)];exact wO
  ·refine ⟨n-1,by omega,rfl,rfl,j+1,wk,by omega,?_,iK.tr (gd.tr ja)⟩;rw [kJ,sP,aT,QP (by simpa using hd)];simpa using ae0
 ·replace hb:=fh hb;have hj7:(c::iF c).take j=c::iF c:=dn (by have:(c::iF c).length=7:=rfl;omega);rw [hj7] at LU;exact ⟨gP,rfl,LU.low aa,aeZ.tr iK⟩
def JS(c:Ce):((Lm c).drop ((2:Int).toNat*3)).take 3=ef (bz c):=rfl
set_option maxRecDepth 100000 in
def Nv{v:Value}{V:Ce->Int}{w:World}(hV:Tl v V w)(c:Ce)(hc:dB c):
  ah 138 #[v,iS c] w λe w'=>∃s:Sl,e=s/\ak w eT 4 w' s ((pr V c).map fq)/\Ext w w':=by
 apply NC.vc;intro w0 e0;have x0:=bq e0;have z0:=du e0;refine (lr c hc w0).mono ?_;rintro e w1 ⟨rfl,x1⟩;have z1:=x1.size;have okl:mA (bz c):=v9 hc (by simp [iF]);refine ⟨_,_,_,_,_,_,_,_,_,_,_,_,_,_,_,_,_,_,rfl,x1.heap aa,by decide,_,_,_,JS c,λgi Jk fu Qj=> ?_⟩;have di:Ext w1 fu:=(bq Jk).ab Qj (ax _);have z24:=kC Jk Qj;have abE:=x0.tr (x1.tr di);refine dW ((hV.ext abE).at okl) ?_;rintro e eg ⟨rfl,cW⟩;have z25:=cW.size;refine ⟨_,rfl,cW.heap aa,cW.heap aa,(Is (V (bz c)) eg).mono ?_⟩;rintro e jb ⟨rfl,rfl⟩;unfold pr;refine ⟨_,rfl,rfl,rfl,Br.mk (λh=> ?_) (λh=>λfJ MQ=> ?_)⟩
 ·rw [if_neg (by simpa using h)];exact ⟨⟨none,0,0⟩,rfl,ak.nil,abE.tr cW⟩
 ·rw [if_pos (by simpa using h)];have hr:Row fJ jb (([(c,V (bz c)),(bz c,3)]:List Go.jd.Cg).map fq).flatten eT:=Row.nw MQ;exact ⟨⟨bu jb.heap.size,2,2⟩,rfl,ak.gg aa hr (ax _) (ax _) rfl (by intro r hr;simp at hr;rcases hr with rfl|rfl<;>rfl),(abE.tr cW).ay MQ⟩
end Go.Proofs.YtalpkjfpmdpbiaaGreatDoor
