import Derived.Test.YtkkkfkopcfdmaaaGreatDoorG
import Derived.Test.YtkkkfkopcfdmaaaGreatDoorD
import Derived.Test.YtkkkfkopcfdmaaaGreatDoorF
set_option linter.all false
namespace Go.Proofs.YtkkkfkopcfdmaaaGreatDoor
open Go Go.Vc Go.RowKit Go.Proofs Go.dK Go.bf Go.Code Go.fV
def eQ (c:Ce):Prop:=(-2000000000<=c.1/\c.1<=2000000000)/\(-2000000000<=c.2.1/\c.2.1<=2000000000)/\-2000000000<=c.2.2/\c.2.2<=2000000000
def yV (c:Ce):Prop:=(-1000000000<=c.1/\c.1<=1000000000)/\(-1000000000<=c.2.1/\c.2.1<=1000000000)/\-1000000000<=c.2.2/\c.2.2<=1000000000
theorem eQ.ok {c:Ce} (h:eQ c):oM c:=by unfold eQ at h;unfold oM bS;omega
theorem yV.wide {c:Ce} (h:yV c):eQ c:=by unfold yV at h;unfold eQ;omega
theorem Df {c:Ce} (h:eQ c) {n:Ce} (hn:n ∈ pw c):oM n:=by unfold eQ at h;unfold pw eX Bh at hn;simp only [cH,jR,or_false] at hn;rcases hn with rfl|rfl|rfl|rfl|rfl|rfl<;>(unfold oM bS;simp only;omega)
theorem acS {c:Ce} (h:yV c) {n:Ce} (hn:n ∈ pw c):eQ n:=by unfold yV at h;unfold pw eX Bh at hn;simp only [cH,jR,or_false] at hn;rcases hn with rfl|rfl|rfl|rfl|rfl|rfl<;>(unfold eQ;simp only;omega)
theorem qd (n:Int) (h: -2147483648<=n/\n<=2147483648) (w:World):ah 220 #[n] w λe w'=>e=n/\w'=w:=by apply XF.vc;have e1:(if (-2147483648)>n then (-2147483648) else n)=n:=if_neg aa;rw [e1,if_neg aa];exact ⟨rfl,rfl⟩
theorem Zj (c:Ce) (h:(-2147483648<=c.1/\c.1<=2147483648)/\(-2147483648<=c.2.1/\c.2.1<=2147483648)/\-2147483648<=c.2.2/\c.2.2<=2147483648) (w:World):ah 210 #[ea c] w λe w'=>e=(ea c)/\Ext w w':=by
 apply XE.vc;intro w0 e0 w1 e1;have x1:Ext w w1:=(aL e0).bB e1;have z0:=eN e0;have r0:Row w1 w [c.1,c.2.1,c.2.2] pr:=(by rw [e0];exact Row.new w [_,_,_] _:Row w0 w _ _).ext (aL e1);have xd:=Ext.dr w1;have r1:=r0.ext xd;refine (qd c.1 h.1 w1.drew).mono ?_;rintro e w2 ⟨rfl,rfl⟩;refine ⟨_,rfl,rfl,rfl,r1.bY (o:=2) (λj hj=>by
  match j,hj with
  |0,_=>rfl),r1.bY (o:=1) (λj hj=>by
  match j,hj with
  |0,_=>rfl),(qd c.2.1 h.2.1 w1.drew).mono ?_⟩
 rintro e w4 ⟨rfl,rfl⟩;refine ⟨_,rfl,rfl,rfl,r1.bY (o:=2) (λj hj=>by
  match j,hj with
  |0,_=>rfl),(qd c.2.2 h.2.2 w1.drew).mono ?_⟩
 rintro e w6 ⟨rfl,rfl⟩;exact ⟨_,rfl,rfl,rfl,λw8 e8=>⟨rfl,(x1.tr xd).af e8 aa⟩⟩
theorem k9 (a b d:Int) (c c':Ce) (he:c'=(c.1+a,c.2.1+b,c.2.2+d)) (hc:eQ c) (ha:(-1<=a/\a<=1)/\(-1<=b/\b<=1)/\-1<=d/\d<=1) {g:Nat} {w:World} (hr:Row w g [c.1,c.2.1,c.2.2] pr):
  ah 219 #[a,b,d,g] w λe w'=>e=(ea c')/\Ext w w':=by
 subst he;apply KV.vc;obtain ⟨⟨h1,h2⟩,⟨h3,h4⟩,h5,h6⟩:=id hc;intro w0 e0;have x0:=aL e0;have z0:=eN e0;have xd:=x0.tr (Ext.dr w0);have zd:=lv w0;have r1:=hr.ext xd;have q1:aj (c.1+a)=c.1+a:=wI;have q2:aj (c.2.1+b)=c.2.1+b:=wI;have q3:aj (c.2.2+d)=c.2.2+d:=wI;refine ⟨c.1,r1.at 0 rfl,c.2.1,r1.at 1 rfl,c.2.2,r1.at 2 rfl,(qd c.1 aa w0.drew).mono ?_⟩;rintro e w4 ⟨rfl,rfl⟩;refine ⟨_,rfl,rfl,nS (r1.at 2 rfl),nS (r1.at 1 rfl),(qd c.2.1 aa w0.drew).mono ?_⟩;rintro e w6 ⟨rfl,rfl⟩;refine ⟨_,rfl,rfl,nS (r1.at 2 rfl),(qd c.2.2 aa w0.drew).mono ?_⟩;rintro e w8 ⟨rfl,rfl⟩;refine ⟨_,rfl,rfl,?_⟩;rw [q1,q2,q3];refine (Zj (c.1+a,c.2.1+b,c.2.2+d) (by simp only;omega) w0.drew).mono ?_;rintro e bD ⟨rfl,bj⟩;exact ⟨_,_,_,rfl,bj.heap aa,λbK uy=>⟨rfl,(xd.tr bj).af uy (aB _)⟩⟩
abbrev du (c:Ce):LV:=[.int .i64 c.1,.int .i64 c.2.1,.int .i64 c.2.2]
theorem As (c:Ce):One (du c):=by intro v hv;simp at hv;rcases hv with rfl|rfl|rfl<;>rfl
abbrev BN (c:Ce):LV:=[.int .i64 (c.1-1),.int .i64 c.2.1,.int .i64 c.2.2,.int .i64 (c.1+1),.int .i64 c.2.1,.int .i64 c.2.2,.int .i64 c.1,.int .i64 (c.2.1-1),.int .i64 c.2.2,.int .i64 c.1,.int .i64 (c.2.1+1),.int .i64 c.2.2,.int .i64 c.1,.int .i64 c.2.1,.int .i64 (c.2.2-1),.int .i64 c.1,.int .i64 c.2.1,.int .i64 (c.2.2+1)]
theorem DF (c:Ce):One (BN c):=by intro v hv;simp only [BN,cH,jR,or_false] at hv;rcases hv with rfl|rfl|rfl|rfl|rfl|rfl|rfl|rfl|rfl|rfl|rfl|rfl|rfl|rfl|rfl|rfl|rfl|rfl<;>rfl
theorem Zk (c:Ce):BN c=((pw c).map du).flatten:=rfl
theorem aQ {cs vs:LV} (h:vs.length=cs.length):aR cs 0 vs=vs:=by rw [dn _ _ _ aa];simp [<-h]
theorem HS {a b c a' b' c':Int} (h1:a=a') (h2:b=b') (h3:c=c'):((a,b,c):Ce)=(a',b',c'):=by rw [h1,h2,h3]
set_option maxRecDepth 100000 in
theorem iO (c:Ce) (hc:eQ c) (w:World):ah 159 #[ea c] w λe w'=>e=Value.agg (BN c).toArray/\Ext w w':=by apply TG.vc;intro w0 e0 w1 e1;have x1:Ext w w1:=(aL e0).bB e1;have z0:=eN e0;have r0:Row w1 w [c.1,c.2.1,c.2.2] pr:=(by rw [e0];exact Row.new w [_,_,_] _:Row w0 w _ _).ext (aL e1);have rb:Row w1 w0 [ab,ab,ab,ab,ab,ab,ab,ab,ab,ab,ab,ab,ab,ab,ab,ab,ab,ab] 186:=Row.nw e1;refine (k9 (-1) 0 0 c (c.1-1,c.2.1,c.2.2) (HS aa aa aa) hc aE r0).mono ?_;rintro e w2 ⟨rfl,x2⟩;refine ⟨_,_,_,rfl,(k9 1 0 0 c (c.1+1,c.2.1,c.2.2) (HS aa aa aa) hc aE (r0.ext x2)).mono ?_⟩;rintro e w6 ⟨rfl,x6⟩;have y6:=x2.tr x6;refine ⟨_,_,_,rfl,(k9 0 (-1) 0 c (c.1,c.2.1-1,c.2.2) (HS aa aa aa) hc aE (r0.ext y6)).mono ?_⟩;rintro e bD ⟨rfl,bj⟩;have y10:=y6.tr bj;refine ⟨_,_,_,rfl,(k9 0 1 0 c (c.1,c.2.1+1,c.2.2) (HS aa aa aa) hc aE (r0.ext y10)).mono ?_⟩;rintro e bK ⟨rfl,bW⟩;have y14:=y10.tr bW;refine ⟨_,_,_,rfl,(k9 0 0 (-1) c (c.1,c.2.1,c.2.2-1) (HS aa aa aa) hc aE (r0.ext y14)).mono ?_⟩;rintro e dA ⟨rfl,cg⟩;have y18:=y14.tr cg;refine ⟨_,_,_,rfl,(k9 0 0 1 c (c.1,c.2.1,c.2.2+1) (HS aa aa aa) hc aE (r0.ext y18)).mono ?_⟩;rintro e cL ⟨rfl,dI⟩;have y22:=y18.tr dI;have r22:=rb.ext y22;refine ⟨_,_,_,rfl,⟨rfl,r22.wr bt⟩,λeG yU=> ?_⟩;have yU:eG=aG cL (some ⟨w0.heap.size,0,none⟩) (BN c):=yU;rw [r22.aG (vs:=BN c) bt (DF c),aQ bt] at yU;have hr':Row eG w0 (BN c) 186:=r22.st yU;exact ⟨_,_,_,_,_,_,_,_,_,_,_,_,_,_,_,_,_,_,hr'.bY (λj hj=>by rw [eB]),rfl,(x1.tr y22).af yU aa⟩
theorem vx (b:Int) (w:World):ah 243 #[b] w λe w'=>e=Value.bool (b==3)/\w'=w:=by apply Lf.vc;exact ⟨rfl,rfl⟩
theorem nL (b:Int) (w:World):ah 202 #[b] w λe w'=>e=Value.bool (qH b)/\w'=w:=by
 apply TV.vc;unfold qH;refine Br.mk (λh=>⟨?_,rfl⟩) (λh=>⟨?_,rfl⟩)
 ·have h1:(8:Int)<=b:=by simpa using h
  rw [decide_eq_true h1,Bool.true_and]
 ·have h1:¬(8:Int)<=b:=by simpa using h
  rw [decide_eq_false h1,Bool.false_and]
theorem Bk (b:Int) (w:World):ah 144 #[b] w λe w'=>e=Value.bool (lq b)/\w'=w:=by
 apply IK.vc;unfold lq;refine Br.mk (λh=>⟨?_,rfl⟩) (λh=>(nL b w).mono ?_)
 ·have h1:b=0:=by simpa using h
  rw [decide_eq_true h1,Bool.true_or]
 ·rintro e w' ⟨rfl,rfl⟩;have h1:¬b=0:=by simpa using h
  rw [decide_eq_false h1,Bool.false_or];exact ⟨_,rfl,rfl,rfl⟩
theorem DV (b:Int) (w:World):ah 223 #[b] w λe w'=>e=Value.int .i64 (jj b)/\w'=w:=by
 apply Pg.vc;refine (vx b w).mono ?_;rintro e w0 ⟨rfl,rfl⟩;unfold jj;refine ⟨_,rfl,Br.mk (λh=> ?_) (λh=>(nL b w0).mono ?_)⟩
 ·rw [if_pos (by simpa using h)];exact ⟨rfl,rfl⟩
 ·rintro e w2 ⟨rfl,rfl⟩;rw [if_neg (by simpa using h)];refine ⟨_,rfl,Br.mk (λh=> ?_) (λh=> ?_)⟩
  ·rw [if_pos h];exact ⟨rfl,rfl⟩
  ·rw [if_neg (by rw [h];decide)];exact ⟨rfl,rfl⟩
def Tl (v:Value) (V:Ce->Int) (w:World):Prop:=∃D:Nat->Prop,(∀i,D i->i<w.heap.size)/\∀w',(∀i,D i->w'.heap[i]? =w.heap[i]?)->∀c,oM c->cw Tryz.prog v [ea c] w' λe w''=>e=Value.int .i64 (V c)/\Ext w' w''
theorem Tl.ext {v:Value} {V:Ce->Int} {w w':World} (h:Tl v V w) (x:Ext w w'):Tl v V w':=by obtain ⟨D,h1,h2⟩:=h;exact ⟨D,λi hi=>j9 (h1 i hi) x.size,λw'' hk=>h2 w'' λi hi=>(hk i hi).trans (x.heap (h1 i hi))⟩
theorem Tl.at {v:Value} {V:Ce->Int} {w:World} (h:Tl v V w) {c:Ce} (hc:oM c):cw Tryz.prog v [ea c] w λe w'=>e=Value.int .i64 (V c)/\Ext w w':=by obtain ⟨D,h1,h2⟩:=h;exact h2 w (λ_ _=>rfl) c hc
theorem eh {v:Value} {l:LV} {w:World} {R R':Ending->World->Prop} (h:cw Tryz.prog v l w R) (k:∀e w',R e w'->R' e w'):cw Tryz.prog v l w R':=dq h k
abbrev lJ (x:Go.fV.Cg):LV:=[.int .i64 x.1.1,.int .i64 x.1.2.1,.int .i64 x.1.2.2,.int .i64 x.2]
theorem Zl {E k n:Nat} {w w':World} {s s':Sl} {news:LV} (h:aV E k w s n news s' w') (hc:s.c<s.n+n):Ext w w':=by
 cases h with
 |fits hf=>omega
 |AL=>exact (Ext.dr w).tr (Ext.al _ _)
set_option maxRecDepth 100000 in
theorem PM {v:Value} {V:Ce->Int} {w:World} (hV:Tl v V w) (c:Ce) (hc:eQ c):
  ah 222 #[v,ea c] w λe w'=>∃s:Sl,e=s/\aC w pr 3 w' s ((qV V c).map du)/\Ext w w':=by
 apply Pj.vc;intro w0 e0;have x0:=aL e0;have z0:=eN e0;refine (iO c hc w0).mono ?_;rintro e w1 ⟨rfl,x1⟩;have z1:=x1.size;refine ⟨_,_,_,_,_,_,_,_,_,_,_,_,_,_,_,_,_,_,rfl,x1.heap aa,λfh e20=> ?_⟩;have cZ:=aL e20;have z20:=eN e20;have hr:Row fh w1 [ab,ab,ab,ab,ab,ab,ab,ab,ab,ab,ab,ab,ab,ab,ab,ab,ab,ab] 186:=Row.nw e20;refine ⟨⟨rfl,hr.wr bt⟩,λe=>by
  have:w1.heap.size=w.heap.size:=by simpa [bC] using e
  omega,λed wO cL wN=> ?_⟩
 have wO:ed=aG fh (some ⟨w1.heap.size,0,none⟩) (BN c):=wO;rw [hr.aG (vs:=BN c) bt (DF c),aQ bt] at wO;have py:Row ed w1 (BN c) 186:=hr.st wO;have dm:Ext w ed:=(x0.tr (x1.tr cZ)).af wO aa;have z21:=Rr wO;have xd:=Ext.dr ed;have zd:=lv ed;have dI:=aL wN;have z22:=eN wN;have ar5:Row cL ed.drew.heap.size (du c) pr:=Row.nw wN;have ar6:=dm.tr (xd.tr dI);have ar7:=py.ext (xd.tr dI);have ho:aC w pr 3 cL ⟨some ⟨ed.drew.heap.size,0,none⟩,1,1⟩ [du c]:=aC.jf aa ar5 bt (aB _) rfl bt;have ha:=ho.FO (bytes:=24) (more:=(pw c).map du) aa (λr hr=>by obtain ⟨y,-,rfl⟩:=bg.1 hr;rfl) (λr hr=>by obtain ⟨y,-,rfl⟩:=bg.1 hr;exact As y) (by simp [pw]) (by simp [pw]);obtain ⟨hp,bo⟩:=ha;refine ⟨((pw c).map du).flatten,?_,hp,λrE cP adK=> ?_⟩
 ·rw [eg];intro i u hu;exact ar7.at i (by rw [Zk];exact hu)
 obtain ⟨Wq,ay8,-,-,-⟩:=bo rE cP adK;have dQ:Ext cL cP:=Zl adK (show (1:Nat)<1+(6-0) by decide);have z25:=dQ.size;have alX:Ext w cP:=ar6.tr dQ;have Wq:aC w pr 3 cP rE ((c::pw c).map du):=Wq;have ic:=Wq.rd (show 0<3 by decide);have ay9:rE.n=7:=ic.n;refine ⟨dQ.heap aa,dQ.heap aa,λn x sS fj=>∃j:Nat,x=j/\j+n=7/\aC cP pr 3 fj sS ((((c::pw c).take j).filter λn=>decide (0<jj (V n))).map du)/\Ext cP fj,⟨7,rfl,rfl,0,rfl,rfl,aC.nil,Ext.cQ _⟩,?_⟩;rintro n us x sS fj ⟨j,rfl,hj,aa0,gI⟩;have z31:=gI.size;apply Br.mk<;>intro hb
 ·replace hb:=lY hb;obtain ⟨y,hy⟩:=bH (l:=c::pw c) (i:=j) (by have:(c::pw c).length=7:=rfl;omega);have ZN:y ∈ c::pw c:=aZ hy;have oky:oM y:=by
   rcases cH.1 ZN with rfl|h
   ·exact hc.ok
   ·exact Df hc h
  have hy':((c::pw c).map du)[j]? =some (du y):=by rw [aS,hy];rfl
  have rW:(c::pw c).take (j+1)=(c::pw c).take j++ [y]:=by rw [dE,hy];rfl
  refine ⟨ic.gR (i:=(j:Int)) aE aa hb,_,_,_,(ic.ext gI).bY hy',λjl ZM gJ WG=> ?_⟩;have gu:Ext fj gJ:=(aL ZM).af WG (aB _);have z37:=yY ZM WG;refine eh ((hV.ext (alX.tr (gI.tr gu))).at oky) ?_;rintro e mX ⟨rfl,fX⟩;have z38:=fX.size;refine ⟨_,rfl,fX.heap aa,fX.heap aa,fX.heap aa,(DV (V y) mX).mono ?_⟩;rintro e ik ⟨rfl,rfl⟩;have wk:=mh (j:=j);refine ⟨_,rfl,rfl,rfl,rfl,?_⟩;have alY:=aa0.ext (gu.tr fX);apply Br.mk<;>intro hd
  ·intro jI ZJ;subst ZJ;have ahT:sS.n<=7:=by have h1:=(aa0.rd (show 0<3 by decide)).n;have h2:=List.length_filter_le (λn=>decide (0<jj (V n))) ((c::pw c).take j);rw [aM] at h1;rw [dC] at h2;omega
   obtain ⟨B8,hres8⟩:=alY.iN (bytes:=24) (news:=du y) (.cells #[y.1,y.2.1,y.2.2] pr) aa rfl (As y) aa aa;refine ⟨B8,λs43 jV aa1=> ?_⟩;obtain ⟨f8,wQ,hn8,x8,ER,-⟩:=hres8 s43 jV aa1;have xa:=Ext.al ik (.cells #[y.1,y.2.1,y.2.2] pr);have agy:∀b,sS.aY=some b->cP.heap.size<=b/\b<fj.heap.size:=λb hb=>aa0.own.lt hb
   have kp:∀j,(j<cP.heap.size\/fj.heap.size<=j)->j<ik.heap.size->jV.heap[j]? =(ik.alloc (.cells #[y.1,y.2.1,y.2.2] pr)).heap[j]? :=λj hj hj2=>by rw [ER j (λhb=>by have:=agy j hb;omega) hj2,xa.heap hj2]
   refine ⟨kp _ (.inl aa) aa,kp _ (.inl aa) aa,kp _ (.inr aa) aa,f8,n-1,by omega,rfl,rfl,j+1,wk,by omega,?_,(Below.trans (gI.tr (gu.tr fX)) x8:Below cP cP jV)⟩;rw [rW,mA,bZ,List.filter_cons_of_pos (by simpa using hd)];exact wQ
  ·refine ⟨n-1,by omega,rfl,rfl,j+1,wk,by omega,?_,gI.tr (gu.tr fX)⟩;rw [rW,mA,bZ,List.filter_cons_of_neg (by simpa using hd)];simpa using alY
 ·replace hb:=mg hb;have hj7:(c::pw c).take j=c::pw c:=fB (by have:(c::pw c).length=7:=rfl;omega);rw [hj7] at aa0;exact ⟨sS,rfl,aa0.low aa,alX.tr gI⟩
theorem Ox (c:Ce):((BN c).drop ((2:Int).toNat*3)).take 3=du (eX c):=rfl
set_option maxRecDepth 100000 in
theorem Tr {v:Value} {V:Ce->Int} {w:World} (hV:Tl v V w) (c:Ce) (hc:eQ c):
  ah 278 #[v,ea c] w λe w'=>∃s:Sl,e=s/\aC w kg 4 w' s ((Mu V c).map lJ)/\Ext w w':=by
 apply TH.vc;intro w0 e0;have x0:=aL e0;have z0:=eN e0;refine (iO c hc w0).mono ?_;rintro e w1 ⟨rfl,x1⟩;have z1:=x1.size;have okl:oM (eX c):=Df hc (by simp [pw]);refine ⟨_,_,_,_,_,_,_,_,_,_,_,_,_,_,_,_,_,_,rfl,x1.heap aa,by decide,_,_,_,Ox c,λdT H5 fH Gu=> ?_⟩;have eH:Ext w1 fH:=(aL H5).af Gu (aB _);have z24:=yY H5 Gu;have ahU:=x0.tr (x1.tr eH);refine eh ((hV.ext ahU).at okl) ?_;rintro e cP ⟨rfl,dQ⟩;have z25:=dQ.size;refine ⟨_,rfl,dQ.heap aa,dQ.heap aa,(Bk (V (eX c)) cP).mono ?_⟩;rintro e eo ⟨rfl,rfl⟩;unfold Mu;refine ⟨_,rfl,rfl,rfl,Br.mk (λh=> ?_) (λh=>λdH MP=> ?_)⟩
 ·rw [if_neg (by simpa using h)];exact ⟨⟨none,0,0⟩,rfl,aC.nil,ahU.tr dQ⟩
 ·rw [if_pos (by simpa using h)];have hr:Row dH eo (([(c,V (eX c)),(eX c,3)]:List Go.fV.Cg).map lJ).flatten kg:=Row.nw MP;exact ⟨⟨some ⟨eo.heap.size,0,none⟩,2,2⟩,rfl,aC.jf aa hr (aB _) (aB _) rfl (by intro r hr;simp at hr;rcases hr with rfl|rfl<;>rfl),(ahU.tr dQ).bB MP⟩
set_option maxRecDepth 100000
set_option maxHeartbeats 8000000
set_option linter.unusedVariables false
variable {R:Ending->World->Prop} {w:World} {a0 a1 a2 a3 a4 a5 a6 a7 a8 a9 aA aq au aT aU aX bN bI bJ EU ak ao aw bw bR bP eZ fa eL EV br bG bq yC yD wC wD yE yF yG EW EX EY EZ E0 E1 E2 E3 E4 E5:Int}
theorem KD.vc {a0:Value} (h:
 ∀w0,w0=w.alloc (.cells #[ak,ao,aw] 41)->
 ah 301 #[a0,.agg #[ak,ao,aw]] w0 (λe w1=>∃(x2:Int) (b3:Bool),e=Value.tuple #[x2,b3]/\Kp w w0 w1/\
 ∃J4:World->Prop,
 (Br (a2>0)
 (Br (!b3)
 (∀w5,w5=w1.alloc (.cells #[ak,ao,aw,ab] 289)->
 R (Value.slice (some ⟨w1,0,none⟩) 1 1) w5)
 (Br (a2>0)
 (Br (x2 !=a2)
 (ah 302 #[x2] w1.drew (Ri λx7 w6=>Kp w w1.drew w6/\
 ag w6 w 0 [ak,ao,aw]/\∀w8,w8=w6.alloc (.cells #[ak,ao,aw,x7] 289)->
 R (Value.slice (some ⟨w6,0,none⟩) 1 1) w8))
 (aO [ak,ao,aw]/\J4 w1))
 (aO [ak,ao,aw]/\J4 w1)))
 (Br (a2>0)
 (Br (x2 !=a2)
 (ah 302 #[x2] w1.drew (Ri λbj w9=>Kp w w1.drew w9/\
 ag w9 w 0 [ak,ao,aw]/\∀aW,aW=w9.alloc (.cells #[ak,ao,aw,bj] 289)->
 R (Value.slice (some ⟨w9,0,none⟩) 1 1) aW))
 (aO [ak,ao,aw]/\J4 w1))
 (aO [ak,ao,aw]/\J4 w1)))/\
 ∀agu:Nat->Value,∀(bF:World),J4 bF->
 ah 159 #[.agg #[ak,ao,aw]] bF (λe bK=>∃(cm cp cT cg cr cZ dm dI dz eH dQ fk fw gy fI iK gI gQ:Int),e=Value.agg #[cm,cp,cT,cg,cr,cZ,dm,dI,dz,eH,dQ,fk,fw,gy,fI,iK,gI,gQ]/\Kp w bF bK/\
 ((0:Int)<=2/\(2:Int)<((6:Nat):Int))/\∃(ey g8 jX:Int),(([cm,cp,cT,cg,cr,cZ,dm,dI,dz,eH,dQ,fk,fw,gy,fI,iK,gI,gQ]:LV).drop ((2:Int).toNat*3)).take 3=[.int .i64 ey,.int .i64 g8,.int .i64 jX]/\
 ∀jl,jl=bK.alloc (.cells #[ab,ab,ab] 41)->
 ∀gJ,gJ=jl.setRow bK #[ey,g8,jX]->
 ∃J38:World->Prop,
 (cw Tryz.prog a0 [.agg #[ey,g8,jX]] gJ (Ri λlW jD=>K2 w bK gJ jD (
 Br (lW==0)
 (ah 302 #[(1:Int)] jD.drew (Ri λlZ jm=>K2 w bK jD.drew jm (
 ag jm (some ⟨bK,0,none⟩) 0 [ey,g8,jX]/\∀il,il=jm.alloc (.cells #[ey,g8,jX,lZ] 289)->
 R (Value.slice (some ⟨jm,0,none⟩) 1 1) il)))
 (ah 202 #[lW] jD (Rb λHZ jV=>K2 w bK jD jV (
 Br HZ
 (R (Value.slice none 0 0) jV)
 (Br (a2>=7)
 (R (Value.slice none 0 0) jV)
 (aO [ak,ao,aw]/\aO [ey,g8,jX]/\J38 jV))))))))/\
 ∀alP:Nat->Value,∀(jQ:World),J38 jQ->
 ah 303 #[.agg #[ak,ao,aw]] jQ (Rs λs49 fG=>K2 w bK jQ fG (
 ∃I50:Nat->Int->Sl->World->Prop,
 (∃n51,aO [ak,ao,aw]/\aO [ey,g8,jX]/\I50 n51 (0) ⟨none,0,0⟩ fG)/\
 ∀(n51:Nat) (apL:Nat->Value) (im:Int) (CD:Sl) (yH:World),I50 n51 im CD yH->
 Br (decide (im<((s49.n:Nat):Int)))
 (ee s49.a im s49.n/\∃(l6 tV lf:Int),ag yH (ae s49.a ((im:Int).toNat*3)) 0 [l6,tV,lf]/\
 ∀kC,kC=yH.alloc (.cells #[ab,ab,ab] 41)->
 ∀mY,mY=kC.setRow yH #[l6,tV,lf]->
 cw Tryz.prog a0 [.agg #[l6,tV,lf]] mY (Ri λsb gL=>K3 w bK yH mY gL (
 Br (sb==0)
 (ah 302 #[(aj (a2+1))] gL.drew (Ri λqp oX=>K3 w bK yH gL.drew oX (
 ag oX yH 0 [l6,tV,lf]/\∀my,my=oX.alloc (.cells #[l6,tV,lf,qp] 289)->
 ba 32 4 my CD 1 [l6,tV,lf,qp]/\∀(s67:Sl) (qo:World),aV 289 4 my CD 1 [l6,tV,lf,qp] s67 qo->K4 w bK yH oX my qo (
 ∃n56,n56<n51/\aO [ak,ao,aw]/\aO [ey,g8,jX]/\I50 n56 ((aj (im+1))) s67 qo))))
 (∃n56,n56<n51/\aO [ak,ao,aw]/\aO [ey,g8,jX]/\I50 n56 ((aj (im+1))) CD gL))))
 (R CD yH)))))):ah 279 #[a0,.agg #[ak,ao,aw],a2] w R:=
 cq ⟨[(14,⟨[(66,.int .i64),(11,.slice)],[],[]⟩)],[(12,⟨[],[],[]⟩),(6,⟨[],[],[]⟩)],[]⟩ Tryz.func279 h
theorem ac2 {E k m n c:Nat} {w w':World} {a:Option Addr} {s':Sl} {xs news:LV} {rows:List (LV)} (h:aV E k w ⟨a,m,c⟩ n news s' w') (hc:c<m+n) (hx:xs.length=m*k) (ic:Rd w a xs) (cN:xs++news=rows.flatten) (hw:∀r ∈ rows,r.length=k) (hl:news.length=n*k):aC w E k w' s' rows/\Ext w w':=by
 cases h with
 |fits hf=>simp only at hf;omega
 |AL hg fz rest cap e1 e2 e3 e4=>
  have ho:fz=xs:=by
   apply iX;intro i;rcases Nat.lt_or_ge i xs.length with hi|hi
   ·have h1:=ic i xs[i] (c8 hi);have hi':i<fz.length:=by simp only at e1;omega
    have h2:=e2 i fz[i] (c8 hi');rw [h1] at h2;rw [c8 hi,c8 hi'];exact h2.symm
   ·rw [jt hi,jt (by simp only at e1;omega)]
  subst ho;have JA:=Row.new w.drew (fz++news++rest) E;refine ⟨aC.jf (aB _) JA (Nat.le_of_eq e4.symm) e3 ?_ hw,(Ext.dr w).tr (Ext.al _ _)⟩;rw [<-cN];have dG:(fz++news).length=(m+n)*k:=by rw [dc,hx,hl,Nat.add_mul]
  rw [List.take_append_of_le_length (by simp only;omega),fB (by simp only;omega)]
theorem Dg (b:Int) (w:World):ah 280 #[b] w λe w'=>e=Value.int .i64 (fR b)/\w'=w:=by
 apply K1.vc;refine (nL b w).mono ?_;rintro e w0 ⟨rfl,rfl⟩;unfold fR;refine ⟨_,rfl,Br.mk (λh=> ?_) (λh=> ?_)⟩
 ·have h:qH b=false:=by simpa using h
  rw [h,if_neg aE];exact ⟨rfl,rfl⟩
 ·have h:qH b=true:=by simpa using h
  rw [h,if_pos rfl];unfold qH at h;simp only [fq,cS] at h;rw [wI];exact ⟨rfl,rfl⟩
theorem KE {c:Ce} (h:eQ c) {n:Ce} (hn:n ∈ db c):oM n/\n ∈ pw c:=by
 have:n ∈ pw c:=by
  unfold db at hn;unfold pw;simp only [cH,jR,or_false] at hn ⊢;rcases hn with h|h|h|h
  ·exact .inl h
  ·exact .inr (.inl h)
  ·exact .inr (.inr (.inr (.inr (.inl h))))
  ·exact .inr (.inr (.inr (.inr (.inr h))))
 exact ⟨Df h this,this⟩
theorem Sp {w:World} {g:Nat} {cs:LV} {τ:TypeId} (hr:Row w g cs τ) (o:Nat) {xs:LV} (h:∀i,i<xs.length->cs[o+i]? =xs[i]?):Rd w (some ⟨g,o,none⟩) xs:=λi v hv=>by
 rw [bh,hr.ld]
 have hi:=(cR.1 hv).1
 rw [h i hi];exact hv
theorem xl (c:Ce) (hc:eQ c) (w:World):ah 303 #[ea c] w λe w'=>∃s:Sl,e=s/\aC w pr 3 w' s ((db c).map du)/\Ext w w':=by
 apply KW.vc;intro w0 e0;have x0:=aL e0;have z0:=eN e0;refine (iO c hc w0).mono ?_;rintro e w1 ⟨rfl,x1⟩;have z1:=x1.size;refine ⟨_,_,_,_,_,_,_,_,_,_,_,_,_,_,_,_,_,_,rfl,x1.heap aa,λfh e20=> ?_⟩;have cZ:=aL e20;have hr:Row fh w1 [ab,ab,ab,ab,ab,ab,ab,ab,ab,ab,ab,ab,ab,ab,ab,ab,ab,ab] 186:=Row.nw e20;refine ⟨⟨rfl,hr.wr bt⟩,λe=>by
  have:w1.heap.size=w.heap.size:=by simpa [bC] using e
  omega,λed wO=> ?_⟩
 have wO:ed=aG fh (some ⟨w1.heap.size,0,none⟩) (BN c):=wO;rw [hr.aG (vs:=BN c) bt (DF c),aQ bt] at wO;have py:Row ed w1 (BN c) 186:=hr.st wO;have dm:Ext w ed:=(x0.tr (x1.tr cZ)).af wO aa;have xd:=Ext.dr ed;have hr3:=py.ext xd;have x21d:=dm.tr xd;have zz:w1.heap.size<ed.drew.heap.size:=hr3.lt;have dG:(du ((c.1,c.2.1,c.2.2-1):Ce)++du (c.1,c.2.1,c.2.2+1)).length=6:=rfl;have h1:One (du ((c.1,c.2.1,c.2.2-1):Ce)++du (c.1,c.2.1,c.2.2+1)):=by
  intro v hv;rcases dR.1 hv with hv|hv
  ·exact As _ v hv
  ·exact As _ v hv
 have rd0:Rd ed.drew (some ⟨w1.heap.size,0,none⟩) (du ((c.1-1,c.2.1,c.2.2):Ce)++du (c.1+1,c.2.1,c.2.2)):=Sp hr3 0 (λi hi=>by
  have hi:i<6:=hi;have:i=0\/i=1\/i=2\/i=3\/i=4\/i=5:=by omega
  rcases this with rfl|rfl|rfl|rfl|rfl|rfl<;>rfl)
 refine ⟨by decide,by decide,by decide,by decide,by decide,by decide,du ((c.1,c.2.1,c.2.2-1):Ce)++du (c.1,c.2.1,c.2.2+1),Sp (o:=12) hr3 (λi hi=>by
  have hi:i<6:=hi;have:i=0\/i=1\/i=2\/i=3\/i=4\/i=5:=by omega
  rcases this with rfl|rfl|rfl|rfl|rfl|rfl<;>rfl),⟨λhf=>absurd hf (show ¬(2+2<=2) by decide),λ_=>⟨_,rfl,rd0⟩,λhg=>⟨growslice_fits hg (show (2+2)*24<=140737488355328 by decide),show ((2+2:Nat):Int)<=9223372036854775807 by decide⟩,rfl,h1⟩,λMT fH bo=> ?_⟩
 obtain ⟨ho,eH⟩:=ac2 (rows:=(db c).map du) (xs:=du ((c.1-1,c.2.1,c.2.2):Ce)++du (c.1+1,c.2.1,c.2.2)) bo (show 2<2+2 by decide) rfl rd0 rfl (by intro r hr;obtain ⟨y,-,rfl⟩:=bg.1 hr;rfl) rfl;exact ⟨eH.heap aa,MT,rfl,ho.low aa,x21d.tr eH⟩
theorem De (V:Ce->Int):∀(l:List Ce) (m:Int),0<=m/\m<=7->0<=l.foldl (λm n=>if 0<=fR (V n) then min m (fR (V n)) else m) m/\l.foldl (λm n=>if 0<=fR (V n) then min m (fR (V n)) else m) m<=7
 | [],m,h=>h
 |n::l,m,h=>by
  rw [List.foldl_cons]
  refine De V l _ ?_
  split<;>omega
theorem VJ (c:Ce):((BN c).drop ((3:Int).toNat*3)).take 3=du (Bh c):=rfl
theorem Ow {v:Value} {V:Ce->Int} {w:World} (hV:Tl v V w) (c:Ce) (hc:eQ c):
  ah 301 #[v,ea c] w λe w'=>e=Value.tuple #[.int .i64 (gD V c).1,.bool (gD V c).2]/\Ext w w':=by
 apply Ph.vc;intro w0 e0;have x0:=aL e0;have z0:=eN e0;refine (iO c hc w0).mono ?_;rintro e w1 ⟨rfl,x1⟩;have z1:=x1.size;have oko:oM (Bh c):=Df hc (by simp [pw]);refine ⟨_,_,_,_,_,_,_,_,_,_,_,_,_,_,_,_,_,_,rfl,x1.heap aa,by decide,_,_,_,VJ c,eh ((hV.ext (x0.tr x1)).at oko) ?_⟩;rintro e dT ⟨rfl,dz⟩;have z23:=dz.size;have amu:=x0.tr (x1.tr dz);refine ⟨_,rfl,dz.heap aa,(nL (V (Bh c)) dT).mono ?_⟩;rintro e cP ⟨rfl,rfl⟩;unfold gD;refine ⟨_,rfl,rfl,Br.mk (λh=> ?_) (λh=>(xl c hc cP).mono ?_)⟩
 ·rw [if_pos h];exact ⟨rfl,amu⟩
 rintro e eo ⟨NI,rfl,ho,fw⟩;have z27:=fw.size;rw [if_neg (by rw [h];decide)];have ic:=ho.rd (show 0<3 by decide);have hn:NI.n=4:=ic.n;refine ⟨NI,rfl,fw.heap aa,λn x m wr=>∃j:Nat,x=j/\j+n=4/\m=((db c).take j).foldl (λm n=>if 0<=fR (V n) then min m (fR (V n)) else m) 7/\Ext eo wr,⟨4,rfl,0,rfl,rfl,rfl,Ext.cQ _⟩,?_⟩;rintro n us x m wr ⟨j,rfl,hj,rfl,xr⟩;have zr:=xr.size;have xr0:=amu.tr (fw.tr xr);apply Br.mk<;>intro hb
 ·replace hb:=lY hb;obtain ⟨y,hy⟩:=bH (l:=db c) (i:=j) (by have:(db c).length=4:=rfl;omega);have oky:=(KE hc (aZ hy)).1;have hy':((db c).map du)[j]? =some (du y):=by rw [aS,hy];rfl
  have rW:(db c).take (j+1)=(db c).take j++ [y]:=by rw [dE,hy];rfl
  have wk:=mh (j:=j);refine ⟨ic.gR (i:=(j:Int)) aE aa hb,_,_,_,(ic.ext xr).bY hy',λjD e39 ik QJ=> ?_⟩;have lW:Ext wr ik:=(aL e39).af QJ (aB _);have z40:=yY e39 QJ;refine eh ((hV.ext (xr0.tr lW)).at oky) ?_;rintro e jm ⟨rfl,kq⟩;have z41:=kq.size;refine ⟨_,rfl,kq.heap aa,kq.heap aa,(Dg (V y) jm).mono ?_⟩;rintro e il ⟨rfl,rfl⟩;refine ⟨_,rfl,rfl,rfl,Br.mk (λh2=> ?_) (λh2=> ?_)⟩
  ·have h2:0<=fR (V y):=by simpa using h2
   refine ⟨n-1,by omega,rfl,j+1,wk,by omega,?_,xr.tr (lW.tr kq)⟩;rw [rW,List.foldl_append,List.foldl_cons,List.foldl_nil,if_pos h2];split<;>omega
  ·have h2:¬0<=fR (V y):=by simpa using h2
   refine ⟨n-1,by omega,rfl,j+1,wk,by omega,?_,xr.tr (lW.tr kq)⟩;rw [rW,List.foldl_append,List.foldl_cons,List.foldl_nil,if_neg h2]
 ·replace hb:=mg hb;have ht:(db c).take j=db c:=fB (by have:(db c).length=4:=rfl;omega);rw [ht];have hle:(db c).foldl (λm n=>if 0<=fR (V n) then min m (fR (V n)) else m) 7=Is V (db c):=rfl;have mW:=De V (db c) 7 aE;rw [hle] at mW ⊢;apply Br.mk<;>intro h2
  ·rw [if_pos (by simpa using h2)];exact ⟨rfl,xr0⟩
  ·rw [if_neg (by simpa using h2),wI];exact ⟨rfl,xr0⟩
theorem abS (x:Go.fV.Cg):One (lJ x):=by intro v hv;simp at hv;rcases hv with rfl|rfl|rfl|rfl<;>rfl
theorem Ir {w:World} {g:Nat} {B:Nat} (x:Go.fV.Cg) (hr:Row w g (lJ x) kg) (hB:B<=g):aC B kg 4 w ⟨some ⟨g,0,none⟩,1,1⟩ ([x].map lJ):=aC.jf hB hr bt (aB _) rfl bt
theorem Ov {v:Value} {V:Ce->Int} {w:World} (hV:Tl v V w) (c:Ce) (hc:eQ c) (level:Int) (hl:0<=level/\level<=7):
  ah 279 #[v,ea c,level] w λe w'=>∃s:Sl,e=s/\aC w kg 4 w' s ((mj V c level).map lJ)/\Ext w w':=by
 apply KD.vc;intro w0 e0;have x0:=aL e0;have z0:=eN e0;have r0:Row w0 w (du c) pr:=Row.nw e0;refine (Ow (hV.ext x0) c hc).mono ?_;rintro e w1 ⟨rfl,x1⟩;have z1:=x1.size;have jC:=x0.tr x1;have ao5:bS (gD V c).1:=by
  have:=De V (db c) 7 aE;have hle:(db c).foldl (λm n=>if 0<=fR (V n) then min m (fR (V n)) else m) 7=Is V (db c):=rfl;rw [hle] at this;unfold gD bS;split
  ·simp
  ·split
   ·simp
   ·simp only;omega
 have caseA:0<level->(gD V c).2=false->mj V c level=[(c,0)]:=λh1 h2=>by unfold mj;rw [if_pos ⟨h1,h2⟩]
 have caseB:0<level->¬(gD V c).2=false->(gD V c).1≠level->mj V c level=[(c,jO (gD V c).1)]:=λh1 h2 h3=>by unfold mj;rw [if_neg (λq=>h2 q.2),if_pos ⟨h1,h3⟩]
 have armB:0<level->¬(gD V c).2=false->(gD V c).1≠level->ah 302 #[.int .i64 (gD V c).1] w1.drew (λe w6=>∃(x7:Int),e=x7/\w6.heap[w.heap.size]? =w1.drew.heap[w.heap.size]?/\
   ag w6 (some ⟨w.heap.size,0,none⟩) 0 [c.1,c.2.1,c.2.2]/\∀w8:World,w8=w6.alloc (.cells #[c.1,c.2.1,c.2.2,x7] kg)->
   (λe w'=>∃s:Sl,e=Ending.returned s/\aC w kg 4 w' s ((mj V c level).map lJ)/\Ext w w') (.returned (.slice (some ⟨w6.heap.size,0,none⟩) 1 1)) w8):=by
  intro h1 h2 h3;refine (kR (gD V c).1 w1.drew ao5).mono ?_;rintro e w6 ⟨rfl,rfl⟩;refine ⟨_,rfl,rfl,Lo.wv (r0.ext (x1.tr (Ext.dr w1))),λw8 e8=> ?_⟩;have hr:Row w8 w1.drew.heap.size (lJ (c,jO (gD V c).1)) kg:=Row.nw e8;have zd:=lv w1;refine ⟨⟨some ⟨w1.drew.heap.size,0,none⟩,1,1⟩,rfl,?_,(jC.tr (Ext.dr w1)).bB e8⟩;rw [caseB h1 h2 h3];exact Ir _ hr aa
 refine ⟨_,_,rfl,x1.heap aa,λwj=>wj=w1/\mj V c level=(if V (eX c)=0 then [(eX c,jO 1)] else if qH (V (eX c))=true\/7<=level then [] else ((db c).filter λn=>decide (V n=0)).map λn=>(n,jO (level+1))),?_,?_⟩
 ·have fine:(¬0<level\/(¬(gD V c).2=false/\(gD V c).1=level))->mj V c level=(if V (eX c)=0 then [(eX c,jO 1)] else if qH (V (eX c))=true\/7<=level then [] else ((db c).filter λn=>decide (V n=0)).map λn=>(n,jO (level+1))):=λh=>by unfold mj;rw [if_neg (λq=>h.elim (λh=>h q.1) λh=>h.1 q.2),if_neg (λq=>h.elim (λh=>h q.1) λh=>q.2 h.2)]
  refine Br.mk (λh1=>Br.mk (λh2=>λw5 e5=> ?_) (λh2=>Br.mk (λ_=>Br.mk (λh3=> ?_) (λh3=>⟨rfl,rfl,?_⟩)) (λh3=> ?_))) (λh1=>Br.mk (λh3=> ?_) (λh3=>⟨rfl,rfl,?_⟩))
  ·have h1:0<level:=by simpa using h1
   have hr:Row w5 w1 (lJ (c,0)) kg:=Row.nw e5;refine ⟨⟨some ⟨w1.heap.size,0,none⟩,1,1⟩,rfl,?_,jC.bB e5⟩;rw [caseA h1 (by simpa using h2)];exact Ir _ hr aa
  ·exact armB (by simpa using h1) (by simpa using h2) (by simpa using h3)
  ·exact fine (.inr ⟨by simpa using h2,by simpa using h3⟩)
  ·rw [h1] at h3;cases h3
  ·rw [h1] at h3;cases h3
  ·exact fine (.inl (by simpa using h1))
 rintro us bF ⟨rfl,hW⟩;rw [hW];refine (iO c hc bF).mono ?_;rintro e bK ⟨rfl,bW⟩;have WE:=bW.size;have okl:oM (eX c):=Df hc (by simp [pw]);refine ⟨_,_,_,_,_,_,_,_,_,_,_,_,_,_,_,_,_,_,rfl,bW.heap aa,by decide,_,_,_,Ox c,λjl ZM gJ WG=> ?_⟩;have gu:Ext bK gJ:=(aL ZM).af WG (aB _);have z37:=yY ZM WG;have rl:Row gJ bK (du (eX c)) pr:=by rw [WG];exact Row.set (by rw [ZM];exact Row.new bK [_,_,_] _) _
 have yB:=jC.tr (bW.tr gu);refine ⟨λwj=>Ext gJ wj/\¬V (eX c)=0/\¬(qH (V (eX c))=true\/7<=level),eh ((hV.ext yB).at okl) ?_,?_⟩
 ·rintro e jD ⟨rfl,mG⟩;have z39:=mG.size;refine ⟨_,rfl,mG.heap aa,mG.heap aa,Br.mk (λh=>(kR 1 jD.drew (by unfold bS;omega)).mono ?_) (λh=>(nL (V (eX c)) jD).mono ?_)⟩
  ·rintro e jm ⟨rfl,rfl⟩;have h:V (eX c)=0:=by simpa using h
   refine ⟨_,rfl,rfl,rfl,Lo.wv (rl.ext (mG.tr (Ext.dr jD))),λil e43=> ?_⟩;have hr:Row il jD.drew.heap.size (lJ (eX c,jO 1)) kg:=Row.nw e43;have zd:=lv jD;refine ⟨⟨some ⟨jD.drew.heap.size,0,none⟩,1,1⟩,rfl,?_,(yB.tr (mG.tr (Ext.dr jD))).bB e43⟩;rw [if_pos h];exact Ir _ hr aa
  ·rintro e jV ⟨rfl,rfl⟩;have h:¬V (eX c)=0:=by simpa using h
   rw [if_neg h];refine ⟨_,rfl,rfl,rfl,Br.mk (λh2=> ?_) (λh2=>Br.mk (λh3=> ?_) (λh3=>⟨rfl,rfl,mG,h,?_⟩))⟩
   ·rw [if_pos (.inl h2)];exact ⟨⟨none,0,0⟩,rfl,aC.nil,yB.tr mG⟩
   ·rw [if_pos (.inr (by simpa using h3))];exact ⟨⟨none,0,0⟩,rfl,aC.nil,yB.tr mG⟩
   ·rintro (q|q)
    ·rw [q] at h2;cases h2
    ·simp at h3;omega
 rintro us jQ ⟨rV,h1,h2⟩;have z47:=rV.size;rw [if_neg h1,if_neg h2];have ao6:=yB.tr rV;refine (xl c hc jQ).mono ?_;rintro e fG ⟨s49,rfl,ao7,uS⟩;have z48:=uS.size;have Gv:=ao6.tr uS;have ic:=ao7.rd (show 0<3 by decide);have awE:s49.n=4:=ic.n;refine ⟨s49,rfl,uS.heap aa,uS.heap aa,λn x CD wr=>∃j:Nat,x=j/\j+n=4/\aC fG kg 4 wr CD (((((db c).take j).filter λn=>decide (V n=0)).map λn=>((n,jO (level+1)):Go.fV.Cg)).map lJ)/\Ext fG wr,⟨4,rfl,rfl,0,rfl,rfl,aC.nil,Ext.cQ _⟩,?_⟩;rintro n us x CD wr ⟨j,rfl,hj,ho,xr⟩;have zr:=xr.size;have xr0:=Gv.tr xr;apply Br.mk<;>intro hb
 ·replace hb:=lY hb;obtain ⟨y,hy⟩:=bH (l:=db c) (i:=j) (by have:(db c).length=4:=rfl;omega);have oky:=(KE hc (aZ hy)).1;have hy':((db c).map du)[j]? =some (du y):=by rw [aS,hy];rfl
  have rW:(db c).take (j+1)=(db c).take j++ [y]:=by rw [dE,hy];rfl
  have wk:=mh (j:=j);refine ⟨ic.gR (i:=(j:Int)) aE aa hb,_,_,_,(ic.ext xr).bY hy',λkC e60 mY e61=> ?_⟩;have oq:Ext wr mY:=(aL e60).af e61 (aB _);have z61:=yY e60 e61;have ry:Row mY wr (du y) pr:=by rw [e61];exact Row.set (by rw [e60];exact Row.new wr [_,_,_] _) _
  refine eh ((hV.ext (xr0.tr oq)).at oky) ?_;rintro e gL ⟨rfl,mZ⟩;have z62:=mZ.size;refine ⟨_,rfl,mZ.heap aa,mZ.heap aa,mZ.heap aa,Br.mk (λh3=> ?_) (λh3=> ?_)⟩
  ·have wl:aj (level+1)=level+1:=wI;rw [wl];refine (kR (level+1) gL.drew (by unfold bS;omega)).mono ?_;rintro e oX ⟨rfl,rfl⟩;have xd:=oq.tr (mZ.tr (Ext.dr gL));have zd:=lv gL;refine ⟨_,rfl,rfl,rfl,rfl,Lo.wv (ry.ext (mZ.tr (Ext.dr gL))),λmy e66=> ?_⟩;subst e66;have ho':=ho.ext xd;have awF:CD.n<=4:=by have h1:=(ho.rd (show 0<4 by decide)).n;have h2:=List.length_filter_le (λn=>decide (V n=0)) ((db c).take j);rw [aM,aM] at h1;rw [dC] at h2;omega
   obtain ⟨B8,hres8⟩:=ho'.iN (bytes:=32) (news:=lJ (y,jO (level+1))) (.cells #[y.1,y.2.1,y.2.2,(jO (level+1))] kg) aa rfl (abS _) aa aa;refine ⟨B8,λs67 qo apb=> ?_⟩;obtain ⟨f8,wQ,hn8,x8,ER,-⟩:=hres8 s67 qo apb;have xa:=Ext.al gL.drew (.cells #[y.1,y.2.1,y.2.2,(jO (level+1))] kg);have agy:∀b,CD.aY=some b->fG.heap.size<=b/\b<wr.heap.size:=λb hb=>ho.own.lt hb
   have kp:∀j,(j<fG.heap.size\/wr.heap.size<=j)->j<gL.drew.heap.size->qo.heap[j]? =(gL.drew.alloc (.cells #[y.1,y.2.1,y.2.2,(jO (level+1))] kg)).heap[j]? :=λj hj hj2=>by rw [ER j (λhb=>by have:=agy j hb;omega) hj2,xa.heap hj2]
   refine ⟨kp _ (.inl aa) aa,kp _ (.inl aa) aa,kp _ (.inr aa) aa,f8,n-1,by omega,rfl,rfl,j+1,wk,by omega,?_,(Below.trans (xr.tr xd) x8:Below fG fG qo)⟩;rw [rW,mA,bZ,bZ,List.filter_cons_of_pos (by simpa using h3)];exact wQ
  ·refine ⟨n-1,by omega,rfl,rfl,j+1,wk,by omega,?_,xr.tr (oq.tr mZ)⟩;rw [rW,mA,bZ,bZ,List.filter_cons_of_neg (by simpa using h3)];simpa using ho.ext (oq.tr mZ)
 ·replace hb:=mg hb;have ht:(db c).take j=db c:=fB (by have:(db c).length=4:=rfl;omega);rw [ht] at ho;exact ⟨CD,rfl,ho.low aa,xr0⟩
theorem Xt {b:Int} (h:qH b=true):0<=fR b/\fR b<=7:=by unfold fR;rw [h,if_pos rfl];unfold qH at h;simp only [fq,cS] at h;omega
theorem Oy {v:Value} {V:Ce->Int} {w:World} (hV:Tl v V w) (c:Ce) (hc:eQ c):
  ah 242 #[v,ea c] w λe w'=>∃s:Sl,e=s/\aC w kg 4 w' s ((iY V c).map lJ)/\Ext w w':=by
 apply Tq.vc;intro w0 e0;have x0:=aL e0;have z0:=eN e0;have r0:Row w0 w (du c) pr:=Row.nw e0;refine eh ((hV.ext x0).at hc.ok) ?_;rintro e w1 ⟨rfl,x1⟩;have z1:=x1.size;have jC:=x0.tr x1;refine ⟨_,rfl,x1.heap aa,(vx (V c) w1).mono ?_⟩;rintro e w3 ⟨rfl,rfl⟩;unfold iY;refine ⟨_,rfl,rfl,Br.mk (λh=> ?_) (λh=>(nL (V c) w3).mono ?_)⟩
 ·rw [if_pos (by simpa using h)];refine (Tr (hV.ext jC) c hc).mono ?_;rintro e w5 ⟨s,rfl,ho,x5⟩;exact ⟨s,rfl,x5.heap aa,s,rfl,ho.low aa,jC.tr x5⟩
 ·rintro e w7 ⟨rfl,rfl⟩;rw [if_neg (by simpa using h)];refine ⟨_,rfl,rfl,Br.mk (λh2=>(Dg (V c) w7.drew).mono ?_) (λh2=> ?_)⟩
  ·rintro e w9 ⟨rfl,rfl⟩;rw [h2,if_pos rfl];have xd:=jC.tr (Ext.dr w7);have zd:=lv w7;refine ⟨_,rfl,rfl,Lo.wv (r0.ext (x1.tr (Ext.dr w7))),(Ov (hV.ext xd) c hc (fR (V c)) (Xt h2)).mono ?_⟩;rintro e aW ⟨s,rfl,ho,bz⟩;exact ⟨s,rfl,bz.heap aa,s,rfl,ho.low aa,xd.tr bz⟩
  ·rw [h2,if_neg aE];exact ⟨⟨none,0,0⟩,rfl,aC.nil,jC⟩
open Go.gw
abbrev zy:TypeId:=130
structure Sm where
 ar:Int
 cap:Int
 T:Tb
 ch:List Go.fV.Cg
 q:QS
 da:Int
 now:Int
 lP:List Ce
abbrev smC (g o:Nat) (M:Sm) (occ:Value) (sd:Sl):LV:=[g,o,.int .i64 M.da,.int .i64 M.now,occ,.slice sd.a sd.n sd.c]
def SF (F:Nat->Prop) (w:World) (s o t:Nat) (M:Sm) (occ:Value):Prop:=
 ∃g m qs Fw sd,Row w s (smC g o M occ sd) zy/\Q.vd w g m qs M.q/\IZ M.q/\WF Fw w o t M.ar M.cap M.T M.ch/\aC 0 pr 3 w sd (M.lP.map du)/\(∀i,Q.g7 g m qs i->¬Fw i)/\F=λi=>i=s\/Q.g7 g m qs i\/Fw i\/sd.aY=some i
section
variable {F F':Nat->Prop} {w w':World} {s o t:Nat} {M M':Sm} {occ:Value}
theorem SF.lt (h:SF F w s o t M occ) {i:Nat} (hi:F i):i<w:=by
 obtain ⟨g,m,qs,Fw,sd,h1,h2,-,h3,h4,-,rfl⟩:=h;rcases hi with rfl|hi|hi|hi
 ·exact h1.lt
 ·exact h2.lt i hi
 ·exact h3.lt hi
 ·exact (h4.own.lt hi).2
theorem SF.same (h:SF F w s o t M occ) (hk:∀i,F i->w'.heap[i]? =w.heap[i]?):SF F w' s o t M occ:=by obtain ⟨g,m,qs,Fw,sd,h1,h2,hq,h3,h4,h5,rfl⟩:=h;obtain ⟨kvs,m1,m2⟩:=h2.map;exact ⟨g,m,qs,Fw,sd,h1.same (hk _ (.inl rfl)),⟨h2.row.same (hk _ (.inr (.inl (.inl rfl)))),aC.c9 h2.own λb hb=>hk b (.inr (.inl (.inr (.inr hb)))),kvs,m1.same (hk _ (.inr (.inl (.inr (.inl rfl))))),m2⟩,hq,h3.same λi hi=>hk i (.inr (.inr (.inl hi))),aC.c9 h4 λb hb=>hk b (.inr (.inr (.inr hb))),h5,rfl⟩
theorem SF.ext (h:SF F w s o t M occ) (x:Ext w w'):SF F w' s o t M occ:=h.same λ_ hi=>x.heap (h.lt hi)
theorem SF.dN (h:SF F w s o t M occ) {j:Nat} {cs:LV} {τ:TypeId} (hr:Row w j cs τ) (h1:C3 τ) (h2:τ≠qB) (h3:τ≠kg) (h4:τ≠zy) (h5:τ≠Q.gE) (h6:τ≠Q.cC) (hj:∀(g:Nat) (sd:Sl),Row w s (smC g o M occ sd) zy->sd.aY≠some j):¬F j:=by
 obtain ⟨g,m,qs,Fw,sd,r1,r2,-,r3,r4,-,rfl⟩:=h;rintro (hi|hi|hi|hi)
 ·exact hr.ne r1 h4 hi
 ·exact r2.dN hr h5 h6 hi
 ·exact r3.dN hr h1 h2 h3 hi
 ·exact hj g sd r1 hi
theorem SF.jF (h:SF F w s o t M occ) {j:Nat} {cs:LV} {τ:TypeId} (hr:Row w j cs τ) (h1:C3 τ) (h2:τ≠qB) (h3:τ≠kg) (h4:τ≠zy) (h5:τ≠Q.gE) (h6:τ≠Q.cC) (h7:τ≠pr):¬F j:=by
 obtain ⟨g,m,qs,Fw,sd,r1,r2,-,r3,r4,-,rfl⟩:=h;rintro (hi|hi|hi|hi)
 ·exact hr.ne r1 h4 hi
 ·exact r2.dN hr h5 h6 hi
 ·exact r3.dN hr h1 h2 h3 hi
 ·obtain ⟨cs',hr'⟩:=bc r4 aE hi;exact hr.ne hr' h7 rfl
abbrev lL (F:Nat->Prop) (w:World) (s o t:Nat) (M:Sm) (occ:Value) (w':World):Prop:=∃F',SF F' w' s o t M occ/\aN F F' w w'
theorem SF.world (h:SF F w s o t M occ):∃Fw,WF Fw w o t M.ar M.cap M.T M.ch/\(∀i,Fw i->F i)/\∀{w':World} {T':Tb} {ch':List Go.fV.Cg},FL Fw w o t M.ar M.cap T' ch' w'->lL F w s o t {M with T:=T',ch:=ch'} occ w':=by
 obtain ⟨g,m,qs,Fw,sd,h1,h2,hq,h3,h4,h5,rfl⟩:=h;refine ⟨Fw,h3,λi hi=> .inr (.inr (.inl hi)),?_⟩;rintro w' T' ch' ⟨F',h',ht⟩;have n1:=h3.dN h1 aE aE aE;have n2:∀i,Q.g7 g m qs i->¬Fw i:=h5;have n4:∀b,sd.aY=some b->¬Fw b:=λb hb=>by obtain ⟨cs',hr'⟩:=bc h4 aE hb;exact h3.dN hr' aE aE aE
 refine ⟨_,⟨g,m,qs,F',sd,ht.mod.row h1 n1,h2.c9 ht.mod n2,hq,h',ht.mod.fm h4 n4,?_,rfl⟩,ht.mod.mono λi _ hi=> .inr (.inr (.inl hi)),λi hi=> ?_⟩
 ·exact λi hi hf=>ht.apart (G:=Q.g7 g m qs) (λi hi hg=>h5 i hg hi) (λi hi=>h2.lt i hi) i hf hi
 ·rcases hi with hi|hi|hi|hi
  ·exact .inl (.inl hi)
  ·exact .inl (.inr (.inl hi))
  ·exact (ht.sub i hi).imp (λh=> .inr (.inr (.inl h))) id
  ·exact .inl (.inr (.inr (.inr hi)))
theorem SF.queue (h:SF F w s o t M occ):∃g m qs,Q.vd w g m qs M.q/\IZ M.q/\(∃sd,Row w s (smC g o M occ sd) zy)/\(∀i,Q.g7 g m qs i->F i)/\∀{w':World} {qs':Sl} {q':QS},Q.vd w' g m qs' q'->IZ q'->aN (Q.g7 g m qs) (Q.g7 g m qs') w w'->lL F w s o t {M with q:=q'} occ w':=by
 obtain ⟨g,m,qs,Fw,sd,h1,h2,hq,h3,h4,h5,rfl⟩:=h;refine ⟨g,m,qs,h2,hq,⟨sd,h1⟩,λi hi=> .inr (.inl hi),?_⟩;rintro w' qs' q' h' hq' ht;have n1:=h2.dN h1 aE aE;have n3:∀i,Fw i->¬Q.g7 g m qs i:=λi hi hf=>h5 i hf hi
 have n4:=h2.Yy h4 aE aE aE;refine ⟨_,⟨g,m,qs',Fw,sd,ht.mod.row h1 n1,h',hq',h3.c9 ht.mod n3,ht.mod.fm h4 n4,?_,rfl⟩,ht.mod.mono λi _ hi=> .inr (.inl hi),λi hi=> ?_⟩
 ·exact λi hi hf=>ht.apart (G:=Fw) (λi hi hg=>h5 i hi hg) (λi hi=>h3.lt hi) i hi hf
 ·rcases hi with hi|hi|hi|hi
  ·exact .inl (.inl hi)
  ·exact (ht.sub i hi).imp (λh=> .inr (.inl h)) id
  ·exact .inl (.inr (.inr (.inl hi)))
  ·exact .inl (.inr (.inr (.inr hi)))
theorem SF.row (h:SF F w s o t M occ):∃g sd,Row w s (smC g o M occ sd) zy/\aC 0 pr 3 w sd (M.lP.map du)/\F s/\(∀b,sd.aY=some b->F b)/\∀{w':World} {M':Sm} {occ':Value} {sd':Sl},M'.ar=M.ar->M'.cap=M.cap->M'.T=M.T->M'.ch=M.ch->M'.q=M.q->Mod (λi=>i=s\/sd.aY=some i) w w'->Row w' s (smC g o M' occ' sd') zy->aC 0 pr 3 w' sd' (M'.lP.map du)->(∀b,sd'.aY=some b->sd.aY=some b\/w.heap.size<=b)->lL F w s o t M' occ' w':=by
 obtain ⟨g,m,qs,Fw,sd,h1,h2,hq,h3,h4,h5,rfl⟩:=h;refine ⟨g,sd,h1,h4,.inl rfl,λb hb=> .inr (.inr (.inr hb)),?_⟩;rintro w' M' occ' sd' e1 e2 e3 e4 e5 hm hr hd eM;have q1:=h2.dN h1 aE aE;have q2:=h2.Yy h4 aE aE aE;have r1:=h3.dN h1 aE aE aE;have r2:∀b,sd.aY=some b->¬Fw b:=λb hb=>by obtain ⟨cs',hr'⟩:=bc h4 aE hb;exact h3.dN hr' aE aE aE
 refine ⟨_,⟨g,m,qs,Fw,sd',hr,by rw [e5];exact h2.c9 hm λi hi hf=>hf.elim (λe=>q1 (e▸hi)) (λe=>q2 _ e hi),by rw [e5];exact hq,by rw [e1,e2,e3,e4];exact h3.c9 hm λi hi hf=>hf.elim (λe=>r1 (e▸hi)) (λe=>r2 _ e hi),hd,h5,rfl⟩,hm.mono λi _ hi=>hi.elim .inl (λe=> .inr (.inr (.inr e))),λi hi=> ?_⟩;rcases hi with hi|hi|hi|hi
 ·exact .inl (.inl hi)
 ·exact .inl (.inr (.inl hi))
 ·exact .inl (.inr (.inr (.inl hi)))
 ·exact (eM i hi).imp (λh=> .inr (.inr (.inr h))) id
end
section
variable {P P':Nat->Prop} {w w' v v':World} {s s1 s2 s3 s4:Sl} {T:Tb} {ch:List Cg} {ar cap:Int}
end
def xR (M:Sm) (c:Ce) (b:Int):Sm:={M with T:=(M.T.1,(kA M.T.2 c b).1),ch:=Xd M.T.2 M.ch c b,q:=if (kA M.T.2 c b).2=0 then DU (ig (kA M.T.2 c b).1) M.now M.q c else M.q}
def dX (M:Sm) (x:Go.fV.Cg):Sm:=if ig M.T.2 x.1=x.2 then M else xR M x.1 x.2
def DW (O:Ce->Bool) (M:Sm) (c:Ce):Bool:=decide (ig M.T.2 c=3) &&(!(iY (ig M.T.2) c).isEmpty && O (eX c))
def qS (O:Ce->Bool) (M:Sm) (c:Ce):Sm:=
 if C4 M.T.2 c=false then {M with q:=(oy M.q c (M.now+1)).1}
 else if DW O M c=true then dX {M with lP:=M.lP++ [eX c]} (c,0)
 else (iY (ig M.T.2) c).foldl dX M
def qU (M:Sm):Int:=min (M.now+1) 1099511627776
def DN (M:Sm):Sm:={M with now:=qU M,q:=(zZ M.q (qU M) M.da).1}
def sX (M:Sm):List Ce:=(zZ M.q (qU M) M.da).2
def Lv (O:Ce->Bool) (M:Sm):Sm:=(sX M).foldl (qS O) (DN M)
section
variable {F F':Nat->Prop} {w w':World} {s o t:Nat} {M M':Sm} {occ:Value}
theorem SF.tl (h:SF F w s o t M occ):Tl (.func (.func 83) #[t] #[]) (ig M.T.2) w:=by obtain ⟨Fw,hW,-,-⟩:=h.world;exact ⟨Fw,λi hi=>hW.lt hi,λw' hk c hc=>hW.ajc hk c hc⟩
theorem ajd:IZ ⟨4096,0,[]⟩:=⟨by decide,by decide,List.Pairwise.nil,List.nodup_nil⟩
theorem Bb {Fw:Nat->Prop} {ar cap:Int} {T:Tb} {ch:List Go.fV.Cg} (h:WF Fw w o t ar cap T ch) (da:Int):ah 40 #[o,da] w λe w'=>∃s F,e=Value.pointer (some ⟨s,0,none⟩)/\SF F w' s o t ⟨ar,cap,T,ch,⟨4096,0,[]⟩,min (max da 1) 64,0,[]⟩ (.func (.func 98) #[] #[])/\Ext w w'/\(∀i,F i->Fw i\/w.heap.size<=i):=by
 apply ab5.vc;refine (Q.DS 4096 w).mono ?_;rintro e w0 ⟨g,m,rfl,hq,x0,hg,hm⟩;refine ⟨_,rfl,λw2 e2=> ?_⟩;have eb:(if 64<(if 1>da then 1 else da) then 64 else (if 1>da then 1 else da))=min (max da 1) 64:=by split<;>split<;>omega
 rw [eb] at e2;have x2:=aL e2;have hr:Row w2 w0 (smC g o ⟨ar,cap,T,ch,⟨4096,0,[]⟩,min (max da 1) 64,0,[]⟩ (.func (.func 98) #[] #[]) ⟨none,0,0⟩) zy:=Row.nw e2;refine ⟨w0.heap.size,_,rfl,⟨g,m,⟨none,0,0⟩,Fw,⟨none,0,0⟩,hr,hq.ext x2,ajd,h.ext (x0.tr x2),aC.nil,?_,rfl⟩,x0.tr x2,λi hi=> ?_⟩
 ·rintro i (hi|hi|hi) hf
  ·have:=h.lt hf;omega
  ·have:=h.lt hf;omega
  ·cases hi
 ·have:=x0.size;rcases hi with hi|(hi|hi|hi)|hi|hi
  ·exact .inr aa
  ·exact .inr aa
  ·exact .inr aa
  ·cases hi
  ·exact .inl hi
  ·cases hi
theorem gA (h:SF F w s o t M occ):ah 18 #[s] w λe w'=>e=Value.pointer (some ⟨o,0,none⟩)/\w'=w:=by obtain ⟨g,sd,h1,-⟩:=h.row;apply FX.vc;exact ⟨_,h1.at 1 rfl,rfl,rfl⟩
theorem u9 (h:SF F w s o t M occ):ah 82 #[s] w λe w'=>∃s':Sl,e=s'/\aC w Q.cC 4 w' s' (M.q.l.map fE)/\Ext w w':=by obtain ⟨g,m,qs,hq,bk,⟨sd,hr⟩,-⟩:=h.queue;apply BH.vc;refine ⟨_,hr.at 0 rfl,(Q.Yf hq bk).mono ?_⟩;rintro e w' ⟨s',rfl,ho,x⟩;exact ⟨s',rfl,s',rfl,ho,x⟩
theorem xJ (h:SF F w s o t M occ) (f:Fn) (a b:Array Value):ah 118 #[s,.func f a b] w λe w'=>e=sY/\lL F w s o t M (.func f a b) w'/\Mod (λi=>i=s) w w':=by
 obtain ⟨g,sd,hr,ho,-,-,bo⟩:=h.row;apply Dv.vc;obtain ⟨p1,p2⟩:=hr.je (j:=4) (v:=.func f a b) (by simp [smC]) rfl;refine ⟨⟨rfl,p1⟩,λw0 e0=>⟨rfl,?_⟩⟩;obtain ⟨q1,q2⟩:=p2 w0 e0;have SW:∀b,sd.aY=some b->b≠s:=λb hb=>by obtain ⟨cs',hr'⟩:=bc ho aE hb;exact hr'.ne hr aE
 exact ⟨bo (M':=M) rfl rfl rfl rfl rfl (q2.mono λi _ hi=> .inl hi) q1 (q2.fm ho SW) (λb hb=> .inl hb),q2⟩
theorem LB (b:Int):0<=jj b/\jj b<=5:=by
 unfold jj;split
 ·decide
 ·split<;>decide
theorem Yg {V:Ce->Int} {c:Ce} (hc:eQ c):∀n ∈ qV V c,oM n:=λn hn=>by
 unfold qV at hn
 rcases cH.1 (List.mem_filter.1 hn).1 with rfl|h
 ·exact hc.ok
 ·exact Df hc h
theorem Hp (V:Ce->Int) (c:Ce):(qV V c).length<=7:=List.length_filter_le _ _
abbrev DT (V:Ce->Int) (now:Int) (q:QS) (n:Ce):QS:=(oy q n (now+jj (V n))).1
theorem vT (V:Ce->Int) (now:Int):∀(l:List Ce) (q:QS),q.lost<=(l.foldl (DT V now) q).lost/\(l.foldl (DT V now) q).lost<=q.lost+l.length
 | [],q=>⟨Int.le_refl _,by simp⟩
 |n::l,q=>by
  have h1:=vT V now l (DT V now q n)
  have h2:=Hq q n (now+jj (V n))
  have h3:(DT V now q n).lost=(oy q n (now+jj (V n))).1.lost:=rfl
  simp only [List.foldl_cons,dv]
  omega
set_option maxRecDepth 100000 in
theorem Uo (h:SF F w s o t M occ) (c:Ce) (hc:eQ c) (hl:0<=M.q.lost/\M.q.lost<=900000) (adQ:0<=M.now/\M.now<=1099511627776):
  ah 162 #[s,ea c] w λe w'=>e=sY/\lL F w s o t {M with q:=DU (ig M.T.2) M.now M.q c} occ w':=by
 apply IH.vc;intro w0 e0;have x0:=aL e0;have z0:=eN e0;have h0:=h.ext x0;obtain ⟨g,sd,hr,-,hFs,-⟩:=h0.row;obtain ⟨Fw,hW,-,-⟩:=h0.world;refine ⟨_,hr.at 1 rfl,(fo hW).mono ?_⟩;rintro e w2 ⟨rfl,hw⟩;subst hw;refine ⟨_,rfl,rfl,(PM h0.tl c hc).mono ?_⟩;rintro e w4 ⟨s5,rfl,ho,x4⟩;have z4:=x4.size;have ic:=ho.rd (show 0<3 by decide);have hn5:=ic.n;have h4:=h0.ext x4;have hL:=Hp (ig M.T.2) c;have bk:=Yg (V:=ig M.T.2) hc;unfold DU;generalize hLe:qV (ig M.T.2) c=L at*;rw [aM] at hn5;refine ⟨s5,rfl,x4.heap aa,λn x bD=>∃(j:Nat) (F':Nat->Prop),x=j/\j+n=L.length/\SF F' bD s o t {M with q:=(L.take j).foldl (DT (ig M.T.2) M.now) M.q} occ/\aN F F' w4 bD,⟨L.length,rfl,0,F,rfl,by omega,h4,aN.refl _ _⟩,?_⟩;rintro n us x bD ⟨j,F',rfl,hj,hS,hT⟩;have Sr:=hT.mod.size;have hF:∀i,F i->i<w.heap.size:=λi hi=>h.lt hi
 have hrd10:RdK bD s5 3 (L.map du):=hT.mod.rdK aE ic λ_ b hb hf=>by have:=(ho.own.lt hb).1;have:=hF b hf;omega
 apply Br.mk<;>intro hb
 ·replace hb:=lY hb;obtain ⟨y,hy⟩:=bH (l:=L) (i:=j) aa;have oky:=bk y (aZ hy);have hy':(L.map du)[j]? =some (du y):=by rw [aS,hy];rfl
  have rW:L.take (j+1)=L.take j++ [y]:=by rw [dE,hy];rfl
  have hlost:=vT (ig M.T.2) M.now (L.take j) M.q;have axB:(L.take j).length<=7:=by rw [dC];omega
  generalize hqj:(L.take j).foldl (DT (ig M.T.2) M.now) M.q=qj at*;refine ⟨hrd10.gR (i:=(j:Int)) aE aa hb,_,_,_,hrd10.bY hy',λdY oE cB FE=> ?_⟩;have cp:Ext bD cB:=(aL oE).af FE (aB _);have z16:=yY oE FE;have aqq:Row cB bD (du y) pr:=by rw [FE];exact Row.set (by rw [oE];exact Row.new bD [_,_,_] _) _
  have xd:=cp.tr (Ext.dr cB);have zd:=lv cB;have ala:=hS.ext xd;obtain ⟨g',m,qs,hq,qe,⟨sd',hr'⟩,eM,bo⟩:=ala.queue;refine ⟨_,hr'.at 0 rfl,_,hr'.at 3 rfl,eh (ala.tl.at oky) ?_⟩;rintro e fy ⟨rfl,cr⟩;have z19:=cr.size;have adR:=hr'.ext cr;have alb:=(aqq.ext (Ext.dr cB)).ext cr;have hd:=LB (ig M.T.2 y);have wr:aj (M.now+jj (ig M.T.2 y))=M.now+jj (ig M.T.2 y):=wI;refine ⟨_,rfl,cr.heap aa,cr.heap aa,nS (adR.at 3 rfl),Lo.wv alb,nS (adR.at 0 rfl),(DV (ig M.T.2 y) fy).mono ?_⟩;rintro e ed ⟨rfl,hw⟩;subst hw;refine ⟨_,rfl,rfl,rfl,nS (adR.at 3 rfl),Lo.wv alb,nS (adR.at 0 rfl),?_⟩;rw [wr];refine (Q.LC (hq.ext cr) qe (by simp only at hlost ⊢;omega) y (M.now+jj (ig M.T.2 y))).mono ?_;rintro e dT ⟨rfl,qs',hq',ht⟩;have wk:=mh (j:=j);have ht':aN (Q.g7 g' m qs) (Q.g7 g' m qs') cB.drew dT:=(aN.aD cr).trans ht;obtain ⟨F2,Rh,Fl⟩:=bo hq' (qe.add y _) ht';have hsF:¬Q.g7 g' m qs s:=(hq).dN hr' aE aE;have aqr:=ht'.mod.row hr' hsF;have nf:∀i,(w.heap.size<=i/\i<w4.heap.size\/bD.heap.size<=i)->i<cB.drew.heap.size->dT.heap[i]? =ed.heap[i]? :=λi h1 h2=>(Fl.mod.same i h2 (λhf=>by
   rcases h1 with ⟨h1,Sq⟩|h1
   ·rcases hT.sub i hf with q|q
    ·have:=hF i q;omega
    ·omega
   ·have:=hS.lt hf;omega)).trans (cr.heap h2).symm
  refine ⟨_,rfl,nf _ (.inl aa) aa,nf _ (.inr aa) aa,nS (aqr.at 3 rfl),n-1,by omega,rfl,j+1,F2,wk,by omega,?_,(hT.trans (aN.aD xd)).trans Fl⟩;rw [rW,List.foldl_append,hqj];exact Rh
 ·replace hb:=mg hb;rw [fB aa] at hS;exact ⟨rfl,F',hS,(aN.aD (x0.tr x4)).trans hT⟩
end
section
variable {F F':Nat->Prop} {w w':World} {s o t:Nat} {M M':Sm} {occ:Value}
theorem lL.trans {F1:Nat->Prop} {w1:World} (h:aN F F1 w w1) (k:lL F1 w1 s o t M occ w'):lL F w s o t M occ w':=by obtain ⟨F2,h2,t2⟩:=k;exact ⟨F2,h2,h.trans t2⟩
structure qu (M:Sm) (n:Nat):Prop where
 l:0<=M.q.lost/\M.q.lost<=n
 c:M.ch.length<=n
 now:0<=M.now/\M.now<=1099511627776
 d:M.lP.length<=n
theorem qu.mono {n m:Nat} (h:qu M n) (hm:n<=m):qu M m:=⟨⟨h.l.1,by have:=h.l.2;omega⟩,fY h.c hm,h.now,fY h.d hm⟩
theorem YJ (l:List En) (ch:List Go.fV.Cg) (c:Ce) (b:Int):(Xd l ch c b).length<=ch.length+1:=abN l ch c b
theorem PY (V:Ce->Int) (now:Int) (q:QS) (c:Ce):q.lost<=(DU V now q c).lost/\(DU V now q c).lost<=q.lost+7:=by have h1:=vT V now (qV V c) q;have h2:=Hp V c;have h3:DU V now q c=(qV V c).foldl (DT V now) q:=rfl;rw [h3];omega
theorem qu.edit {n:Nat} (h:qu M n) (c:Ce) (b:Int):qu (xR M c b) (n+7):=by
 have h1:=YJ M.T.2 M.ch c b;have h2:=PY (ig (kA M.T.2 c b).1) M.now M.q c;have h3:=h.l;have h4:=h.c;unfold xR;have h5:=h.d;refine ⟨?_,?_,h.now,by simp only;omega⟩
 ·simp only;split<;>omega
 ·simp only;omega
theorem qu.change {n:Nat} (h:qu M n) (x:Go.fV.Cg):qu (dX M x) (n+7):=by
 unfold dX;split
 ·exact h.mono aa
 ·exact h.edit _ _
theorem vZ (h:SF F w s o t M occ) (c:Ce) (hc:eQ c) (b:Int) (hk:qu M 800000):
  ah 113 #[s,ea c,b] w λe w'=>e=Value.int .i64 (kA M.T.2 c b).2/\lL F w s o t (xR M c b) occ w':=by
 apply IG.vc;intro w0 e0;have x0:Ext w w0.drew:=(aL e0).tr (Ext.dr w0);have z0:w0.drew.heap.size=w.heap.size+1:=by show w0.heap.size=_;rw [e0];simp
 have zd:=lv w0;have h0:=h.ext x0;obtain ⟨g,sd,hr,-⟩:=h0.row;obtain ⟨Fw,hW,eM,bo⟩:=h0.world;have hlc:=hk.c;have hll:=hk.l;refine ⟨_,(hr.at 1 rfl),(Tj hW c hc.ok b aa).mono ?_⟩;rintro e w2 ⟨rfl,hw⟩;obtain ⟨F2,h2,t2⟩:=bo hw;have hF:∀{i},w.heap.size<=i->i<w0.drew.heap.size->w2.heap[i]? =w0.drew.heap[i]? :=λh1 h3=>t2.mod.same _ h3 λhf=>by have:=h.lt hf;omega
 unfold xR;refine ⟨_,rfl,hF (aB _) aa,Br.mk (λhb=> ?_) (λhb=> ?_)⟩
 ·rw [if_pos (by simpa using hb)];refine (Uo h2 c hc (by simp only;omega) hk.now).mono ?_;rintro e w4 ⟨rfl,F4,h4,t4⟩;have hz:=t2.mod.size;have hnf:¬F2 w:=λhf=>by
   rcases t2.sub _ hf with q|q
   ·have:=h.lt q;omega
   ·omega
  exact ⟨rfl,t4.mod.same _ aa hnf,rfl,F4,h4,(aN.aD x0).trans (t2.trans t4)⟩
 ·rw [if_neg (by simpa using hb)];exact ⟨rfl,F2,h2,(aN.aD x0).trans t2⟩
theorem oW (h:SF F w s o t M occ) (x:Go.fV.Cg) (hc:eQ x.1) (hk:qu M 800000):
  ah 244 #[s,.agg (lJ x).toArray] w λe w'=>e=sY/\lL F w s o t (dX M x) occ w':=by
 apply Dw.vc;intro w0 e0;have SR:Row w0 w (lJ x) kg:=Row.nw e0;have x0:Ext w w0.drew:=(aL e0).tr (Ext.dr w0);have z0:w0.drew.heap.size=w.heap.size+1:=by show w0.heap.size=_;rw [e0];simp
 have hb:=SR.ext (Ext.dr w0);have h0:=h.ext x0;obtain ⟨g,sd,hr,-⟩:=h0.row;obtain ⟨Fw,hW,-,-⟩:=h0.world;refine ⟨_,(hr.at 1 rfl),(fo hW).mono ?_⟩;rintro e w2 ⟨rfl,hw⟩;subst hw;refine ⟨_,rfl,rfl,hb.bY (o:=3) (λj hj=>by
  match j,hj with
  |0,_=>rfl),hb.bY (o:=0) (λj hj=>by
  match j,hj with
  |0,_=>rfl
  |1,_=>rfl
  |2,_=>rfl),eh (h0.tl.at hc.ok) ?_⟩
 rintro e w4 ⟨rfl,x4⟩;have z4:=x4.size;have Bq:=x0.tr x4;unfold dX;refine ⟨_,rfl,x4.heap aa,(hb.ext x4).bY (o:=3) (λj hj=>by
  match j,hj with
  |0,_=>rfl),Br.mk (λjU=> ?_) (λjU=> ?_)⟩
 ·rw [if_neg (by simpa using jU)];refine (vZ (h.ext Bq) x.1 hc x.2 hk).mono ?_;rintro e w6 ⟨rfl,F6,h6,t6⟩;exact ⟨_,rfl,t6.mod.same _ aa (λhf=>by have:=h.lt hf;omega),rfl,F6,h6,(aN.aD Bq).trans t6⟩
 ·rw [if_pos (by simpa using jU)];exact ⟨rfl,F,h.ext Bq,aN.aD Bq⟩
end
def Oc (occ:Value) (O:Ce->Bool) (F:Nat->Prop) (w:World):Prop:=∃D:Nat->Prop,(∀i,D i->i<w.heap.size/\¬F i)/\∀w',(∀i,D i->w'.heap[i]? =w.heap[i]?)->∀c,oM c->cw Tryz.prog occ [ea c] w' λe w''=>e=Value.bool (O c)/\Ext w' w''
section
variable {F F':Nat->Prop} {w w':World} {s o t:Nat} {M M':Sm} {occ:Value} {O:Ce->Bool}
theorem Oc.pd (h:Oc occ O F w) (ht:aN F F' w w'):Oc occ O F' w':=by
 obtain ⟨D,h1,h2⟩:=h;refine ⟨D,λi hi=>⟨j9 (h1 i hi).1 ht.mod.size,λhf=> ?_⟩,λw'' hk=>h2 w'' λi hi=>(hk i hi).trans (ht.mod.same i (h1 i hi).1 (h1 i hi).2)⟩;rcases ht.sub i hf with q|q
 ·exact (h1 i hi).2 q
 ·have:=(h1 i hi).1;omega
theorem Oc.ext (h:Oc occ O F w) (x:Ext w w'):Oc occ O F w':=h.pd (aN.aD x)
theorem Oc.at (h:Oc occ O F w) {c:Ce} (hc:oM c):cw Tryz.prog occ [ea c] w λe w'=>e=Value.bool (O c)/\Ext w w':=by obtain ⟨D,h1,h2⟩:=h;exact h2 w (λ_ _=>rfl) c hc
theorem qu.fold {n:Nat}:∀{M:Sm} (l:List Go.fV.Cg),qu M n->qu (l.foldl dX M) (n+7*l.length)
 |M,[],h=>h
 |M,x::l,h=>(qu.fold l (h.change x)).mono (by simp only [dv];omega)
theorem LN (V:Ce->Int) (c:Ce):(iY V c).length<=4:=by
 unfold iY Mu mj;split
 ·split<;>simp
 ·split
  ·split
   ·simp
   ·split
    ·simp
    ·split
     ·simp
     ·split
      ·simp
      ·rw [aM];exact List.length_filter_le _ _
  ·simp
theorem VG (V:Ce->Int) (c:Ce):∀x ∈ iY V c,x.1=c\/x.1 ∈ pw c:=by
 have ad5:eX c ∈ pw c:=by simp [pw]
 have hside:∀n ∈ db c,n ∈ pw c:=λn hn=>by
  unfold db at hn;unfold pw;simp only [cH,jR,or_false] at hn ⊢;rcases hn with h|h|h|h
  ·exact .inl h
  ·exact .inr (.inl h)
  ·exact .inr (.inr (.inr (.inr (.inl h))))
  ·exact .inr (.inr (.inr (.inr (.inr h))))
 intro x hx;unfold iY at hx;split at hx
 ·unfold Mu at hx;split at hx
  ·simp only [cH,jR,or_false] at hx;rcases hx with rfl|rfl
   ·exact .inl rfl
   ·exact .inr ad5
  ·cases hx
 ·split at hx
  ·unfold mj at hx;split at hx
   ·simp only [cH,jR,or_false] at hx;rw [hx];exact .inl rfl
   ·split at hx
    ·simp only [cH,jR,or_false] at hx;rw [hx];exact .inl rfl
    ·split at hx
     ·simp only [cH,jR,or_false] at hx;rw [hx];exact .inr ad5
     ·split at hx
      ·cases hx
      ·obtain ⟨n,hn,rfl⟩:=bg.1 hx;exact .inr (hside n (List.mem_filter.1 hn).1)
  ·cases hx
set_option maxRecDepth 100000 in
theorem LO (h:SF F w s o t M occ) (hO:Oc occ O F w) (c:Ce) (hc:yV c) (hk:qu M 700000):
  ah 173 #[s,ea c] w λe w'=>e=sY/\lL F w s o t (qS O M c) occ w':=by
 apply Dx.vc;have hc':=id hc;unfold yV at hc';intro w0 e0;have x0:Ext w w0.drew:=(aL e0).tr (Ext.dr w0);have z0:w0.drew.heap.size=w.heap.size+1:=by show w0.heap.size=_;rw [e0];simp
 have h0:=h.ext x0;obtain ⟨g,sd,hr,hdr,-,hsdF,bo⟩:=h0.row;obtain ⟨Fw,hW,-,-⟩:=h0.world;refine ⟨_,(hr.at 1 rfl),(td hW c hc.wide.ok (abO aa aa)).mono ?_⟩;rintro e w2 ⟨rfl,x2⟩;have z2:=x2.size;have yA:=x0.tr x2;have ad5:oM (eX c):=Df hc.wide (by simp [pw]);refine ⟨_,rfl,x2.heap aa,Br.mk (λhb=> ?_) (λhb=> ?_)⟩
 ·have xd:=x2.tr (Ext.dr w2);have zd:=lv w2;have adQ:=hk.now;have wr:aj (M.now+1)=M.now+1:=wI;obtain ⟨g',m,qs,hq,qe,⟨sd',hr'⟩,eM,hresq⟩:=(h0.ext xd).queue;refine ⟨_,hr'.at 0 rfl,_,hr'.at 3 rfl,?_⟩;rw [wr];have hll:=hk.l;refine (Q.LC hq qe aa c (M.now+1)).mono ?_;rintro e w6 ⟨rfl,qs',hq',ht⟩;obtain ⟨F2,Rh,Fl⟩:=hresq hq' (qe.add c _) ht;have hsF:¬Q.g7 g' m qs s:=hq.dN hr' aE aE;refine ⟨_,rfl,Fl.mod.same _ aa (λhf=>by have:=h.lt hf;omega),nS ((ht.mod.row hr' hsF).at 3 rfl),rfl,?_⟩;unfold qS;rw [if_pos (by simpa using hb)];exact ⟨F2,Rh,(aN.aD (x0.tr xd)).trans Fl⟩
 have asP:¬C4 M.T.2 c=false:=by simpa using hb
 have py:=hr.ext x2;refine ⟨_,(py.at 1 rfl),(fo (hW.ext x2)).mono ?_⟩;rintro e w9 ⟨rfl,hw9⟩;subst hw9;refine ⟨_,rfl,rfl,(Oy (h0.tl.ext x2) c hc.wide).mono ?_⟩;rintro e aW ⟨jJ,rfl,ho,bz⟩;have z11:=bz.size;have ic:=ho.rd (show 0<4 by decide);have asQ:=ic.n;have hLlen:=LN (ig M.T.2) c;have hLw:∀x ∈ iY (ig M.T.2) c,eQ x.1:=λx hx=>by
  rcases VG _ _ x hx with q|q
  ·rw [q];exact hc.wide
  ·exact acS hc q
 have hU:qS O M c=if DW O M c=true then dX {M with lP:=M.lP++ [eX c]} (c,0) else (iY (ig M.T.2) c).foldl dX M:=by unfold qS;rw [if_neg asP]
 have hH:DW O M c=(decide (ig M.T.2 c=3) &&(!(iY (ig M.T.2) c).isEmpty && O (eX c))):=rfl;generalize iY (ig M.T.2) c=L at*;rw [aM] at asQ;refine ⟨jJ,rfl,bz.heap aa,(iO c hc.wide aW).mono ?_⟩;rintro e bF ⟨rfl,cc⟩;have z13:=cc.size;refine ⟨_,_,_,_,_,_,_,_,_,_,_,_,_,_,_,_,_,_,rfl,cc.heap aa,by decide,_,_,_,Ox c,λie e35 jl ZM=> ?_⟩;have m4:Ext bF jl:=(aL e35).af ZM (aB _);have z36:=yY e35 ZM;have xd:=Ext.dr jl;have zd:=lv jl;have afc:=cc.tr (m4.tr xd);have amo:=yA.tr (bz.tr afc);refine eh ((h.ext amo).tl.at hc.wide.ok) ?_;rintro e gJ ⟨rfl,gu⟩;have z37:=gu.size;have yB:=amo.tr gu;have No:=afc.tr gu;refine ⟨_,rfl,gu.heap aa,gu.heap aa,(vx (ig M.T.2 c) gJ).mono ?_⟩;rintro e jD ⟨rfl,ahB⟩;subst ahB;have asR:=py.ext (bz.tr No);refine ⟨_,rfl,rfl,rfl,Br.mk (λhf=>Br.mk (λhp=> ?_) (λhp=> ?_)) (λhf=> ?_)⟩
 ·refine ⟨_,asR.at 4 rfl,eh ((hO.ext yB).at ad5) ?_⟩;rintro e jI ⟨rfl,lZ⟩;have z42:=lZ.size;have Np:=yB.tr lZ;have hpn:(!L.isEmpty)=true:=by
   have:0<L.length:=by simp only [cS,gt_iff_lt] at hp;omega
   cases L with
   |nil=>simp at this
   |cons=>rfl
  have hf3:decide (ig M.T.2 c=3)=true:=by simpa using hf
  refine ⟨_,rfl,lZ.heap aa,lZ.heap aa,Br.mk (λhh=> ?_) (λhh=> ?_)⟩
  ·have hHt:DW O M c=true:=by rw [hH,hf3,hpn,hh];rfl
   intro jV e44;have kD:=aL e44;have z44:=eN e44;have rch:Row jV jI (lJ (c,0)) kg:=Row.nw e44;have ah4:=Ext.dr jV;have azM:=lv jV;have amp:=Np.tr (kD.tr ah4);have avK:=x2.tr ((bz.tr No).tr (lZ.tr (kD.tr ah4)));obtain ⟨g2,sd2,aa1,hdr44,hFs,hsdF2,hres44⟩:=(h.ext amp).row;refine ⟨sd2,aa1.at 5 rfl,λm7 e46=> ?_⟩;subst e46;have tU:sd2.n=M.lP.length:=by have:=(hdr44.rd (show 0<3 by decide)).n;rwa [aM] at this
   have hkd:=hk.d;obtain ⟨B8,hres8⟩:=hdr44.iN (bytes:=24) (news:=du (eX c)) (.cells #[.int .i64 (eX c).1,.int .i64 (eX c).2.1,.int .i64 (eX c).2.2] pr) (Nat.zero_le _) rfl (As _) aa aa;refine ⟨B8,λvl fG asT=> ?_⟩;obtain ⟨f8,wQ,hn8,x8,ER,ij⟩:=hres8 vl fG asT;have xa:=Ext.al jV.drew (.cells #[.int .i64 (eX c).1,.int .i64 (eX c).2.1,.int .i64 (eX c).2.2] pr);have hsdlt:∀b,sd2.aY=some b->b<w.heap.size:=λb hb=>h.lt (hsdF2 b hb)
   have kp:∀j,w.heap.size<=j->j<jV.drew.heap.size->fG.heap[j]? =(jV.drew.alloc (.cells #[.int .i64 (eX c).1,.int .i64 (eX c).2.1,.int .i64 (eX c).2.2] pr)).heap[j]? :=λj h1 h2=>by rw [ER j (λhb=>by have:=hsdlt j hb;omega) h2,xa.heap h2]
   have azN:=h.lt hFs;have m48:Mod (λj=>sd2.aY=some j) jV.drew fG:=Mod.vr x8 ER;have asV:¬sd2.aY=some s:=λe=>by obtain ⟨cs',hr'⟩:=bc hdr44 aE e;exact hr'.ne aa1 aE rfl
   have afd:=m48.row aa1 asV;obtain ⟨p1,p2⟩:=afd.je (j:=5) (v:=.slice vl.a vl.n vl.c) (by simp [smC]) rfl;have z48:=m48.size;have pb:∀j:Nat,s<j->bC (ae (some ⟨s,0,none⟩) 5)≠some j:=λj hj e=>by
    rw [cY] at e;have:s=j:=by simpa [bC] using e
    omega
   refine ⟨kp _ aa aa,kp _ aa aa,kp _ aa aa,f8,⟨rfl,p1⟩,pb _ aa,pb _ aa,pb _ aa,pb _ aa,λkv e49=> ?_⟩;obtain ⟨q1,q2⟩:=p2 kv e49;have ho9:∀b,vl.aY=some b->b≠s:=λb hb=>by obtain ⟨cs',hr'⟩:=bc wQ aE hb;exact hr'.ne afd aE
   have m49:Mod (λj=>j=s\/sd2.aY=some j) jV.drew kv:=(m48.mono λi _ hi=> .inr hi).trans (q2.mono λi _ hi=> .inl hi);obtain ⟨F3,hS3,hT3⟩:=hres44 (M':={M with lP:=M.lP++ [eX c]}) rfl rfl rfl rfl rfl m49 q1 (by rw [bZ];exact q2.fm wQ ho9) (λb hb=>by
    rcases ij with e|e
    ·exact .inl (by rw [<-e];exact hb)
    ·rw [e] at hb;cases hb;exact .inr (Nat.le_succ _))
   have z49:=q2.size;have asX:Row kv jV.drew.heap.size (du (eX c)) pr:=q2.row (Row.same (Row.new jV.drew [_,_,_] pr) f8) aa;have hnl:¬F3 jV.drew.heap.size:=hS3.dN asX aje.1 aE aE aE aE aE (λg sd r1 hb=>by
    have e1:=(r1.at 5 rfl).symm.trans (q1.at 5 rfl);have e2:sd.a=vl.a:=by injection e1 with e1;injection e1
    have e3:sd.aY=vl.aY:=by unfold Sl.aY;rw [e2]
    rw [e3] at hb;rcases ij with e|e
    ·have:=hsdlt _ (by rw [<-e];exact hb);omega
    ·rw [e] at hb;simp at hb)
   have hch49:Row kv jI (lJ (c,0)) kg:=m49.row (rch.ext ah4) (λq=>by
    rcases q with q|q
    ·omega
    ·have:=hsdlt _ q;omega)
   have hF3:∀i,F3 i->i<w.heap.size\/jV.heap.size<=i:=λi hi=>(hT3.sub i hi).imp (λq=>h.lt q) id
   refine ⟨λn x wr=>(x=0/\n=1/\wr=kv)\/(x=1/\n=0/\lL F3 kv s o t (dX {M with lP:=M.lP++ [eX c]} (c,0)) occ wr),⟨1,rfl,rfl,rfl,rfl,.inl ⟨rfl,rfl,rfl⟩⟩,?_⟩;rintro n us x wr (⟨rfl,rfl,rfl⟩|⟨rfl,rfl,hS⟩)
   ·refine Br.mk (λ_=> ?_) (λq=>by simp at q);refine ⟨⟨rfl,by decide,by decide⟩,_,_,_,_,Lo.wv hch49,λkC e60 mY e61=> ?_⟩;have oq:Ext wr mY:=(aL e60).af e61 (aB _);have z61:=yY e60 e61;refine (oW (hS3.ext oq) (c,0) hc.wide ⟨by have:=hk.l;simp only;omega,by have:=hk.c;simp only;omega,hk.now,by have:=hk.d;simp only [dc,List.length_singleton];omega⟩).mono ?_;rintro e gL ⟨rfl,F4,hS4,hT4⟩;have nf:∀i,(w.heap.size<=i/\i<jV.heap.size\/wr.heap.size<=i)->i<mY.heap.size->gL.heap[i]? =mY.heap[i]? :=λi h1 h2=>hT4.mod.same i h2 λhf=>by
     rcases h1 with ⟨h1,Sq⟩|h1
     ·rcases hF3 i hf with q|q<;>omega
     ·have:=hS3.lt hf;omega
    refine ⟨rfl,nf _ (.inl aa) aa,nf _ (.inl aa) aa,nf _ (.inl aa) aa,hT4.mod.same _ aa hnl,nf _ (.inr aa) aa,0,by omega,rfl,rfl,rfl,rfl,.inr ⟨rfl,rfl,F4,hS4,(aN.aD oq).trans hT4⟩⟩
   ·refine Br.mk (λq=>by simp at q) (λ_=> ?_);rw [hU,if_pos hHt];exact ⟨rfl,lL.trans ((aN.aD amp).trans hT3) hS⟩
  ·have hHf:¬DW O M c=true:=by rw [hH,hh,Bool.and_false,Bool.and_false];decide
   refine ⟨λn x wr=>∃(j:Nat) (F':Nat->Prop),x=j/\j+n=L.length/\SF F' wr s o t ((L.take j).foldl dX M) occ/\aN F F' jI wr,⟨L.length,rfl,rfl,0,F,rfl,by omega,h.ext Np,aN.refl _ _⟩,?_⟩;rintro n us x wr ⟨j,F',rfl,hj,hS,hT⟩;have zr:=hT.mod.size;have hzw42:=(Np).size;have Fy:RdK wr jJ 4 (L.map lJ):=hT.mod.rdK aE (ic.ext (No.tr lZ)) λ_ b hb hf=>by have:=(ho.own.lt hb).1;have:=h.lt hf;omega
   have nf:∀{w2:World} {F2:Nat->Prop} {w1:World},Ext wr w1->aN F' F2 w1 w2->∀i,(w.heap.size<=i/\i<jI.heap.size\/wr.heap.size<=i)->i<w1.heap.size->w2.heap[i]? =w1.heap[i]? :=λx1 t2 i h1 h2=>t2.mod.same i h2 λhf=>by
    rcases h1 with ⟨h1,Sq⟩|h1
    ·rcases hT.sub i hf with q|q
     ·have:=h.lt q;omega
     ·omega
    ·have:=hS.lt hf;omega
   apply Br.mk<;>intro hb
   ·replace hb:=lY hb;obtain ⟨y,hy⟩:=bH (l:=L) (i:=j) aa;have hy':(L.map lJ)[j]? =some (lJ y):=by rw [aS,hy];rfl
    have rW:L.take (j+1)=L.take j++ [y]:=by rw [dE,hy];rfl
    have wk:=mh (j:=j);refine ⟨Fy.gR (i:=(j:Int)) aE aa hb,_,_,_,_,Fy.bY hy',λw86 e86 sI e87=> ?_⟩;have qi:Ext wr sI:=(aL e86).af e87 (aB _);have z87:=yY e86 e87;refine (oW (hS.ext qi) y (hLw y (aZ hy)) ((hk.fold (L.take j)).mono (by rw [dC];omega))).mono ?_;rintro e JG ⟨rfl,F2,Rh,Fl⟩;refine ⟨rfl,nf qi Fl _ (.inl aa) aa,nf qi Fl _ (.inl aa) aa,nf qi Fl _ (.inr aa) aa,n-1,by omega,rfl,rfl,j+1,F2,wk,by omega,?_,(hT.trans (aN.aD qi)).trans Fl⟩;rw [rW,List.foldl_append];exact Rh
   ·replace hb:=mg hb;rw [fB aa] at hS;rw [hU,if_neg hHf];exact ⟨rfl,F',hS,(aN.aD Np).trans hT⟩
 ·have hHf:¬DW O M c=true:=by
   have:L=[]:=by
    have:¬0<L.length:=by simp only [eW,gt_iff_lt] at hp;omega
    exact List.length_eq_zero_iff.1 aa
   rw [hH,this];simp
  refine ⟨λn x wr=>∃(j:Nat) (F':Nat->Prop),x=j/\j+n=L.length/\SF F' wr s o t ((L.take j).foldl dX M) occ/\aN F F' jD wr,⟨L.length,rfl,rfl,0,F,rfl,by omega,h.ext yB,aN.refl _ _⟩,?_⟩;rintro n us x wr ⟨j,F',rfl,hj,hS,hT⟩;have zr:=hT.mod.size;have hzw39:=(yB).size;have Fy:RdK wr jJ 4 (L.map lJ):=hT.mod.rdK aE (ic.ext No) λ_ b hb hf=>by have:=(ho.own.lt hb).1;have:=h.lt hf;omega
  have nf:∀{w2:World} {F2:Nat->Prop} {w1:World},Ext wr w1->aN F' F2 w1 w2->∀i,(w.heap.size<=i/\i<jD.heap.size\/wr.heap.size<=i)->i<w1.heap.size->w2.heap[i]? =w1.heap[i]? :=λx1 t2 i h1 h2=>t2.mod.same i h2 λhf=>by
   rcases h1 with ⟨h1,Sq⟩|h1
   ·rcases hT.sub i hf with q|q
    ·have:=h.lt q;omega
    ·omega
   ·have:=hS.lt hf;omega
  apply Br.mk<;>intro hb
  ·replace hb:=lY hb;obtain ⟨y,hy⟩:=bH (l:=L) (i:=j) aa;have hy':(L.map lJ)[j]? =some (lJ y):=by rw [aS,hy];rfl
   have rW:L.take (j+1)=L.take j++ [y]:=by rw [dE,hy];rfl
   have wk:=mh (j:=j);refine ⟨Fy.gR (i:=(j:Int)) aE aa hb,_,_,_,_,Fy.bY hy',λw86 e86 sI e87=> ?_⟩;have qi:Ext wr sI:=(aL e86).af e87 (aB _);have z87:=yY e86 e87;refine (oW (hS.ext qi) y (hLw y (aZ hy)) ((hk.fold (L.take j)).mono (by rw [dC];omega))).mono ?_;rintro e JG ⟨rfl,F2,Rh,Fl⟩;refine ⟨rfl,nf qi Fl _ (.inl aa) aa,nf qi Fl _ (.inl aa) aa,nf qi Fl _ (.inr aa) aa,n-1,by omega,rfl,rfl,j+1,F2,wk,by omega,?_,(hT.trans (aN.aD qi)).trans Fl⟩;rw [rW,List.foldl_append];exact Rh
  ·replace hb:=mg hb;rw [fB aa] at hS;rw [hU,if_neg hHf];exact ⟨rfl,F',hS,(aN.aD yB).trans hT⟩
 ·have hHf:¬DW O M c=true:=by
   have:¬ig M.T.2 c=3:=by simpa using hf
   rw [hH,decide_eq_false this];simp
  refine ⟨λn x wr=>∃(j:Nat) (F':Nat->Prop),x=j/\j+n=L.length/\SF F' wr s o t ((L.take j).foldl dX M) occ/\aN F F' jD wr,⟨L.length,rfl,rfl,0,F,rfl,by omega,h.ext yB,aN.refl _ _⟩,?_⟩;rintro n us x wr ⟨j,F',rfl,hj,hS,hT⟩;have zr:=hT.mod.size;have hzw39:=(yB).size;have Fy:RdK wr jJ 4 (L.map lJ):=hT.mod.rdK aE (ic.ext No) λ_ b hb hf=>by have:=(ho.own.lt hb).1;have:=h.lt hf;omega
  have nf:∀{w2:World} {F2:Nat->Prop} {w1:World},Ext wr w1->aN F' F2 w1 w2->∀i,(w.heap.size<=i/\i<jD.heap.size\/wr.heap.size<=i)->i<w1.heap.size->w2.heap[i]? =w1.heap[i]? :=λx1 t2 i h1 h2=>t2.mod.same i h2 λhf=>by
   rcases h1 with ⟨h1,Sq⟩|h1
   ·rcases hT.sub i hf with q|q
    ·have:=h.lt q;omega
    ·omega
   ·have:=hS.lt hf;omega
  apply Br.mk<;>intro hb
  ·replace hb:=lY hb;obtain ⟨y,hy⟩:=bH (l:=L) (i:=j) aa;have hy':(L.map lJ)[j]? =some (lJ y):=by rw [aS,hy];rfl
   have rW:L.take (j+1)=L.take j++ [y]:=by rw [dE,hy];rfl
   have wk:=mh (j:=j);refine ⟨Fy.gR (i:=(j:Int)) aE aa hb,_,_,_,_,Fy.bY hy',λw86 e86 sI e87=> ?_⟩;have qi:Ext wr sI:=(aL e86).af e87 (aB _);have z87:=yY e86 e87;refine (oW (hS.ext qi) y (hLw y (aZ hy)) ((hk.fold (L.take j)).mono (by rw [dC];omega))).mono ?_;rintro e JG ⟨rfl,F2,Rh,Fl⟩;refine ⟨rfl,nf qi Fl _ (.inl aa) aa,nf qi Fl _ (.inl aa) aa,nf qi Fl _ (.inr aa) aa,n-1,by omega,rfl,rfl,j+1,F2,wk,by omega,?_,(hT.trans (aN.aD qi)).trans Fl⟩;rw [rW,List.foldl_append];exact Rh
  ·replace hb:=mg hb;rw [fB aa] at hS;rw [hU,if_neg hHf];exact ⟨rfl,F',hS,(aN.aD yB).trans hT⟩
end
section
variable {F F':Nat->Prop} {w w':World} {s o t:Nat} {M M':Sm} {occ:Value} {O:Ce->Bool}
def GU (l:List Ce):Prop:=∀y ∈ l,yV y
theorem qu.upd {n:Nat} (h:qu M n) (O:Ce->Bool) (c:Ce):qu (qS O M c) (n+40):=by
 have h1:=h.l;have h2:=Hq M.q c (M.now+1);unfold qS;split
 ·exact ⟨by simp only;omega,by have:=h.c;simp only;omega,h.now,by have:=h.d;simp only;omega⟩
 ·split
  ·have:qu {M with lP:=M.lP++ [eX c]} (n+1):=⟨by simp only;omega,by have:=h.c;simp only;omega,h.now,by have:=h.d;simp only [dc,List.length_singleton];omega⟩;exact (this.change _).mono aa
  ·have:=LN (ig M.T.2) c;exact (h.fold _).mono aa
theorem qu.Ul {n:Nat} (O:Ce->Bool):∀{M:Sm} (l:List Ce),qu M n->qu (l.foldl (qS O) M) (n+40*l.length)
 |M,[],h=>h
 |M,x::l,h=>(qu.Ul O l (h.upd O x)).mono (by simp only [dv];omega)
theorem RU {q:QS} {now b:Int} (hb:1<=b/\b<=64):(zZ q now b).2.length<=64:=by unfold zZ iG;rw [aM,dC];omega
theorem Hm (h:SF F w s o t M occ) (hO:Oc occ O F w) (hd:GU (sX M)) (hk:qu M 600000) (hb:1<=M.da/\M.da<=64):
  ah 119 #[s] w λe w'=>e=Value.int .i64 (sX M).length/\lL F w s o t (Lv O M) occ w':=by
 obtain ⟨g,sd,hr,ho,-,-,bo⟩:=h.row;apply II.vc;have adQ:=hk.now;have wr:aj (M.now+1)=M.now+1:=wI;have en:(if 1099511627776<M.now+1 then 1099511627776 else M.now+1)=qU M:=by unfold qU;split<;>omega
 obtain ⟨p1,p2⟩:=hr.je (j:=3) (v:=.int .i64 (qU M)) (by simp [smC]) rfl;refine ⟨M.now,hr.at 3 rfl,⟨rfl,p1⟩,λw1 e1=> ?_⟩;rw [wr,en] at e1;obtain ⟨q1,q2⟩:=p2 w1 e1;have SW:∀b,sd.aY=some b->b≠s:=λb hb=>by obtain ⟨cs',hr'⟩:=bc ho aE hb;exact hr'.ne hr aE
 obtain ⟨F1,h1,t1⟩:=bo (M':={M with now:=qU M}) (occ':=occ) (sd':=sd) rfl rfl rfl rfl rfl (q2.mono λi _ hi=> .inl hi) q1 (q2.fm ho SW) (λb hb=> .inl hb);have xd:=Ext.dr w1;have t1d:=t1.trans (aN.aD xd);obtain ⟨g',m,qs,hq,qe,⟨sd',hr'⟩,eM,hresq⟩:=(h1.ext xd).queue;refine ⟨_,hr'.at 0 rfl,_,hr'.at 3 rfl,_,hr'.at 2 rfl,(Q.Yv hq qe (qU M) M.da).mono ?_⟩;rintro e w5 ⟨s6,rfl,qs',qh,hq',ht⟩;obtain ⟨F5,h5,t5⟩:=hresq hq' (qe.due _ _) ht;have h5:SF F5 w5 s o t (DN M) occ:=h5;have T5:=t1d.trans t5;have hO5:=hO.pd T5;have ic:=qh.rd (show 0<3 by decide);have Rj:(sX M).length<=64:=RU hb;have ic:RdK w5 s6 3 ((sX M).map du):=ic;have qh:aC w1.drew.heap.size pr 3 w5 s6 ((sX M).map du):=qh;have hk5:qu (DN M) 600000:=⟨hk.l,hk.c,by show 0<=qU M/\qU M<=_;unfold qU;omega,hk.d⟩;obtain ⟨g1,sd1,r1,-,-,f1,-⟩:=(h1.ext xd).row;have hsq:¬Q.g7 g' m qs s:=hq.dN hr' aE aE;have r5:=ht.mod.row r1 hsq;have hsF:∀b,s6.aY=some b->¬F5 b:=λb hb=>by
  obtain ⟨cs6,hr6⟩:=bc qh aE hb;refine h5.dN hr6 aje.1 aE aE aE aE aE (λg sd r2 jU=> ?_);have e1:=(r2.at 5 rfl).symm.trans (r5.at 5 rfl);have e2:sd.a=sd1.a:=by injection e1 with e1;injection e1
  have e3:sd.aY=sd1.aY:=by unfold Sl.aY;rw [e2]
  have q1:=h1.lt (f1 b (by rw [<-e3];exact jU));have q2:=(qh.own.lt hb).1;have q3:=lv w1;omega
 unfold Lv;generalize sX M=L at*;generalize DN M=M0 at*;have hn6:=ic.n;rw [aM] at hn6;refine ⟨s6,rfl,λn x wr=>∃(j:Nat) (F':Nat->Prop),x=j/\j+n=L.length/\SF F' wr s o t ((L.take j).foldl (qS O) M0) occ/\aN F5 F' w5 wr,⟨L.length,0,F5,rfl,by omega,h5,aN.refl _ _⟩,?_⟩;rintro n us x QI ⟨j,F',rfl,hj,hS,hT⟩;have zr:=hT.mod.size;have Fy:RdK QI s6 3 (L.map du):=hT.mod.rdK aE ic λ_ b hb hf=>hsF b hb hf
 apply Br.mk<;>intro hb
 ·replace hb:=lY hb;obtain ⟨y,hy⟩:=bH (l:=L) (i:=j) aa;have hy':(L.map du)[j]? =some (du y):=by rw [aS,hy];rfl
  have rW:L.take (j+1)=L.take j++ [y]:=by rw [dE,hy];rfl
  have wk:=mh (j:=j);have H6:=hd y (aZ hy);refine ⟨Fy.gR (i:=(j:Int)) aE aa hb,_,_,_,Fy.bY hy',λcB FE cE yS=> ?_⟩;have cT:Ext QI cE:=(aL FE).af yS (aB _);have z17:=yY FE yS;refine (LO (hS.ext cT) ((hO5.pd hT).ext cT) y H6 ((hk5.Ul O (L.take j)).mono (by rw [dC];omega))).mono ?_;rintro e dA ⟨rfl,F2,Rh,Fl⟩;refine ⟨rfl,Fl.mod.same _ aa (λhf=>by have:=hS.lt hf;omega),n-1,by omega,j+1,F2,wk,by omega,?_,(hT.trans (aN.aD cT)).trans Fl⟩;rw [rW,List.foldl_append];exact Rh
 ·replace hb:=mg hb;rw [fB aa] at hS;exact ⟨by rw [hn6],F',hS,T5.trans hT⟩
end
variable {R:Ending->World->Prop} {w:World} {a0 a1 a2 a3 a4 a5 a6 a7 a8 a9 aA aq au aT aU aX bN bI bJ EU ak ao aw bw bR bP eZ fa eL EV br bG bq yC yD wC wD yE yF yG EW EX EY EZ E0 E1 E2 E3 E4 E5:Int}
theorem uM.vc {a0:Addr} (h:
 ∀w0,w0=w.alloc (.cells #[ak,ao,aw] 28)->
 ∀w1,w1=w0.alloc (.cells #[ab,ab,ab,ab,ab,ab,ab,ab,false] 70)->
 ∀w2,w2=w1.setRow w0 #[ak,ao,aw,ab,ab,ab,a2,a3,false]->
 ah 43 #[.slice (aJ (ae (some a0) 1) (0) (16) 1) (16-0) (16-0),.pointer none] w2 (Ri λx4 w3=>K2 w w0 w2 w3 (
 ah 44 #[.agg #[ak,ao,aw,ab,ab,ab,a2,a3,false]] w3 (Rb λb6 w5=>K2 w w0 w3 w5 (
 Br (!b6)
 (R (Value.tuple #[(-1:Int),(1:Int)]) w5)
 (Br (x4<0)
 (R (Value.tuple #[(-1:Int),(8:Int)]) w5)
 (ah 45 #[a0,.agg #[ak,ao,aw,ab,ab,ab,a2,a3,false]] w5 (Rb λb8 w7=>K2 w w0 w5 w7 (
 Br (!b8)
 (R (Value.tuple #[(-1:Int),(11:Int)]) w7)
 (ah 47 #[a0] w7.drew (Rv λv10 w9=>K2 w w0 w7.drew w9 (
 ag w9 (some ⟨w0,0,none⟩) 0 [ak,ao,aw,ab,ab,ab,a2,a3,false]/\ah 48 #[.agg #[ak,ao,aw,ab,ab,ab,a2,a3,false]] w9 (vy λbU cc bW cm cp cT aW=>K2 w w0 w9 aW (
 ah 46 #[v10,.agg #[bU,cc,bW,cm,cp,cT]] aW (Rb λNx dA=>K2 w w0 aW dA (
 Br Nx
 (R (Value.tuple #[(-1:Int),(12:Int)]) dA)
 (ah 47 #[a0] dA.drew (Rv λv21 fh=>K2 w w0 dA.drew fh (
 ag fh (some ⟨w0,0,none⟩) 0 [ak,ao,aw,ab,ab,ab,a2,a3,false]/\ah 48 #[.agg #[ak,ao,aw,ab,ab,ab,a2,a3,false]] fh (vy λdz eH dQ fk fw gy cL=>K2 w w0 fh cL (
 ah 49 #[v21,.agg #[dz,eH,dQ,fk,fw,gy]] cL (Rb λVY dH=>K2 w w0 cL dH (
 ∀fj,fj=dH.setRow w0 #[ak,ao,aw,ab,ab,ab,a2,a3,VY]->
 ∀j6,j6=fj.drew.alloc (.cells #[ak,ao,aw,ab,ab,ab,a2,a3,VY,ab,ab,false] 111)->
 (0:Int)<=x4/\x4<((16:Nat):Int)/\(true=true/\Wr j6 (ae (ae (some a0) 1) ((x4:Int).toNat*1)) 1)/\bC (ae (ae (some a0) 1) ((x4:Int).toNat*1))≠some w.heap.size/\bC (ae (ae (some a0) 1) ((x4:Int).toNat*1))≠some w0.heap.size/\bC (ae (ae (some a0) 1) ((x4:Int).toNat*1))≠some fj.drew.heap.size/\(∀ej,ej=aG j6 (ae (ae (some a0) 1) ((x4:Int).toNat*1)) [.pointer (some ⟨fj.drew.heap.size,0,none⟩)]->
 R (Value.tuple #[x4,ab]) ej)))))))))))))))))))))))):ah 11 #[a0,.agg #[ak,ao,aw],a2,a3] w R:=
 cq bT Tryz.func11 h
theorem vY.vc {a0:Addr} (h:
 ∃(p0 p1 p2 p3 p4 p5 p6 p7 p8 p9 H4 Wh ow Ng p14 Rf:Option Addr),ag w (ae (some a0) 1) 0 [.pointer p0,p1,p2,p3,p4,p5,p6,p7,p8,p9,H4,Wh,ow,Ng,p14,Rf]/\
 ∃I16:Nat->Int->Sl->World->Prop,
 (∃GK,I16 GK (0) ⟨none,0,0⟩ w)/\
 ∀(GK:Nat) (aqh:Nat->Value) (cr:Int) (uB:Sl) (ed:World),I16 GK cr uB ed->
 Br (cr<16)
 (((0:Int)<=cr/\cr<((16:Nat):Int))/\∃(Sz:Option Addr),([.pointer p0,p1,p2,p3,p4,p5,p6,p7,p8,p9,H4,Wh,ow,Ng,p14,Rf]:LV)[(cr:Int).toNat*1]? =some (.pointer Sz)/\
 Br (!(Sz).isNone)
 (∀fH,fH=ed.alloc (.cells #[cr] 3)->
 ba 8 1 fH uB 1 [cr]/\∀(WV:Sl) (eG:World),aV 3 1 fH uB 1 [cr] WV eG->Kp ed fH eG/\
 ∃Nh,Nh<GK/\I16 Nh ((aj (cr+1))) WV eG)
 (∃Nh,Nh<GK/\I16 Nh ((aj (cr+1))) uB ed))
 (R uB ed)):ah 12 #[a0] w R:=
 cq ⟨[(3,⟨[(10,.int .i64),(3,.slice)],[],[]⟩)],[],[]⟩ Tryz.func12 h
theorem vX.vc {a0:Addr} (h:
 ah 50 #[a0,a1] w (λe w0=>∃(p1:Option Addr),e=p1/\
 Br (p1).isNone
 (R (6:Int) w0)
 ((0:Int)<=a1/\a1<((16:Nat):Int)/\(true=true/\Wr w0 (ae (ae (some a0) 1) ((a1:Int).toNat*1)) 1)/\(∀w2,w2=aG w0 (ae (ae (some a0) 1) ((a1:Int).toNat*1)) [.pointer none]->
 R (0:Int) w2)))):ah 13 #[a0,a1] w R:=
 cq bT Tryz.func13 h
theorem PV.vc (h:
 ∀w0,w0=w.alloc (.cells #[aA,aq,au,aT] 94)->
 ah 39 #[aA,aq,au] w0.drew (λe w1=>∃(p2:Option Addr),e=p2/\Kp w w0.drew w1/\
 ag w1 (some ⟨w,3,none⟩) 0 [aT]/\ah 40 #[p2,aT] w1 (λe w3=>∃(p4:Option Addr),e=p4/\Kp w w1 w3/\
 ∀w5,w5=w3.alloc (.cells #[p4,.pointer none,.pointer none,.pointer none,.pointer none,.pointer none,.pointer none,.pointer none,.pointer none,.pointer none,.pointer none,.pointer none,.pointer none,.pointer none,.pointer none,.pointer none,.pointer none] 56)->
 R (Value.pointer (some ⟨w3,0,none⟩)) w5))):ah 38 #[.agg #[aA,aq,au,aT]] w R:=
 cq bT Tryz.func38 h
theorem xH.vc {a0:Addr} (h:
 ∃(p0:Option Addr),ld w (ae (some a0) 0)=some (.pointer p0)/\
 R p0 w):ah 41 #[a0] w R:=
 cq bT Tryz.func41 h
theorem xS.vc {a0:Sl} (h:
 ∃I0:Nat->Int->World->Prop,
 (∃n1,I0 n1 (0) w)/\
 ∀(n1:Nat) (wM:Nat->Value) (x3:Int) (w4:World),I0 n1 x3 w4->
 Br (decide (x3<((a0.n:Nat):Int)))
 (ee a0.a x3 a0.n/\∃(p6:Option Addr),ld w4 (ae a0.a ((x3:Int).toNat*1))=some (.pointer p6)/\
 aP (aiS none p6) (Br (aiT none p6)
 (R x3 w4)
 (∃n5,n5<n1/\I0 n5 ((aj (x3+1))) w4)))
 (R (Value.int .i64 (-1)) w4)):ah 43 #[a0,.pointer (none:Option Addr)] w R:=
 cq ⟨[(2,⟨[(8,.int .i64)],[],[]⟩)],[],[]⟩ Tryz.func43 h
theorem XV.vc {bJ:Bool} (h:
 ∀w0,w0=w.alloc (.cells #[aA,aq,au,aT,aU,aX,bN,bI,bJ] 70)->
 Br (bN>=2)
 (Br (bN<=131072)
 (Br (bI>=1)
 (Br (bI<=262144)
 (ah 99 #[.agg #[aA,aq,au],(70368744177664:Int)] w0 (Rb λb2 w1=>Kp w w0 w1/\
 Br b2
 (ah 99 #[.agg #[aT,aU,aX],(262144:Int)] w1 (Rb λb4 w3=>Kp w w1 w3/\
 R b4 w3))
 (R false w1)))
 (R false w0))
 (R false w0))
 (R false w0))
 (R false w0)):ah 44 #[.agg #[aA,aq,au,aT,aU,aX,bN,bI,bJ]] w R:=
 cq bT Tryz.func44 h
theorem uI.vc {a0:Addr} {eL:Bool} (h:
 ∀w0,w0=w.alloc (.cells #[ak,ao,aw,bw,bR,bP,eZ,fa,eL] 70)->
 ∃(p1:Option Addr),ld w0.drew (ae (some a0) 0)=some (.pointer p1)/\
 ah 18 #[p1] w0.drew (λe w2=>∃(p3:Option Addr),e=p3/\Kp w w0.drew w2/\
 ag w2 w 0 [ak,ao,aw]/\ah 101 #[.agg #[ak,ao,aw]] w2 (iM λx5 x6 x7 w4=>Kp w w2 w4/\
 ah 100 #[p3,.agg #[x5,x6,x7]] w4 (Rb λb9 w8=>Kp w w4 w8/\
 R b9 w8)))):ah 45 #[a0,.agg #[ak,ao,aw,bw,bR,bP,eZ,fa,eL]] w R:=
 cq bT Tryz.func45 h
theorem FY.vc {a0:Value} (h:
 ∀w0,w0=w.alloc (.cells #[ak,ao,aw,bw,bR,bP] 107)->
 ah 102 #[a0,.agg #[ak,ao,aw,bw,bR,bP],.func (.func 103) #[] #[]] w0 (Rb λb2 w1=>Kp w w0 w1/\
 R b2 w1)):ah 46 #[a0,.agg #[ak,ao,aw,bw,bR,bP]] w R:=
 cq bT Tryz.func46 h
theorem vK.vc {a0:Addr} (h:
 ∃(p0:Option Addr),ld w (ae (some a0) 0)=some (.pointer p0)/\
 ah 18 #[p0] w (λe w1=>∃(p2:Option Addr),e=p2/\
 ah 27 #[p2] w1 (λe w3=>∃(v4:Value),e=v4/\
 R v4 w3))):ah 47 #[a0] w R:=
 cq bT Tryz.func47 h
theorem FW.vc {bJ:Bool} (h:
 ∀w0,w0=w.alloc (.cells #[aA,aq,au,aT,aU,aX,bN,bI,bJ] 70)->
 ∀w1,w1=w0.alloc (.cells #[ab,ab,ab,ab,ab,ab] 107)->
 ah 104 #[.agg #[aA,aq,au],bN,bI] w1 (vy λx3 x4 x5 x6 x7 x8 w2=>K2 w w0 w1 w2 (
 ∀w9,w9=w2.setRow w0 #[x3,x4,x5,x6,x7,x8]->
 R (Value.agg #[x3,x4,x5,x6,x7,x8]) w9))):ah 48 #[.agg #[aA,aq,au,aT,aU,aX,bN,bI,bJ]] w R:=
 cq bT Tryz.func48 h
theorem IJ.vc {a0:Value} (h:
 ∀w0,w0=w.alloc (.cells #[ak,ao,aw,bw,bR,bP] 107)->
 ah 105 #[.agg #[ak,ao,aw,bw,bR,bP]] w0 (vy λx2 x3 x4 x5 x6 x7 w1=>Kp w w0 w1/\
 ah 46 #[a0,.agg #[x2,x3,x4,x5,x6,x7]] w1 (Rb λb9 w8=>Kp w w1 w8/\
 R b9 w8))):ah 49 #[a0,.agg #[ak,ao,aw,bw,bR,bP]] w R:=
 cq bT Tryz.func49 h
theorem Aj.vc {a0:Addr} (h:
 Br (a1<0)
 (R (Value.pointer none) w)
 (Br (a1>=16)
 (R (Value.pointer none) w)
 ((0:Int)<=a1/\a1<((16:Nat):Int)/\∃(p0:Option Addr),ld w (ae (ae (some a0) 1) ((a1:Int).toNat*1))=some (.pointer p0)/\
 R p0 w))):ah 50 #[a0,a1] w R:=
 cq bT Tryz.func50 h
theorem Ll.vc (h:
 ∀w0,w0=w.alloc (.cells #[aA,aq,au] 28)->
 Br (decide (((if au<(if aq<aA then aq else aA) then au else (if aq<aA then aq else aA)):Int)>=(aj (0-a1))))
 (R (Value.bool (decide (((if au>(if aq>aA then aq else aA) then au else (if aq>aA then aq else aA)):Int)<=a1))) w0)
 (R false w0)):ah 99 #[.agg #[aA,aq,au],a1] w R:=
 cq bT Tryz.func99 h
theorem ab1.vc (h:
 ∀w0,w0=w.alloc (.cells #[aA,aq,au] 28)->
 ∀w1,w1=w0.alloc (.cells #[ab,ab,ab] 41)->
 ah 152 #[aA] w1.drew (Ri λx3 w2=>K2 w w0 w1.drew w2 (
 ag w2 (some ⟨w,2,none⟩) 0 [au]/\ag w2 (some ⟨w,1,none⟩) 0 [aq]/\ah 152 #[aq] w2 (Ri λx5 w4=>K2 w w0 w2 w4 (
 ag w4 (some ⟨w,2,none⟩) 0 [au]/\ah 152 #[au] w4 (Ri λx7 w6=>K2 w w0 w4 w6 (
 ∀w8,w8=w6.setRow w0 #[x3,x5,x7]->
 R (Value.agg #[x3,x5,x7]) w8))))))):ah 101 #[.agg #[aA,aq,au]] w R:=
 cq bT Tryz.func101 h
theorem TN.vc {a0:Value} {a2:Value} (h:
 ∀w0,w0=w.alloc (.cells #[ak,ao,aw,bw,bR,bP] 107)->
 ah 153 #[a0,.agg #[ak,ao,aw,bw,bR,bP],a2] w0 (λe w1=>∃(x2 x3 x4:Int) (b5:Bool),e=Value.tuple #[.agg #[x2,x3,x4],b5]/\Kp w w0 w1/\
 ∀w6,w6=w1.alloc (.cells #[ab,ab,ab] 41)->
 ∀w7,w7=w6.setRow w1 #[x2,x3,x4]->
 R b5 w7)):ah 102 #[a0,.agg #[ak,ao,aw,bw,bR,bP],a2] w R:=
 cq bT Tryz.func102 h
theorem TA.vc (h:
 ∀w0,w0=w.alloc (.cells #[aA,aq,au] 28)->
 ∀w1,w1=w0.alloc (.cells #[ab,ab,ab,ab,ab,ab] 107)->
 ∀w2,w2=w1.alloc (.cells #[ab,ab,ab] 28)->
 ∀w3,w3=w2.setRow w1 #[(aj (Int.tdiv (if 0>a1 then 0 else a1) 2)),ab,(aj (Int.tdiv (if 0>a1 then 0 else a1) 2))]->
 (ah 154 #[.agg #[aA,aq,au],.agg #[(aj (Int.tdiv (if 0>a1 then 0 else a1) 2)),ab,(aj (Int.tdiv (if 0>a1 then 0 else a1) 2))]] w3.drew (iM λx5 x6 x7 w4=>K3 w w0 w1 w3.drew w4 (
 ag w4 w 0 [aA,aq,au]/\ah 145 #[.agg #[aA,aq,au],.agg #[(aj (Int.tdiv (if 0>a1 then 0 else a1) 2)),.int .i64 (if 0>a2 then 0 else a2),(aj (Int.tdiv (if 0>a1 then 0 else a1) 2))]] w4 (iM λx9 bj bz w8=>K3 w w0 w1 w4 w8 (
 ∀cM,cM=w8.setRow w0 #[x5,x6,x7,x9,bj,bz]->
 R (Value.agg #[x5,x6,x7,x9,bj,bz]) cM)))))/\(ah 154 #[.agg #[aA,aq,au],.agg #[(aj (Int.tdiv (if 0>a1 then 0 else a1) 2)),ab,(aj (Int.tdiv (if 0>a1 then 0 else a1) 2))]] w3.drew (iM λbW cm cp bF=>K3 w w0 w1 w3.drew bF (
 ag bF w 0 [aA,aq,au]/\ah 145 #[.agg #[aA,aq,au],.agg #[(aj (Int.tdiv (if 0>a1 then 0 else a1) 2)),.int .i64 (if 0>a2 then 0 else a2),(aj (Int.tdiv (if 0>a1 then 0 else a1) 2))]] bF (iM λcg cr cZ cE=>K3 w w0 w1 bF cE (
 ∀ed,ed=cE.setRow w0 #[bW,cm,cp,cg,cr,cZ]->
 R (Value.agg #[bW,cm,cp,cg,cr,cZ]) ed)))))):ah 104 #[.agg #[aA,aq,au],a1,a2] w R:=
 cq bT Tryz.func104 h
theorem KP.vc (h:
 ∀w0,w0=w.alloc (.cells #[aA,aq,au,aT,aU,aX] 107)->
 ∀w1,w1=w0.alloc (.cells #[ab,ab,ab,ab,ab,ab] 107)->
 ah 156 #[aq,(1:Int)] w1.drew (Ri λx3 w2=>K2 w w0 w1.drew w2 (
 ag w2 (some ⟨w,3,none⟩) 0 [aT,aU,aX]/\ag w2 w 0 [aA,aq,au]/\ah 155 #[.agg #[aA,aq,au],(1:Int),x3] w2 (iM λx5 x6 x7 w4=>K2 w w0 w2 w4 (
 ag w4 (some ⟨w,3,none⟩) 0 [aT,aU,aX]/\ah 155 #[.agg #[aT,aU,aX],(1:Int),aq] w4 (iM λx9 bj bz w8=>K2 w w0 w4 w8 (
 ∀cM,cM=w8.setRow w0 #[x5,x6,x7,x9,bj,bz]->
 R (Value.agg #[x5,x6,x7,x9,bj,bz]) cM))))))):ah 105 #[.agg #[aA,aq,au,aT,aU,aX]] w R:=
 cq bT Tryz.func105 h
theorem acT.vc (h:
 ∀w0,w0=w.alloc (.cells #[aA,aq,au] 28)->
 ∀w1,w1=w0.alloc (.cells #[ak,ao,aw] 28)->
 ∀w2,w2=w1.alloc (.cells #[ab,ab,ab] 28)->
 ah 203 #[.agg #[aA,aq,au],.func (.func 204) #[] #[.pointer (some ⟨w0,0,none⟩)]] w2 (iM λx4 x5 x6 w3=>K2 w w1 w2 w3 (
 ∀w7,w7=w3.setRow w1 #[x4,x5,x6]->
 R (Value.agg #[x4,x5,x6]) w7))):ah 145 #[.agg #[aA,aq,au],.agg #[ak,ao,aw]] w R:=
 cq bT Tryz.func145 h
theorem Mv.vc (h:
 ah 214 #[a0] w (λe w0=>∃(x1:Int),e=x1/\
 R (Value.int .i64 ((x1:Int).fdiv (2 ^(min (16:Int).toNat 64)))) w0)):ah 152 #[a0] w R:=
 cq bT Tryz.func152 h
theorem Pr.vc {a0:Value} {a2:Value} (h:
 aP (ke a0) (
 ∀w0,w0=w.alloc (.cells #[a0] 65)->
 ∀w1,w1=w0.alloc (.cells #[ak,ao,aw,bw,bR,bP] 107)->
 aP (ke a2) (
 ∀w2,w2=w1.alloc (.cells #[a2] 180)->
 ∀w3,w3=w2.alloc (.cells #[ab,ab,ab] 41)->
 ∀w4,w4=w3.alloc (.cells #[false] 4)->
 ah 215 #[.agg #[ak,ao,aw,bw,bR,bP]] w4 (Rv λv6 w5=>K5 w w0 w1 w2 w3 w4 w5 (
 ∃(xs7:List (LV)) (Rd8 F9:Nat->Prop) (Cj:Nat->(Nat->Prop)->Int->Int->Int->Bool->World->Prop) (X11:Option Nat->(Nat->Prop)->Int->Int->Int->Bool->World->Prop),
 (∀x ∈ xs7,∃(bU cc bW:Int),x=[.agg #[.int .i64 bU,.int .i64 cc,.int .i64 bW]])/\
 (∀(n15:Nat) (F16:Nat->Prop) (cT cg cr:Int) (QO:Bool) (ed cL:World),Cj n15 F16 cT cg cr QO ed->Below w5 ed cL->(∀i,F16 i->cL.heap[i]? =ed.heap[i]?)->Cj n15 F16 cT cg cr QO cL)/\
 (∀(n23:Option Nat) (F24:Nat->Prop) (dQ fk fw:Int) (N2:Bool) (dH eY:World),X11 n23 F24 dQ fk fw N2 dH->Below w5 dH eY->(∀i,F24 i->eY.heap[i]? =dH.heap[i]?)->X11 n23 F24 dQ fk fw N2 eY)/\
 (∀(Su:Nat) (F32:Nat->Prop) (ey g8 jX:Int) (ZO:Bool) (gJ:World),Cj Su F32 ey g8 jX ZO gJ->∀i,F32 i->i<gJ.heap.size/\i≠w5.heap.size/\i≠w5.heap.size+1)/\
 (∀(n38:Option Nat) (F39:Nat->Prop) (lW kq lZ:Int) (MU:Bool) (jV:World),X11 n38 F39 lW kq lZ MU jV->∀i,F39 i->i<jV.heap.size/\i≠w5.heap.size/\i≠w5.heap.size+1)/\
 (∀i,Rd8 i->i<w5.heap.size/\¬F9 i/\i≠w.heap.size/\i≠w0.heap.size/\i≠w1.heap.size/\i≠w2.heap.size/\i≠w3.heap.size/\True)/\
 (∀yN:World,KJ w5 w5 yN->Iter Tryz.prog (v6) yN Rd8 xs7/\aO [a0]/\aO [ak,ao,aw,bw,bR,bP]/\aO [a2]/\Cj 0 F9 (0) (0) (0) false yN)/\
 (∀(n46:Nat) (F47:Nat->Prop) (az8:Nat->Value) (Cc sa lr:Int) (b52:Bool) (im ou ky:Int) (ov:World),xs7[n46]? =some [.agg #[.int .i64 im,.int .i64 ou,.int .i64 ky]]->Cj n46 F47 Cc sa lr b52 ov->
 ∀jZ,jZ=ov.alloc (.cells #[ab,ab,ab] 41)->
 ∀sQ,sQ=jZ.setRow ov #[im,ou,ky]->
 Below ov ov sQ/\∀l8:World,Rec (w5.heap.size+1) sQ l8->Cj n46 F47 Cc sa lr b52 l8->
 cw Tryz.prog a0 [.agg #[im,ou,ky]] l8.drew (Ri λoq kC=>K6 w w0 w1 w2 w3 ov l8.drew kC (
 ag kC (some ⟨w1,0,none⟩) 0 [a2]/\cw Tryz.prog a2 [oq] kC (Rb λb63 gL=>K6 w w0 w1 w2 w3 ov kC gL (
 Br b63
 (∀oX,oX=gL.setRow w2 #[im,ou,ky]->
 ∀E7,E7=oX.setRow w3 #[true]->
 true=true/\∃F66:Nat->Prop,(aO [a0]/\aO [ak,ao,aw,bw,bR,bP]/\aO [a2]/\X11 none F66 im ou ky true E7)/\Step (λi=>(F47 i\/i ∈([w.heap.size,w0.heap.size,w1.heap.size,w2.heap.size,w3.heap.size]:List Nat))\/ov.heap.size<=i) (λi=>F66 i\/i ∈([w.heap.size,w0.heap.size,w1.heap.size,w2.heap.size,w3.heap.size]:List Nat)) l8 E7)
 (∃F67:Nat->Prop,(aO [a0]/\aO [ak,ao,aw,bw,bR,bP]/\aO [a2]/\Cj (n46+1) F67 Cc sa lr b52 gL)/\Step (λi=>(F47 i\/i ∈([w.heap.size,w0.heap.size,w1.heap.size,w2.heap.size,w3.heap.size]:List Nat))\/ov.heap.size<=i) (λi=>F67 i\/i ∈([w.heap.size,w0.heap.size,w1.heap.size,w2.heap.size,w3.heap.size]:List Nat)) l8 gL))))))/\
 (∀(F68:Nat->Prop) (aAa:Nat->Value) (oC m8 nc:Int) (b73:Bool) (jK:World),Cj xs7.length F68 oC m8 nc b73 jK->jK.heap[w5.heap.size]? =some (.deferred (some []))->
 ∀pn,pn=jK.setRow w2 #[ab,ab,ab]->
 ∀iq,iq=pn.setRow w3 #[false]->
 iq.heap[w5.heap.size]? =some (.deferred (some []))/\∀sK:World,Rec w5 iq sK->
 R (Value.tuple #[.agg #[ab,ab,ab],false]) sK)/\
 (∀(F78:Nat->Prop) (aqk:Nat->Value) (wG uA sH:Int) (b83:Bool) (Gw:World),X11 none F78 wG uA sH b83 Gw->Gw.heap[w5.heap.size]? =some (.deferred (some []))->
 Gw.heap[w5.heap.size]? =some (.deferred (some []))/\∀JD:World,Rec w5 Gw JD->
 R (Value.tuple #[.agg #[wG,uA,sH],b83]) JD)))))):ah 153 #[a0,.agg #[ak,ao,aw,bw,bR,bP],a2] w R:=
 cq ⟨[],[],[(3,⟨[],[(3,[.int .i64,.int .i64,.int .i64]),(4,[.bool])],[]⟩,[.agg [.int .i64,.int .i64,.int .i64]])]⟩ Tryz.func153 h
theorem acU.vc (h:
 ∀w0,w0=w.alloc (.cells #[aA,aq,au] 28)->
 ∀w1,w1=w0.alloc (.cells #[ak,ao,aw] 28)->
 ∀w2,w2=w1.alloc (.cells #[ab,ab,ab] 28)->
 ah 203 #[.agg #[aA,aq,au],.func (.func 216) #[] #[.pointer (some ⟨w0,0,none⟩)]] w2 (iM λx4 x5 x6 w3=>K2 w w1 w2 w3 (
 ∀w7,w7=w3.setRow w1 #[x4,x5,x6]->
 R (Value.agg #[x4,x5,x6]) w7))):ah 154 #[.agg #[aA,aq,au],.agg #[ak,ao,aw]] w R:=
 cq bT Tryz.func154 h
theorem Zp.vc (h:
 ∀w0,w0=w.alloc (.cells #[aA,aq,au] 28)->
 ∀w1,w1=w0.alloc (.cells #[a1] 3)->
 ∀w2,w2=w1.alloc (.cells #[a2] 3)->
 ∀w3,w3=w2.alloc (.cells #[ab,ab,ab] 28)->
 ah 203 #[.agg #[aA,aq,au],.func (.func 217) #[] #[.pointer (some ⟨w0,0,none⟩),.pointer (some ⟨w1,0,none⟩)]] w3 (iM λx5 x6 x7 w4=>K2 w w2 w3 w4 (
 ∀w8,w8=w4.setRow w2 #[x5,x6,x7]->
 R (Value.agg #[x5,x6,x7]) w8))):ah 155 #[.agg #[aA,aq,au],a1,a2] w R:=
 cq bT Tryz.func155 h
theorem Vo.vc (h:
 ah 214 #[a0] w (λe w0=>∃(x1:Int),e=x1/\
 ah 214 #[a1] w0 (λe w2=>∃(x3:Int),e=x3/\
 ah 214 #[(aj (x1-x3))] w2 (λe w4=>∃(x5:Int),e=x5/\
 R x5 w4)))):ah 156 #[a0,a1] w R:=
 cq bT Tryz.func156 h
theorem Zm.vc (h:
 R ((aj ((if 2147483648<(if (-2147483648)>a0 then (-2147483648) else a0) then 2147483648 else (if (-2147483648)>a0 then (-2147483648) else a0))*2 ^(min (16:Int).toNat 64)))) w):ah 174 #[a0] w R:=
 cq bT Tryz.func174 h
theorem sy.vc {a0:Sl} {a1:Value} (h:
 ∃I0:Nat->Int->World->Prop,
 (∃n1,I0 n1 (0) w)/\
 ∀(n1:Nat) (wM:Nat->Value) (x3:Int) (w4:World),I0 n1 x3 w4->
 Br (decide (x3<((a0.n:Nat):Int)))
 (ee a0.a x3 a0.n/\∃(p6:Option Addr),ld w4 (ae a0.a ((x3:Int).toNat*1))=some (.pointer p6)/\
 cw Tryz.prog a1 [.pointer p6] w4 (λe w7=>∃(b8:Bool),e=b8/\
 Br b8
 (R x3 w7)
 (∃n5,n5<n1/\I0 n5 ((aj (x3+1))) w7)))
 (R (Value.int .i64 (-1)) w4)):ah 175 #[a0,a1] w R:=
 cq ⟨[(2,⟨[(8,.int .i64)],[],[]⟩)],[],[]⟩ Tryz.func175 h
theorem Zo.vc (h:
 ∀w0,w0=w.alloc (.cells #[aA,aq,au] 28)->
 Br (a1<0)
 (R (0:Int) w0)
 (Br (a1>=3)
 (R (0:Int) w0)
 (ah 245 #[w] w0 (λe w1=>∃(p2 p3 p4:Option Addr),e=Value.agg #[p2,p3,p4]/\
 ((0:Int)<=a1/\a1<((3:Nat):Int))/\∃(p5:Option Addr),([.pointer p2,p3,p4]:LV)[(a1:Int).toNat*1]? =some (.pointer p5)/\
 aP (dB p5) (∃(x6:Int),ld w1 p5=some (.int .i64 x6)/\
 R x6 w1))))):ah 178 #[.agg #[aA,aq,au],a1] w R:=
 cq bT Tryz.func178 h
theorem Zn.vc {a1:Value} (h:
 ∀w0,w0=w.alloc (.cells #[aA,aq,au] 28)->
 ∀w1,w1=w0.alloc (.cells #[ab,ab,ab] 28)->
 ah 245 #[w] w1 (λe w2=>∃(p3 p4 p5:Option Addr),e=Value.agg #[p3,p4,p5]/\Kp w0 w1 w2/\
 ∃I6:Nat->Int->World->Prop,
 (∃n7,aO [ab,ab,ab]/\I6 n7 (0) w2)/\
 ∀(n7:Nat) (us8:Nat->Value) (x9:Int) (bD:World),I6 n7 x9 bD->
 Br (x9<3)
 (((0:Int)<=x9/\x9<((3:Nat):Int))/\∃(ow:Option Addr),([.pointer p3,p4,p5]:LV)[(x9:Int).toNat*1]? =some (.pointer ow)/\
 aP (dB ow) (∃(cc:Int),ld bD ow=some (.int .i64 cc)/\
 cw Tryz.prog a1 [x9,cc] bD (Ri λcm bK=>Kp w0 bD bK/\
 aP (dB ow) (((ow).isSome=true/\Wr bK ow 1)/\Nq ow w0/\(∀cB,cB=aG bK ow [cm]->
 ∃rU,rU<n7/\aO [ab,ab,ab]/\I6 rU ((aj (x9+1))) cB)))))
 (∃(cT cg cr:Int),ag bD w 0 [cT,cg,cr]/\
 ∀fh,fh=bD.setRow w0 #[cT,cg,cr]->
 R (Value.agg #[cT,cg,cr]) fh))):ah 203 #[.agg #[aA,aq,au],a1] w R:=
 cq ⟨[(2,⟨[(8,.int .i64)],[],[]⟩)],[],[]⟩ Tryz.func203 h
theorem Vs.vc {c0:Addr} (h:
 ∃(x0 x1 x2:Int),ag w (some c0) 0 [x0,x1,x2]/\
 ah 178 #[.agg #[x0,x1,x2],a0] w (λe w3=>∃(x4:Int),e=x4/\
 ah 205 #[a1,x4] w3 (λe w5=>∃(x6:Int),e=x6/\
 R x6 w5))):ah 204 #[a0,a1,c0] w R:=
 cq bT Tryz.func204 h
theorem Vn.vc (h:
 ah 214 #[a0] w (λe w0=>∃(x1:Int),e=x1/\
 ah 214 #[a1] w0 (λe w2=>∃(x3:Int),e=x3/\
 ah 214 #[(aj (x1+x3))] w2 (λe w4=>∃(x5:Int),e=x5/\
 R x5 w4)))):ah 205 #[a0,a1] w R:=
 cq bT Tryz.func205 h
theorem Vl.vc (h:
 R (Value.int .i64 (if 140737488355328<(if (-140737488355328)>a0 then (-140737488355328) else a0) then 140737488355328 else (if (-140737488355328)>a0 then (-140737488355328) else a0))) w):ah 214 #[a0] w R:=
 cq bT Tryz.func214 h
theorem Pq.vc (h:
 ∀w0,w0=w.alloc (.cells #[aA,aq,au,aT,aU,aX] 107)->
 R (Value.func (.func 265) #[] #[w]) w0):ah 215 #[.agg #[aA,aq,au,aT,aU,aX]] w R:=
 cq bT Tryz.func215 h
theorem Vu.vc {c0:Addr} (h:
 ∃(x0 x1 x2:Int),ag w (some c0) 0 [x0,x1,x2]/\
 ah 178 #[.agg #[x0,x1,x2],a0] w (λe w3=>∃(x4:Int),e=x4/\
 ah 156 #[a1,x4] w3 (λe w5=>∃(x6:Int),e=x6/\
 R x6 w5))):ah 216 #[a0,a1,c0] w R:=
 cq bT Tryz.func216 h
theorem Qv.vc {c0:Addr} {c1:Addr} (h:
 ∃(x0:Int),ld w (some c0)=some (.int .i64 x0)/\
 Br (a0==x0)
 (∃(x1:Int),ld w (some c1)=some (.int .i64 x1)/\
 ah 214 #[x1] w (λe w2=>∃(x3:Int),e=x3/\
 R x3 w2))
 (R a1 w)):ah 217 #[a0,a1,c0,c1] w R:=
 cq bT Tryz.func217 h
theorem Vq.vc {a0:Addr} (h:
 ∀w0,w0=w.alloc (.cells #[.pointer none,.pointer none,.pointer none] 306)->
 Wt w0.drew ⟨w,0,none⟩ 3/\(∀w1,w1=aG w0.drew w [.pointer (ae (some a0) 0),.pointer (ae (some a0) 1),.pointer (ae (some a0) 2)]->
 ∃(p2 p3 p4:Option Addr),ag w1 w 0 [.pointer p2,p3,p4]/\
 R (Value.agg #[p2,p3,p4]) w1)):ah 245 #[a0] w R:=
 cq bT Tryz.func245 h
theorem Qs.vc (h:
 ah 214 #[a0] w (λe w0=>∃(x1:Int),e=x1/\
 R (Value.int .i64 (nB .i64 x1 65535)) w0)):ah 258 #[a0] w R:=
 cq bT Tryz.func258 h
theorem Jt.vc {a0:Value} {c0:Addr} (h:
 ∃(x0 x1 x2 x3 x4 x5:Int),ag w (some c0) 0 [x0,x1,x2,x3,x4,x5]/\
 ah 266 #[.agg #[x0,x1,x2,x3,x4,x5]] w (λe w6=>∃(x7 x8 x9 bj bz bU:Int) (E6:Bool),e=Value.tuple #[.agg #[x7,x8,x9],.agg #[bj,bz,bU],E6]/\
 ∀bK,bK=w6.alloc (.cells #[ab,ab,ab] 41)->
 ∀dY,dY=bK.alloc (.cells #[ab,ab,ab] 41)->
 ∀cB,cB=dY.setRow w6 #[x7,x8,x9]->
 ∀cE,cE=cB.setRow bK #[bj,bz,bU]->
 ∃I18:Nat->Int->World->Prop,
 (∃n19,aO [x7,x8,x9]/\aO [bj,bz,bU]/\I18 n19 x8 cE)/\
 ∀(n19:Nat) (ap2:Nat->Value) (dm:Int) (cL:World),I18 n19 dm cL->
 Br E6
 (Br (dm<=bz)
 (∃I24:Nat->Int->World->Prop,
 (∃n25,aO [x7,x8,x9]/\aO [bj,bz,bU]/\I24 n25 x9 cL)/\
 ∀(n25:Nat) (aAc:Nat->Value) (fw:Int) (gn:World),I24 n25 fw gn->
 Br (fw<=bU)
 (∃I30:Nat->Int->World->Prop,
 (∃Su,aO [x7,x8,x9]/\aO [bj,bz,bU]/\I30 Su x7 gn)/\
 ∀(Su:Nat) (apo:Nat->Value) (ey:Int) (iL:World),I30 Su ey iL->
 Br (ey<=bj)
 (cw Tryz.prog a0 [.agg #[ey,dm,fw]] iL (Rb λb37 jl=>K2 w6 bK iL jl (
 Br (!b37)
 (R sY jl)
 (∃J6,J6<Su/\aO [x7,x8,x9]/\aO [bj,bz,bU]/\I30 J6 ((aj (ey+1))) jl))))
 (∃WO,WO<n25/\aO [x7,x8,x9]/\aO [bj,bz,bU]/\I24 WO ((aj (fw+1))) iL))
 (∃n23,n23<n19/\aO [x7,x8,x9]/\aO [bj,bz,bU]/\I18 n23 ((aj (dm+1))) gn))
 (R sY cL))
 (R sY cL))):ah 265 #[a0,c0] w R:=
 cq ⟨[(8,⟨[(8,.int .i64)],[],[]⟩),(5,⟨[(7,.int .i64)],[],[]⟩),(2,⟨[(6,.int .i64)],[],[]⟩)],[],[]⟩ Tryz.func265 h
theorem TC.vc (h:
 ∀w0,w0=w.alloc (.cells #[aA,aq,au,aT,aU,aX] 107)->
 ∀w1,w1=w0.alloc (.cells #[ab,ab,ab] 41)->
 ∀w2,w2=w1.alloc (.cells #[ab,ab,ab] 41)->
 ah 101 #[.agg #[aA,aq,au]] w2 (iM λx4 x5 x6 w3=>K3 w w0 w1 w2 w3 (
 ∀w7,w7=w3.alloc (.cells #[ab,ab,ab] 41)->
 ∀w8,w8=w7.setRow w3 #[x4,x5,x6]->
 ah 145 #[.agg #[aT,aU,aX],.agg #[(-1:Int),(-1:Int),(-1:Int)]] w8 (iM λbj bz bU w9=>K4 w w0 w1 w3 w8 w9 (
 ah 101 #[.agg #[bj,bz,bU]] w9 (iM λbW cm cp bF=>K4 w w0 w1 w3 w9 bF (
 ∀cE,cE=bF.alloc (.cells #[ab,ab,ab] 41)->
 ∀dA,dA=cE.setRow bF #[bW,cm,cp]->
 ∃I19:Nat->Int->World->Prop,
 (∃QN,aO [aA,aq,au,aT,aU,aX]/\aO [ab,ab,ab]/\aO [ab,ab,ab]/\aO [x4,x5,x6]/\aO [bW,cm,cp]/\I19 QN (0) dA)/\
 ∀(QN:Nat) (aq3:Nat->Value) (dI:Int) (dT:World),I19 QN dI dT->
 Br (dI<3)
 (ah 178 #[.agg #[aA,aq,au],dI] dT.drew (Ri λfk cP=>K5 w w0 w1 w3 bF dT.drew cP (
 ag cP (some ⟨w,3,none⟩) 0 [aT,aU,aX]/\ah 178 #[.agg #[aT,aU,aX],dI] cP (Ri λgy eo=>K5 w w0 w1 w3 bF cP eo (
 Br (fk==gy)
 (ah 258 #[fk] eo (Ri λiK dH=>K5 w w0 w1 w3 bF eo dH (
 Br (iK==0)
 (∀fj,fj=dH.setRow w0 #[ab,ab,ab]->
 ∀j6,j6=fj.setRow w1 #[ab,ab,ab]->
 R (Value.tuple #[.agg #[ab,ab,ab],.agg #[ab,ab,ab],false]) j6)
 (∃n24,n24<QN/\aO [aA,aq,au,aT,aU,aX]/\aO [ab,ab,ab]/\aO [ab,ab,ab]/\aO [x4,x5,x6]/\aO [bW,cm,cp]/\I19 n24 ((aj (dI+1))) dH))))
 (∃n24,n24<QN/\aO [aA,aq,au,aT,aU,aX]/\aO [ab,ab,ab]/\aO [ab,ab,ab]/\aO [x4,x5,x6]/\aO [bW,cm,cp]/\I19 n24 ((aj (dI+1))) eo))))))
 (ah 293 #[aA,aT,x4,bW] dT.drew (Ri λg8 ej=>K5 w w0 w1 w3 bF dT.drew ej (
 ag ej (some ⟨bF,2,none⟩) 0 [cp]/\ag ej (some ⟨w3,2,none⟩) 0 [x6]/\ag ej (some ⟨w,5,none⟩) 0 [aX]/\ag ej (some ⟨w,2,none⟩) 0 [au]/\ag ej (some ⟨bF,1,none⟩) 0 [cm]/\ag ej (some ⟨w3,1,none⟩) 0 [x5]/\ag ej (some ⟨w,4,none⟩) 0 [aU]/\ag ej (some ⟨w,1,none⟩) 0 [aq]/\ah 293 #[aq,aU,x5,cm] ej (Ri λm4 ie=>K5 w w0 w1 w3 bF ej ie (
 ag ie (some ⟨bF,2,none⟩) 0 [cp]/\ag ie (some ⟨w3,2,none⟩) 0 [x6]/\ag ie (some ⟨w,5,none⟩) 0 [aX]/\ag ie (some ⟨w,2,none⟩) 0 [au]/\ah 293 #[au,aX,x6,cp] ie (Ri λfX gJ=>K5 w w0 w1 w3 bF ie gJ (
 ∀jD,jD=gJ.setRow bF #[g8,cm,cp]->
 ∀ik,ik=jD.setRow bF #[g8,m4,cp]->
 ∀jm,jm=ik.setRow bF #[g8,m4,fX]->
 ∀jI,jI=jm.drew.setRow w0 #[x4,x5,x6]->
 ag jI (some ⟨bF,0,none⟩) 0 [g8,m4,fX]/\∀il,il=jI.setRow w1 #[g8,m4,fX]->
 R (Value.tuple #[.agg #[x4,x5,x6],.agg #[g8,m4,fX],true]) il)))))))))))))):ah 266 #[.agg #[aA,aq,au,aT,aU,aX]] w R:=
 cq ⟨[(4,⟨[(19,.int .i64)],[],[]⟩)],[],[]⟩ Tryz.func266 h
theorem KO.vc (h:
 Br (a0==a1)
 (R a2 w)
 (R a3 w)):ah 293 #[a0,a1,a2,a3] w R:=
 cq bT Tryz.func293 h
theorem QE.vc {a0:Addr} (h:
 ah 19 #[a0] w (λe w0=>∃(p1:Option Addr),e=p1/\
 Br (p1).isNone
 (R false w0)
 (∃I2:Nat->Int->World->Prop,
 (∃n3,I2 n3 ((-1)) w0)/\
 ∀(n3:Nat) (us4:Nat->Value) (x5:Int) (w6:World),I2 n3 x5 w6->
 Br (x5<2)
 (∃I8:Nat->Int->World->Prop,
 (∃n9,I8 n9 ((-1)) w6)/\
 ∀(n9:Nat) (Wb:Nat->Value) (bz:Int) (cM:World),I8 n9 bz cM->
 Br (bz<2)
 (ah 20 #[p1,.agg #[x5,bz]] cM (λe bK=>∃(cm:Int),e=cm/\
 Br (cm !=0)
 (R false bK)
 (∃n13,n13<n9/\I8 n13 ((aj (bz+1))) bK)))
 (∃n7,n7<n3/\I2 n7 ((aj (x5+1))) cM))
 (R true w6)))):ah 42 #[a0] w R:=
 cq ⟨[(8,⟨[(5,.int .i64)],[],[]⟩),(5,⟨[(4,.int .i64)],[],[]⟩)],[],[]⟩ Tryz.func42 h
theorem ML.vc (h:
 ah 38 #[.agg #[a0,a2,(1000000:Int),a1]] w (λe w0=>∃(p1:Option Addr),e=p1/\
 ah 39 #[a0,a2,(1000000:Int)] w0 (λe w2=>∃(p3:Option Addr),e=p3/\
 Br (p1).isNone
 (R (Value.tuple #[.pointer none,.pointer none]) w2)
 (Br (p3).isNone
 (R (Value.tuple #[.pointer none,.pointer none]) w2)
 (ah 40 #[p3,a1] w2 (λe w4=>∃(p5:Option Addr),e=p5/\
 Br (p5).isNone
 (R (Value.tuple #[.pointer none,.pointer none]) w4)
 (aP (dB p1) (aP (dB p1) (∃(p6:Option Addr),ld w4 (ae p1 0)=some (.pointer p6)/\
 ah 18 #[p6] w4 (λe w7=>∃(p8:Option Addr),e=p8/\
 Br (p8).isNone
 (R (Value.tuple #[.pointer none,.pointer none]) w7)
 (ah 41 #[p1] w7 (λe w9=>∃(H4:Option Addr),e=H4/\
 Br (H4).isNone
 (R (Value.tuple #[.pointer none,.pointer none]) w9)
 (ah 27 #[p3] w9 (λe aW=>∃(v12:Value),e=v12/\
 aP (fnC v12) (Br (Ia v12)
 (R (Value.tuple #[.pointer none,.pointer none]) aW)
 (aP (dB p1) (aP (dB p1) (∃(Ng:Option Addr),ld aW (ae p1 0)=some (.pointer Ng)/\
 ah 18 #[Ng] aW (λe bK=>∃(Rf:Option Addr),e=Rf/\
 ah 27 #[Rf] bK (λe cB=>∃(v17:Value),e=v17/\
 aP (fnC v17) (Br (Ia v17)
 (R (Value.tuple #[.pointer none,.pointer none]) cB)
 (ah 42 #[p3] cB (λe dA=>∃(Nx:Bool),e=Nx/\
 Br (!Nx)
 (R (Value.tuple #[.pointer none,.pointer none]) dA)
 (aP (dB p1) (aP (dB p1) (∃(p20:Option Addr),ld dA (ae p1 0)=some (.pointer p20)/\
 ah 18 #[p20] dA (λe ed=>∃(p22:Option Addr),e=p22/\
 ah 42 #[p22] ed (λe dT=>∃(Sw:Bool),e=Sw/\
 Br (!Sw)
 (R (Value.tuple #[.pointer none,.pointer none]) dT)
 ((((0:Int)<=16/\(16:Int)<=16/\(16:Int)<=140737488355328/\(16:Int)*104<=140737488355328)/\(∀cP,cP=dT.drew.alloc (.cells (bn [.bool false,ab,ab,ab,ab,ab,ab,ab,ab,false,ab,ab,false] (16:Int).toNat).toArray 117)->
 ((∀eG,eG=cP.alloc (.cells #[p3,p5,.slice (some ⟨dT.drew.heap.size,0,none⟩) (16:Int).toNat (16:Int).toNat] 101)->
 R (Value.tuple #[p1,.pointer (some ⟨cP,0,none⟩)]) eG)/\(∀eo,eo=cP.alloc (.cells #[p3,p5,.slice (some ⟨dT.drew.heap.size,0,none⟩) (16:Int).toNat (16:Int).toNat] 101)->
 R (Value.tuple #[p1,.pointer (some ⟨cP,0,none⟩)]) eo))/\(∀gn,gn=cP.alloc (.cells #[p3,p5,.slice (some ⟨dT.drew.heap.size,0,none⟩) (16:Int).toNat (16:Int).toNat] 101)->
 R (Value.tuple #[p1,.pointer (some ⟨cP,0,none⟩)]) gn)))/\(((0:Int)<=16/\(16:Int)<=16/\(16:Int)<=140737488355328/\(16:Int)*104<=140737488355328)/\(∀dH,dH=dT.drew.alloc (.cells (bn [.bool false,ab,ab,ab,ab,ab,ab,ab,ab,false,ab,ab,false] (16:Int).toNat).toArray 117)->
 ∀eY,eY=dH.alloc (.cells #[p3,p5,.slice (some ⟨dT.drew.heap.size,0,none⟩) (16:Int).toNat (16:Int).toNat] 101)->
 R (Value.tuple #[p1,.pointer (some ⟨dH,0,none⟩)]) eY))))))))))))))))))))))))))))))):ah 9 #[a0,a1,a2] w R:=
 cq bT Tryz.func9 h
theorem MM.vc (h:
 ah 38 #[.agg #[ab,(1:Int),ab,ab]] w (λe w0=>∃(p1:Option Addr),e=p1/\
 Br (p1).isNone
 (R false w0)
 (ah 11 #[p1,.agg #[ab,ab,ab],(100:Int),(100:Int)] w0 (λe w2=>∃(x3 x4:Int),e=Value.tuple #[x3,x4]/\
 Br (x3==(-1))
 (R (Value.bool (x4==11)) w2)
 (R false w2))))):ah 14 #[] w R:=
 cq bT Tryz.func14 h
open Go.ku
abbrev eC:TypeId:=28
abbrev qG (b:Bx):Value:=.agg #[b.1.1,b.1.2.1,b.1.2.2,b.2.1,b.2.2.1,b.2.2.2]
theorem aoz (n:Int):(if 140737488355328<(if (-140737488355328)>n then (-140737488355328) else n) then 140737488355328 else (if (-140737488355328)>n then (-140737488355328) else n))=dP n:=by
 unfold dP
 repeat' split
 all_goals omega
theorem gg (n:Int) (w:World):ah 214 #[n] w λe w'=>e=Value.int .i64 (dP n)/\w'=w:=by apply Vl.vc;exact ⟨by rw [aoz],rfl⟩
theorem Vm (a b:Int) (w:World):ah 205 #[a,b] w λe w'=>e=Value.int .i64 (mP a b)/\w'=w:=by apply Vn.vc;refine (gg a w).mono ?_;rintro e w1 ⟨rfl,rfl⟩;refine ⟨_,rfl,(gg b w1).mono ?_⟩;rintro e w2 ⟨rfl,rfl⟩;have h1:=jG a;have h2:=jG b;refine ⟨_,rfl,?_⟩;rw [wI];refine (gg _ w2).mono ?_;rintro e w3 ⟨rfl,rfl⟩;exact ⟨_,rfl,rfl,rfl⟩
theorem Hg (a b:Int) (w:World):ah 156 #[a,b] w λe w'=>e=Value.int .i64 (pN a b)/\w'=w:=by apply Vo.vc;refine (gg a w).mono ?_;rintro e w1 ⟨rfl,rfl⟩;refine ⟨_,rfl,(gg b w1).mono ?_⟩;rintro e w2 ⟨rfl,rfl⟩;have h1:=jG a;have h2:=jG b;refine ⟨_,rfl,?_⟩;rw [wI];refine (gg _ w2).mono ?_;rintro e w3 ⟨rfl,rfl⟩;exact ⟨_,rfl,rfl,rfl⟩
theorem p16:(2 ^(min (16:Int).toNat 64):Int)=65536:=by decide
theorem nN (n:Int) (w:World):ah 152 #[n] w λe w'=>e=Value.int .i64 (cW n)/\w'=w:=by apply Mv.vc;refine (gg n w).mono ?_;rintro e w1 ⟨rfl,rfl⟩;rw [p16];exact ⟨_,rfl,by rw [rM _ aE];rfl,rfl⟩
theorem Vp {x:Int} (h: -140737488355328<=x/\x<=140737488355328):nB .i64 x 65535=x % 65536:=by
 unfold nB;have e:(BitVec.ofInt IntKind.i64.bits x &&& BitVec.ofInt IntKind.i64.bits 65535).toNat=(x % 65536).toNat:=by
  show (BitVec.ofInt 64 x &&& BitVec.ofInt 64 65535).toNat=_;rw [BitVec.toNat_and];have h1:(BitVec.ofInt 64 65535).toNat=2 ^ 16-1:=by decide
  rw [h1,Nat.and_two_pow_sub_one_eq_mod,BitVec.toNat_ofInt];omega
 rw [e,Int.toNat_of_nonneg aa];exact wI
theorem zG (n:Int) (w:World):ah 258 #[n] w λe w'=>e=Value.int .i64 (pP n)/\w'=w:=by apply Qs.vc;refine (gg n w).mono ?_;rintro e w1 ⟨rfl,rfl⟩;exact ⟨_,rfl,by rw [Vp (jG n)];rfl,rfl⟩
theorem qP (n:Int) (w:World):ah 174 #[n] w λe w'=>e=Value.int .i64 (px n)/\w'=w:=by
 apply Zm.vc;rw [p16];have e:(if 2147483648<(if (-2147483648)>n then (-2147483648) else n) then 2147483648 else (if (-2147483648)>n then (-2147483648) else n))=min (max n (-2147483648)) 2147483648:=by
  repeat' split
  all_goals omega
 rw [e,wI];exact ⟨rfl,rfl⟩
theorem agf (p q r:Option Addr):One [.pointer p,q,r]:=by intro v hv;simp at hv;rcases hv with rfl|rfl|rfl<;>rfl
theorem Ey (a:Addr) (w:World):ah 245 #[a] w λe w'=>e=Value.agg #[.pointer (ae (some a) 0),.pointer (ae (some a) 1),.pointer (ae (some a) 2)]/\Ext w w':=by
 apply Vq.vc;intro w0 e0;have x0:Ext w w0.drew:=(aL e0).drew;have hr:Row w0.drew w [.pointer none,.pointer none,.pointer none] 306:=by rw [e0];exact (Row.new w [_,_,_] _).ext (Ext.dr _)
 refine ⟨⟨rfl,hr.wr bt⟩,λw1 e1=> ?_⟩;rw [hr.aG (vs:=[.pointer (ae (some a) 0),.pointer (ae (some a) 1),.pointer (ae (some a) 2)]) bt (agf _ _ _),aQ bt] at e1;have hr1:Row w1 w [.pointer (ae (some a) 0),.pointer (ae (some a) 1),.pointer (ae (some a) 2)] 306:=hr.st e1;exact ⟨_,_,_,Lo.wv hr1,rfl,x0.af e1 (aB _)⟩
def Qt (f:Int->Int->Int) (v:Ce) (k:Nat):LV:=[.int .i64 (if 0<k then f 0 v.1 else v.1),.int .i64 (if 1<k then f 1 v.2.1 else v.2.1),.int .i64 (if 2<k then f 2 v.2.2 else v.2.2)]
theorem ux (f:Int->Int->Int) (v:Ce) (fv:Value) (w:World) (hf:∀w',Ext w w'->∀i x:Int,0<=i->i<3->cw Tryz.prog fv [.int .i64 i,.int .i64 x] w' λe w''=>e=Value.int .i64 (f i x)/\Ext w' w''):
  ah 203 #[ea v,fv] w λe w'=>e=(ea (TI f v))/\Ext w w':=by
 apply Zn.vc;intro w0 e0 w1 e1;have x0:=aL e0;have z0:=eN e0;have r0:Row w0 w (Qt f v 0) eC:=Row.nw e0;have x1:=aL e1;have z1:=eN e1;refine (Ey ⟨w.heap.size,0,none⟩ w1).mono ?_;rintro e w2 ⟨rfl,x2⟩;have z2:=x2.size;refine ⟨_,_,_,rfl,x2.heap aa,λn x wr=>∃k:Nat,x=k/\k+n=3/\Row wr w (Qt f v k) eC/\Ext w wr/\w2.heap.size<=wr,⟨3,rfl,0,rfl,rfl,r0.ext (x1.tr x2),x0.tr (x1.tr x2),aB _⟩,?_⟩;rintro n us x wr ⟨k,rfl,hk,hr,xr,zr⟩;have hl:∀k,(Qt f v k).length=3:=λ_=>rfl
 have wk:=mh (j:=k);apply Br.mk<;>intro hb
 ·replace hb:=lY hb;have yR:k=0\/k=1\/k=2:=by omega
  have step:∀(j:Nat) (y:Int),k=j->j<3->(Qt f v j)[j]? =some (.int .i64 y)->aR (Qt f v j) j [(f j y)]=Qt f v (j+1)->
    aP (dB (ae (some ⟨w.heap.size,0,none⟩) j)) (∃(cc:Int),ld wr (ae (some ⟨w.heap.size,0,none⟩) j)=some (.int .i64 cc)/\
     cw Tryz.prog fv [.int .i64 (k:Int),cc] wr (λe bK=>∃(cm:Int),e=cm/\bK.heap[w0.heap.size]? =wr.heap[w0.heap.size]?/\
     aP (dB (ae (some ⟨w.heap.size,0,none⟩) j)) (((ae (some ⟨w.heap.size,0,none⟩) j).isSome=true/\Wr bK (ae (some ⟨w.heap.size,0,none⟩) j) 1)/\bC (ae (some ⟨w.heap.size,0,none⟩) j)≠some w0.heap.size/\(∀cB:World,cB=aG bK (ae (some ⟨w.heap.size,0,none⟩) j) [cm]->
     ∃rU,rU<n/\aO [ab,ab,ab]/\∃k':Nat,aj ((k:Int)+1)=k'/\k'+rU=3/\Row cB w (Qt f v k') eC/\Ext w cB/\w2.heap.size<=cB)))):=by
   intro j y hj h3 h1 h2;subst hj;refine gr rfl ⟨y,hr.at k h1,eh (hf wr xr k y aa aa) ?_⟩;rintro e bK ⟨rfl,bW⟩;have WE:=bW.size;have agr:=hr.ext bW;obtain ⟨p1,p2⟩:=agr.je (j:=k) (v:=.int .i64 (f k y)) (by rw [hl];exact h3) rfl;refine ⟨_,rfl,bW.heap aa,gr rfl ⟨⟨rfl,p1⟩,?_,λcB FE=> ?_⟩⟩
   ·rw [cY];intro q;have q:w.heap.size=w0.heap.size:=by simpa [bC] using q
    omega
   obtain ⟨q1,q2⟩:=p2 cB FE;rw [h2] at q1;have z16:=q2.size;exact ⟨n-1,by omega,rfl,k+1,wk,by omega,q1,q2.ext (xr.tr bW) λi hi=>by omega,by omega⟩
  refine ⟨⟨by omega,by omega⟩,?_⟩;rcases yR with h|h|h
  ·exact ⟨_,by rw [h];rfl,step 0 v.1 h aE rfl rfl⟩
  ·exact ⟨_,by rw [h];rfl,step 1 v.2.1 h aE rfl rfl⟩
  ·exact ⟨_,by rw [h];rfl,step 2 v.2.2 h aE rfl rfl⟩
 ·replace hb:=mg hb;have yR:k=3:=by omega
  subst yR;exact ⟨_,_,_,Lo.wv hr,λfh e20=>⟨rfl,xr.af e20 aa⟩⟩
theorem dj (v:Ce) (i:Int) (w:World):ah 178 #[ea v,i] w λe w'=>e=Value.int .i64 (di v i)/\Ext w w':=by
 apply Zo.vc;intro w0 e0;have x0:=aL e0;have r0:Row w0 w (du v) eC:=Row.nw e0;refine Br.mk (λh=> ?_) (λh=>Br.mk (λh2=> ?_) (λh2=>(Ey ⟨w.heap.size,0,none⟩ w0).mono ?_))
 ·replace h:=lY h;exact ⟨by unfold di;rw [if_neg aa,if_neg aa,if_neg aa],x0⟩
 ·simp only [cS,ge_iff_le] at h2;exact ⟨by unfold di;rw [if_neg aa,if_neg aa,if_neg aa],x0⟩
 ·simp only [eW,ge_iff_le] at h h2;rintro e w1 ⟨rfl,x1⟩;have hr:=r0.ext x1;refine ⟨_,_,_,rfl,⟨by omega,by omega⟩,?_⟩;have h3:i=0\/i=1\/i=2:=by omega
  rcases h3 with rfl|rfl|rfl
  ·exact ⟨_,rfl,gr rfl ⟨_,hr.at 0 rfl,rfl,x0.tr x1⟩⟩
  ·exact ⟨_,rfl,gr rfl ⟨_,hr.at 1 rfl,rfl,x0.tr x1⟩⟩
  ·exact ⟨_,rfl,gr rfl ⟨_,hr.at 2 rfl,rfl,x0.tr x1⟩⟩
theorem Vr (b:Ce) (i n:Int) {g:Nat} {w:World} (hr:Row w g (du b) eC):ah 204 #[i,n,g] w λe w'=>e=Value.int .i64 (mP n (di b i))/\Ext w w':=by apply Vs.vc;refine ⟨_,_,_,Lo.wv hr,(dj b i w).mono ?_⟩;rintro e w1 ⟨rfl,x1⟩;refine ⟨_,rfl,(Vm n _ w1).mono ?_⟩;rintro e w2 ⟨rfl,rfl⟩;exact ⟨_,rfl,rfl,x1⟩
theorem Vt (b:Ce) (i n:Int) {g:Nat} {w:World} (hr:Row w g (du b) eC):ah 216 #[i,n,g] w λe w'=>e=Value.int .i64 (pN n (di b i))/\Ext w w':=by apply Vu.vc;refine ⟨_,_,_,Lo.wv hr,(dj b i w).mono ?_⟩;rintro e w1 ⟨rfl,x1⟩;refine ⟨_,rfl,(Hg n _ w1).mono ?_⟩;rintro e w2 ⟨rfl,rfl⟩;exact ⟨_,rfl,rfl,x1⟩
theorem iS (a b:Ce) (w:World):ah 145 #[ea a,ea b] w λe w'=>e=(ea (jW a b))/\Ext w w':=by apply acT.vc;intro w0 e0 w1 e1 w2 e2;have x0:=aL e0;have z0:=eN e0;have x1:=aL e1;have z1:=eN e1;have r1:Row w1 w0 (du b) eC:=Row.nw e1;have x2:=aL e2;have z2:=eN e2;have yA:=x0.tr (x1.tr x2);refine (ux (λi n=>mP n (di b i)) a (.func (.func 204) #[] #[w0]) w2 λw' x' i x _ _=>cU (by kernel_rfl) rfl (Vr b i x ((r1.ext x2).ext x'))).mono ?_;rintro e w3 ⟨rfl,x3⟩;have z3:=x3.size;exact ⟨_,_,_,rfl,x3.heap aa,x3.heap aa,λw7 e7=>⟨rfl,(yA.tr x3).af e7 aa⟩⟩
theorem uh (a b:Ce) (w:World):ah 154 #[ea a,ea b] w λe w'=>e=(ea (zD a b))/\Ext w w':=by apply acU.vc;intro w0 e0 w1 e1 w2 e2;have x0:=aL e0;have z0:=eN e0;have x1:=aL e1;have z1:=eN e1;have r1:Row w1 w0 (du b) eC:=Row.nw e1;have x2:=aL e2;have z2:=eN e2;have yA:=x0.tr (x1.tr x2);refine (ux (λi n=>pN n (di b i)) a (.func (.func 216) #[] #[w0]) w2 λw' x' i x _ _=>cU (by kernel_rfl) rfl (Vt b i x ((r1.ext x2).ext x'))).mono ?_;rintro e w3 ⟨rfl,x3⟩;have z3:=x3.size;exact ⟨_,_,_,rfl,x3.heap aa,x3.heap aa,λw7 e7=>⟨rfl,(yA.tr x3).af e7 aa⟩⟩
theorem Qu (ax m i n:Int) {g h:Nat} {w:World} {τ:TypeId} (hr:Row w g [ax] τ) (hh:Row w h [m] τ):ah 217 #[i,n,g,h] w λe w'=>e=Value.int .i64 (if i=ax then dP m else n)/\Ext w w':=by
 apply Qv.vc;refine ⟨ax,hr.at 0 rfl,Br.mk (λq=>⟨m,hh.at 0 rfl,(gg m w).mono ?_⟩) (λq=> ?_)⟩
 ·rintro e w1 ⟨rfl,rfl⟩;exact ⟨_,rfl,by rw [if_pos (by simpa using q)],Ext.cQ _⟩
 ·exact ⟨by rw [if_neg (by simpa using q)],Ext.cQ _⟩
theorem iC (v:Ce) (ax m:Int) (w:World):ah 155 #[ea v,ax,m] w λe w'=>e=(ea (iD v ax m))/\Ext w w':=by apply Zp.vc;intro w0 e0 w1 e1 w2 e2 w3 e3;have x0:=aL e0;have z0:=eN e0;have x1:=aL e1;have z1:=eN e1;have r1:Row w1 w0 [ax] 3:=Row.nw e1;have x2:=aL e2;have z2:=eN e2;have r2:Row w2 w1 [m] 3:=Row.nw e2;have x3:=aL e3;have z3:=eN e3;have Av:=x0.tr (x1.tr (x2.tr x3));refine (ux (λi own=>if i=ax then dP m else own) v (.func (.func 217) #[] #[w0,w1]) w3 λw' x' i x _ _=>cU (by kernel_rfl) rfl (Qu ax m i x ((r1.ext (x2.tr x3)).ext x') ((r2.ext x3).ext x'))).mono ?_;rintro e w4 ⟨rfl,x4⟩;have z4:=x4.size;exact ⟨_,_,_,rfl,x4.heap aa,x4.heap aa,λw8 e8=>⟨rfl,(Av.tr x4).af e8 aa⟩⟩
abbrev bE:TypeId:=107
abbrev fQ (b:Bx):LV:=[.int .i64 b.1.1,.int .i64 b.1.2.1,.int .i64 b.1.2.2,.int .i64 b.2.1,.int .i64 b.2.2.1,.int .i64 b.2.2.2]
theorem mC {w:World} {g o:Nat} {cs:LV} {τ:TypeId} (hr:Row w g cs τ) {v:Value} (h:cs[o]? =some v):ag w (some ⟨g,o,none⟩) 0 [v]:=hr.bY (o:=o) (λj hj=>by
 match j,hj with
 |0,_=>exact h)
theorem qL {w:World} {g o:Nat} {cs:LV} {τ:TypeId} (hr:Row w g cs τ) {x y z:Value} (h:cs[o]? =some x) (h1:cs[o+1]? =some y) (h2:cs[o+2]? =some z):ag w (some ⟨g,o,none⟩) 0 [x,y,z]:=hr.bY (o:=o) (λj hj=>by
 match j,hj with
 |0,_=>exact h
 |1,_=>exact h1
 |2,_=>exact h2)
theorem aeb {a:Int} (h:bS a):aj (Int.tdiv (if 0>a then 0 else a) 2)=max a 0 / 2:=by
 have e:(if 0>a then 0 else a)=max a 0:=by split<;>omega
 unfold bS at h;rw [e,pK aa,wI]
theorem ai1 (a:Int):(if 0>a then 0 else a)=max a 0:=by split<;>omega
theorem Pd (aH:Ce) (wd h:Int) (hw:bS wd) (w:World):ah 104 #[ea aH,wd,h] w λe w'=>e=(qG (vC aH wd h))/\Ext w w':=by
 apply TA.vc;rw [aeb hw,ai1 h];intro w0 e0 w1 e1 w2 e2 w3 e3;have x0:=aL e0;have z0:=eN e0;have r0:Row w0 w (du aH) eC:=Row.nw e0;have x1:=aL e1;have z1:=eN e1;have x3:Ext w1 w3:=(aL e2).af e3 (aB _);have z3:=yY e2 e3;have cc:=x1.tr (x3.tr (Ext.dr w3));have zd:=lv w3;constructor
 all_goals
  refine (uh aH (max wd 0 / 2,0,max wd 0 / 2) w3.drew).mono ?_
  rintro e w4 ⟨rfl,x4⟩
  have z4:=x4.size
  refine ⟨_,_,_,rfl,x4.heap aa,x4.heap aa,x4.heap aa,Lo.wv (r0.ext (cc.tr x4)),(iS aH (max wd 0 / 2,max h 0,max wd 0 / 2) w4).mono ?_⟩
  rintro e w8 ⟨rfl,x8⟩
  have z8:=x8.size
  exact ⟨_,_,_,rfl,x8.heap aa,x8.heap aa,x8.heap aa,λcM N4=>⟨rfl,(x0.tr (cc.tr (x4.tr x8))).af N4 aa⟩⟩
structure ep where
 aH:Ce
 speed:Ce
 wd:Int
 ht:Int
 gZ:Bool
abbrev jo (b:ep):LV:=[.int .i64 b.aH.1,.int .i64 b.aH.2.1,.int .i64 b.aH.2.2,.int .i64 b.speed.1,.int .i64 b.speed.2.1,.int .i64 b.speed.2.2,.int .i64 b.wd,.int .i64 b.ht,.bool b.gZ]
abbrev BG (b:ep):Value:=.agg #[b.aH.1,b.aH.2.1,b.aH.2.2,b.speed.1,b.speed.2.1,b.speed.2.2,b.wd,b.ht,.bool b.gZ]
abbrev yQ:TypeId:=70
def ep.box (b:ep):Bx:=vC b.aH b.wd b.ht
theorem cO (b:ep) (hw:bS b.wd) (w:World):ah 48 #[BG b] w λe w'=>e=(qG b.box)/\Ext w w':=by apply FW.vc;intro w0 e0 w1 e1;have x1:Ext w w1:=(aL e0).bB e1;have z0:=eN e0;have z1:=eN e1;refine (Pd b.aH b.wd b.ht hw w1).mono ?_;rintro e w2 ⟨rfl,x2⟩;have z2:=x2.size;exact ⟨_,_,_,_,_,_,rfl,x2.heap aa,x2.heap aa,λw9 e9=>⟨rfl,(x1.tr x2).af e9 aa⟩⟩
theorem xB (v:Ce) (w:World):ah 101 #[ea v] w λe w'=>e=(ea (bu v))/\Ext w w':=by
 apply ab1.vc;intro w0 e0 w1 e1;have x0:=aL e0;have z0:=eN e0;have r0:Row w0 w (du v) eC:=Row.nw e0;have x1:Ext w0 w1.drew:=(aL e1).drew;have z1:w1.drew.heap.size=w0.heap.size+1:=by show w1.heap.size=_;rw [e1];simp
 have r1:=r0.ext x1;refine (nN v.1 w1.drew).mono ?_;rintro e w2 ⟨rfl,rfl⟩;refine ⟨_,rfl,rfl,rfl,mC r1 rfl,mC r1 rfl,(nN v.2.1 w1.drew).mono ?_⟩;rintro e w4 ⟨rfl,rfl⟩;refine ⟨_,rfl,rfl,rfl,mC r1 rfl,(nN v.2.2 w1.drew).mono ?_⟩;rintro e w6 ⟨rfl,rfl⟩;exact ⟨_,rfl,rfl,rfl,λw8 e8=>⟨by unfold bu;rfl,(x0.tr x1).af e8 aa⟩⟩
theorem zF (a b c d:Int) (w:World):ah 293 #[a,b,c,d] w λe w'=>e=Value.int .i64 (if a=b then c else d)/\w'=w:=by apply KO.vc;exact Br.mk (λh=>⟨by rw [if_pos (by simpa using h)],rfl⟩) (λh=>⟨by rw [if_neg (by simpa using h)],rfl⟩)
theorem TB (b:Bx) (w:World):ah 266 #[qG b] w λe w'=>∃lo hi:Ce,e=Value.tuple #[ea lo,ea hi,.bool (AY b)]/\(AY b=true->lo=bu b.1/\hi=gP b)/\Ext w w':=by
 apply TC.vc;intro w0 e0 w1 e1 w2 e2;have x0:=aL e0;have z0:=eN e0;have r0:Row w0 w (fQ b) bE:=Row.nw e0;have x1:=aL e1;have z1:=eN e1;have x2:=aL e2;have z2:=eN e2;refine (xB b.1 w2).mono ?_;rintro e w3 ⟨rfl,x3⟩;have z3:=x3.size;refine ⟨_,_,_,rfl,x3.heap aa,x3.heap aa,x3.heap aa,λw7 e7 w8 e8=>(iS b.2 (-1,-1,-1) w8).mono ?_⟩;have x8:Ext w3 w8:=(aL e7).af e8 (aB _);have z8:=yY e7 e8;have r8:Row w8 w3 (du (bu b.1)) pr:=by rw [e8];exact Row.set (by rw [e7];exact Row.new w3 [_,_,_] _) _
 rintro e w9 ⟨rfl,x9⟩;have z9:=x9.size;refine ⟨_,_,_,rfl,x9.heap aa,x9.heap aa,x9.heap aa,x9.heap aa,(xB (jW b.2 (-1,-1,-1)) w9).mono ?_⟩;rintro e bF ⟨rfl,cc⟩;have z13:=cc.size;refine ⟨_,_,_,rfl,cc.heap aa,cc.heap aa,cc.heap aa,cc.heap aa,λcE yS dA VV=> ?_⟩;have cg:Ext bF dA:=(aL yS).af VV (aB _);have z18:=yY yS VV;have r18:Row dA bF (du (Ds b)) pr:=by rw [VV];exact Row.set (by rw [yS];exact Row.new bF [_,_,_] _) _
 have aha:=x9.tr (cc.tr cg);have Q6:=x0.tr (x1.tr (x2.tr (x3.tr (x8.tr aha))));have rb:=r0.ext (x1.tr (x2.tr (x3.tr (x8.tr aha))));have rl:=r8.ext aha;refine ⟨λn x wr=>∃k:Nat,x=k/\k+n=3/\Ext dA wr/\∀j:Nat,j<k->pO b j=false,⟨3,rfl,rfl,rfl,rfl,rfl,0,rfl,rfl,Ext.cQ _,λj hj=>by omega⟩,?_⟩;rintro n us x wr ⟨k,rfl,hk,xr,ht⟩;have zr:=xr.size;have xd:=Ext.dr wr;have zd:=lv wr;have wk:=mh (j:=k);refine Br.mk (λhb=>(dj b.1 k wr.drew).mono ?_) (λhb=>(zF b.1.1 b.2.1 (bu b.1).1 (Ds b).1 wr.drew).mono ?_)
 ·replace hb:=lY hb;rintro e cP ⟨rfl,dQ⟩;have z25:=dQ.size;have x25d:=xr.tr (xd.tr dQ);refine ⟨_,rfl,dQ.heap aa,dQ.heap aa,dQ.heap aa,dQ.heap aa,dQ.heap aa,qL (rb.ext x25d) rfl rfl rfl,(dj b.2 k cP).mono ?_⟩;rintro e eo ⟨rfl,fw⟩;have z27:=fw.size;have next:pO b k=false->∀j:Nat,j<k+1->pO b j=false:=λh j hj=>by
   by_cases q:j<k
   ·exact ht j q
   ·rw [show j=k from by omega];exact h
  refine ⟨_,rfl,fw.heap aa,fw.heap aa,fw.heap aa,fw.heap aa,fw.heap aa,Br.mk (λh1=>(zG _ eo).mono ?_) (λh1=> ?_)⟩
  ·rintro e dH ⟨rfl,rfl⟩;have h1:di b.1 k=di b.2 k:=by simpa using h1
   refine ⟨_,rfl,rfl,rfl,rfl,rfl,rfl,Br.mk (λh2=>λfj e31 j6 Q7=> ?_) (λh2=> ?_)⟩
   ·have h2:pP (di b.1 k)=0:=by simpa using h2
    have hth:pO b k=true:=by unfold pO;rw [h1,<-h1,h2];simp [h1]
    have hsp:AY b=false:=by
     have h3:(k:Int)=0\/(k:Int)=1\/(k:Int)=2:=by omega
     unfold AY;rcases h3 with q|q|q<;>(rw [q] at hth;rw [hth];simp)
    refine ⟨(0,0,0),(0,0,0),by rw [hsp],λq=>absurd (hsp.symm.trans q) aE,((Q6.tr (x25d.tr fw)).af e31 aa).af Q7 aa⟩
   ·have h2:¬pP (di b.1 k)=0:=by simpa using h2
    exact ⟨n-1,by omega,rfl,rfl,rfl,rfl,rfl,k+1,wk,by omega,x25d.tr fw,next (by unfold pO;simp [h2])⟩
  ·have h1:¬di b.1 k=di b.2 k:=by simpa using h1
   exact ⟨n-1,by omega,rfl,rfl,rfl,rfl,rfl,k+1,wk,by omega,x25d.tr fw,next (by unfold pO;simp [h1])⟩
 ·replace hb:=mg hb;have hsp:AY b=true:=by unfold AY;rw [show pO b 0=false from ht 0 aa,show pO b 1=false from ht 1 aa,show pO b 2=false from ht 2 aa];rfl
  have rb':=rb.ext (xr.tr xd);have rl':=rl.ext (xr.tr xd);have rt':=r18.ext (xr.tr xd);rintro e ej ⟨rfl,rfl⟩;refine ⟨_,rfl,rfl,rfl,rfl,rfl,rfl,mC rt' rfl,mC rl' rfl,mC rb' rfl,mC rb' rfl,mC rt' rfl,mC rl' rfl,mC rb' rfl,mC rb' rfl,(zF b.1.2.1 b.2.2.1 (bu b.1).2.1 (Ds b).2.1 wr.drew).mono ?_⟩;rintro e ie ⟨rfl,rfl⟩;refine ⟨_,rfl,rfl,rfl,rfl,rfl,rfl,mC rt' rfl,mC rl' rfl,mC rb' rfl,mC rb' rfl,(zF b.1.2.2 b.2.2.2 (bu b.1).2.2 (Ds b).2.2 wr.drew).mono ?_⟩;rintro e gJ ⟨rfl,rfl⟩;refine ⟨_,rfl,rfl,rfl,rfl,rfl,rfl,λjD e39 ik QJ jm e41 jI ZJ=> ?_⟩;have r39:Row jD bF (du ((gP b).1,(Ds b).2.1,(Ds b).2.2)) pr:=by rw [e39];exact Row.set rt' [_,_,_]
  have r40:Row ik bF (du ((gP b).1,(gP b).2.1,(Ds b).2.2)) pr:=r39.st QJ;have r41:Row jm bF (du (gP b)) pr:=r40.st e41;have r42:Row jI bF (du (gP b)) pr:=(r41.ext (Ext.dr jm)).same (by rw [ZJ];exact setRow_other _ _ _ _ aa);have lZ:Ext w jI:=(((((Q6.tr (xr.tr xd)).af e39 aa).af QJ aa).af e41 aa).drew).af ZJ aa;exact ⟨Lo.wv r42,λil e43=>⟨bu b.1,gP b,by rw [hsp];rfl,λ_=>⟨rfl,rfl⟩,lZ.af e43 aa⟩⟩
theorem Pe (b:Bx) (w:World):ah 105 #[qG b] w λe w'=>e=(qG (iA b))/\Ext w w':=by
 apply KP.vc;intro w0 e0 w1 e1;have x0:=aL e0;have z0:=eN e0;have r0:Row w0 w (fQ b) bE:=Row.nw e0;have x1:Ext w0 w1.drew:=(aL e1).drew;have z1:w1.drew.heap.size=w0.heap.size+1:=by show w1.heap.size=_;rw [e1];simp
 have r1:=r0.ext x1;refine (Hg b.1.2.1 1 w1.drew).mono ?_;rintro e w2 ⟨rfl,rfl⟩;refine ⟨_,rfl,rfl,rfl,qL r1 rfl rfl rfl,qL r1 rfl rfl rfl,(iC b.1 1 (pN b.1.2.1 1) w1.drew).mono ?_⟩;rintro e w4 ⟨rfl,x4⟩;have z4:=x4.size;refine ⟨_,_,_,rfl,x4.heap aa,x4.heap aa,qL (r1.ext x4) rfl rfl rfl,(iC b.2 1 b.1.2.1 w4).mono ?_⟩;rintro e w8 ⟨rfl,x8⟩;have z8:=x8.size;exact ⟨_,_,_,rfl,x8.heap aa,x8.heap aa,λcM N4=>⟨rfl,(x0.tr (x1.tr (x4.tr x8))).af N4 aa⟩⟩
abbrev mE (b:Bx):List (LV):=(kV b).map λc=> [ea c]
abbrev XL (g:Nat):Value:=.func (.func 265) #[] #[g]
theorem TM (b:Bx) (g:Nat) (W0:World) (hb:Row W0 g (fQ b) bE):Iter Tryz.prog (XL g) W0 (λi=>i=g) (mE b):=by
 refine ⟨⟨_,_,_,rfl,by kernel_rfl⟩,?_⟩;intro y B J Jx F0 W hB hsJ hsX uR hRd hround h0;refine cU (by kernel_rfl) (by rfl) ?_;apply Jt.vc;have hbW:Row W g (fQ b) bE:=hb.same (hRd g rfl).2.2;refine ⟨_,_,_,_,_,_,Lo.wv hbW,(TB b W).mono ?_⟩;rintro e w6 ⟨lo,hi,rfl,hsp,x6⟩;refine ⟨_,_,_,_,_,_,_,rfl,λbK uy dY oE cB FE cE yS=> ?_⟩;have bW:=aL uy;have WE:=eN uy;have cT:Ext w6 cE:=(((bW.bB oE).af FE (aB _)).af yS aa);have z17:cE.heap.size=w6.heap.size+2:=by rw [yS,setRow_size,FE,setRow_size,oE];simp [WE]
 have xW:=x6.tr cT;have zW:=xW.size;obtain ⟨Q,hQ⟩:∃Q:Nat->World->Prop,Q=λk wr=>∃F,J k F wr/\∀i,F i->(F0 i\/cE.heap.size<=i):=⟨_,rfl⟩
 have z6:=x6.size;have hF0:∀i,F0 i->i<w6.heap.size:=λi hi=>j9 (uR _ _ _ h0 i hi) z6
 have init:Q 0 cE:=by rw [hQ];exact ⟨F0,hsJ _ _ _ _ h0 (Below.mono xW hB) λi hi=>xW.heap (uR _ _ _ h0 i hi),λi hi=> .inl hi⟩
 have round:∀{k:Nat} {wr:World} {x:LV},cE.heap.size<=wr->(mE b)[k]? =some x->Q k wr->cw Tryz.prog y x wr λe w'=>cE.heap.size<=w'.heap.size/\(∀i,i<cE.heap.size->¬F0 i->w'.heap[i]? =wr.heap[i]?)/\((e=true/\Q (k+1) w')\/(e=false/\∃F',Jx () F' w')):=λ{k wr x} hz hx h=>by
  rw [hQ] at h ⊢;obtain ⟨F,hJ,h2⟩:=h;refine dq (hround _ _ _ _ hx hJ) ?_;have c9:∀{w':World} {F2:Nat->Prop},Step F F2 wr w'->cE.heap.size<=w'.heap.size/\(∀i,i<cE.heap.size->¬F0 i->w'.heap[i]? =wr.heap[i]?):=λgC=>⟨by have:=gC.size;omega,λi hi hn=>gC.same i aa λhf=>(h2 i hf).elim hn aa⟩
  rintro e w' (⟨rfl,F2,Rk,gC⟩|⟨rfl,F2,Rk,gC⟩)
  ·refine ⟨(c9 gC).1,(c9 gC).2,.inl ⟨rfl,F2,Rk,λi hi=> ?_⟩⟩;rcases gC.sub i hi with hf|hf
   ·exact h2 i hf
   ·exact .inr aa
  ·exact ⟨(c9 gC).1,(c9 gC).2,.inr ⟨rfl,F2,Rk⟩⟩
 have fin:∀{wr:World},Q (mE b).length wr->∃F',J (mE b).length F' wr:=λh=>by rw [hQ] at h;obtain ⟨F,hJ,-⟩:=h;exact ⟨F,hJ⟩
 have n6:¬F0 w6:=λq=>by have:=hF0 _ q;omega
 have FD:¬F0 bK:=λq=>by have:=hF0 _ q;omega
 have VQ:cE.heap.size=w6.heap.size+2:=z17
 cases hspan:AY b with
 |false=>
  have B6:mE b=[]:=by unfold mE kV;rw [hspan];rfl
  rw [B6] at fin ⊢;exact ⟨λn x wr=>wr=cE,⟨0,rfl,rfl,rfl⟩,λn us x wr hwr=>by
   subst hwr;exact Br.mk (λh=>by cases h) (λ_=>⟨⟨_,rfl⟩,.inl (fin init)⟩)⟩
 |true=>
  obtain ⟨rfl,rfl⟩:=hsp hspan;have hc:kV b=KY (bu b.1) (gP b):=by unfold kV;rw [hspan];rfl
  have Fz:∀{jy jz jx:Nat},jy<cK (bu b.1).2.1 (gP b).2.1->jz<cK (bu b.1).2.2 (gP b).2.2->jx<cK (bu b.1).1 (gP b).1->
    (mE b)[(jy*cK (bu b.1).2.2 (gP b).2.2+jz)*cK (bu b.1).1 (gP b).1+jx]? =some [ea ((bu b.1).1+(jx:Int),(bu b.1).2.1+(jy:Int),(bu b.1).2.2+(jz:Int))]:=λh1 h2 h3=>by
   unfold mE;rw [hc,aS,ab6 _ _ h1 h2 h3];rfl
  have dG:(mE b).length=cK (bu b.1).2.1 (gP b).2.1*cK (bu b.1).2.2 (gP b).2.2*cK (bu b.1).1 (gP b).1:=by unfold mE;rw [aM,hc,XG]
  obtain ⟨⟨a1,a2⟩,⟨a3,a4⟩,a5,a6⟩:=ui b.1;obtain ⟨⟨b1,b2⟩,⟨b3,b4⟩,b5,b6⟩:=RM b;generalize mE b=xs at*;generalize bu b.1=a at*;generalize gP b=z at*;have hny:∀j:Nat,a.2.1+(j:Int)<=z.2.1 ↔ j<cK a.2.1 z.2.1:=λj=>by unfold cK;omega
  have hnz:∀j:Nat,a.2.2+(j:Int)<=z.2.2 ↔ j<cK a.2.2 z.2.2:=λj=>by unfold cK;omega
  have hnx:∀j:Nat,a.1+(j:Int)<=z.1 ↔ j<cK a.1 z.1:=λj=>by unfold cK;omega
  have hmy:cK a.2.1 z.2.1<=4294967297:=by unfold cK;omega
  have hmz:cK a.2.2 z.2.2<=4294967297:=by unfold cK;omega
  have hmx:cK a.1 z.1<=4294967297:=by unfold cK;omega
  generalize cK a.2.1 z.2.1=ny at*;generalize cK a.2.2 z.2.2=nz at*;generalize cK a.1 z.1=nx at*;refine ⟨λn v wr=>∃jy:Nat,v=a.2.1+jy/\jy+n=ny/\Q (jy*nz*nx) wr/\cE.heap.size<=wr,⟨ny,rfl,rfl,0,by omega,by omega,by rw [Nat.zero_mul,Nat.zero_mul];exact init,aB _⟩,?_⟩;rintro n2 us3 v cL ⟨jy,rfl,hjy,hq,zr⟩;refine Br.mk (λ_=>Br.mk (λhc1=> ?_) (λhc1=> ?_)) (λh=>by cases h)
  ·replace hc1:=lY hc1;have ly:=(hny jy).1 hc1;refine ⟨λn v wr=>∃jz:Nat,v=a.2.2+jz/\jz+n=nz/\Q ((jy*nz+jz)*nx) wr/\cE.heap.size<=wr,⟨nz,rfl,rfl,0,by omega,by omega,by rw [Nat.add_zero];exact hq,zr⟩,?_⟩;rintro n10 ay5 v gn ⟨jz,rfl,hjz,hq,zr⟩;apply Br.mk<;>intro nr
   ·replace nr:=lY nr;have lz:=(hnz jz).1 nr;refine ⟨λn v wr=>∃jx:Nat,v=a.1+jx/\jx+n=nx/\Q ((jy*nz+jz)*nx+jx) wr/\cE.heap.size<=wr,⟨nx,rfl,rfl,0,by omega,by omega,by rw [Nat.add_zero];exact hq,zr⟩,?_⟩;rintro n18 ay6 v iL ⟨jx,rfl,hjx,hq,zr⟩;apply Br.mk<;>intro SY
    ·replace SY:=lY SY;have lx:=(hnx jx).1 SY;refine dq (round zr (Fz ly lz lx) hq) ?_;have wk:aj (a.1+(jx:Int)+1)=a.1+((jx+1:Nat):Int):=by rw [wI];omega
     rintro e jl ⟨z36,k36,q⟩;have k1:=k36 w6 aa n6;have k2:=k36 bK aa FD;rcases q with ⟨rfl,WD⟩|⟨rfl,hx2⟩
     ·exact ⟨true,rfl,k1,k2,Br.mk (λh=>by cases h) (λ_=>⟨n18-1,by omega,rfl,rfl,jx+1,wk,by omega,WD,z36⟩)⟩
     ·exact ⟨false,rfl,k1,k2,Br.mk (λ_=>⟨⟨_,rfl⟩,.inr hx2⟩) (λh=>by cases h)⟩
    ·replace SY:=mg SY;have e:jx=nx:=by have:=mt (hnx jx).2 SY;omega
     subst e;have wk:aj (a.2.2+(jz:Int)+1)=a.2.2+((jz+1:Nat):Int):=by rw [wI];omega
     refine ⟨n10-1,by omega,rfl,rfl,jz+1,wk,by omega,?_,zr⟩;have:(jy*nz+(jz+1))*jx=(jy*nz+jz)*jx+jx:=by rw [<-Nat.add_assoc,Nat.add_mul _ 1,Nat.one_mul]
     rw [this];exact hq
   ·replace nr:=mg nr;have e:jz=nz:=by have:=mt (hnz jz).2 nr;omega
    subst e;have wk:aj (a.2.1+(jy:Int)+1)=a.2.1+((jy+1:Nat):Int):=by rw [wI];omega
    refine ⟨n2-1,by omega,rfl,rfl,jy+1,wk,by omega,?_,zr⟩;rw [Nat.add_mul jy 1,Nat.one_mul];exact hq
  ·replace hc1:=mg hc1;have e:jy=ny:=by have:=mt (hny jy).2 hc1;omega
   subst e;rw [<-dG] at hq;exact ⟨⟨_,rfl⟩,.inl (fin hq)⟩
theorem Pp (b:Bx) (w:World):ah 215 #[qG b] w λe w'=>e=(XL w)/\Row w' w (fQ b) bE/\Ext w w':=by apply Pq.vc;intro w0 e0;exact ⟨rfl,by rw [e0];exact Row.new w [_,_,_,_,_,_] _,(aL e0)⟩
theorem TK {b:Bx} {n:Nat} {x y z:Int} (h:(mE b)[n]? =some [.agg #[.int .i64 x,.int .i64 y,.int .i64 z]]):(kV b)[n]? =some (x,y,z):=by
 unfold mE at h;rw [aS] at h
 cases hc:(kV b)[n]? with
 |none=>rw [hc] at h;cases h
 |some c=>
  rw [hc] at h;simp only [Option.map_some] at h;injection h with h;injection h with h _;injection h with h;injection h with h;injection h with h1 h;injection h with h2 h;injection h with h3 _;injection h1 with _ h1;injection h2 with _ h2;injection h3 with _ h3;exact congrArg some (Prod.ext h1 (Prod.ext h2 h3))
theorem XM {b:Bx} {c:Ce} (h:c ∈ kV b):oM c:=by
 unfold kV at h;split at h
 ·have h1:=XH h;have h2:=ui b.1;have h3:=RM b;unfold oM bS;omega
 ·cases h
theorem TL {v:Value} {V:Ce->Int} {w:World} (hV:Tl v V w) (hv:ke v=[]) (b:Bx) (fp:Value) (hfp:ke fp=[]) (p:Int->Bool) (hp:∀(x:Int) (w':World),cw Tryz.prog fp [.int .i64 x] w' λe w''=>e=Value.bool (p x)/\Ext w' w''):
  ah 153 #[v,qG b,fp] w λe w'=>∃c:Ce,e=Value.tuple #[ea c,.bool (jN V b p)]/\Ext w w':=by
 apply Pr.vc;rw [hv,pF];intro w0 e0 w1 e1;rw [hfp,pF];intro w2 e2 w3 e3 w4 e4;have x0:=aL e0;have z0:=eN e0;have x1:=aL e1;have z1:=eN e1;have x2:=aL e2;have z2:=eN e2;have r2:∃τ,Row w2 w1 [fp] τ:=⟨_,by rw [e2];exact Row.new w1 [_] _⟩;have x3:=aL e3;have z3:=eN e3;have x4:=aL e4;have z4:=eN e4;have Bq:=x0.tr (x1.tr (x2.tr (x3.tr x4)));obtain ⟨τ2,r2⟩:=r2;refine (Pp b w4).mono ?_;rintro e w5 ⟨rfl,hb5,x5⟩;have z5:=x5.size;have l5:=hb5.lt;have Nc:=Bq.tr x5;have r5:=r2.ext (x3.tr (x4.tr x5));refine ⟨_,rfl,x5.heap aa,x5.heap aa,x5.heap aa,x5.heap aa,x5.heap aa,mE b,λi=>i=w4.heap.size,λ_=>False,
  λn F x y z bb w'=>(∀i,¬F i)/\(∀c ∈(kV b).take n,p (V c)=false)/\Mod (λi=>w5.heap.size<=i) w5 w',
  λo F x y z bb w'=>(∀i,¬F i)/\bb=jN V b p/\Mod (λi=>i=w2.heap.size\/i=w3.heap.size\/w5.heap.size<=i) w5 w',?_,?_,?_,λn F x y z bb w' h i hi=>(h.1 i hi).elim,λo F x y z bb w' h i hi=>(h.1 i hi).elim,λi hi=> ?_,λyN wJ=> ?_,?_,?_,?_⟩
 ·intro x hx;obtain ⟨c,-,rfl⟩:=bg.1 hx;exact ⟨_,_,_,rfl⟩
 ·rintro n F x y z bb ed cL ⟨h1,h2,h3⟩ kF -;exact ⟨h1,h2,h3.tr ⟨kF.os,kF.tape,kF.output,kF.size,λi hi hn=>kF.block i (Nat.lt_of_not_le hn)⟩ λi hi=> .inl hi⟩
 ·rintro o F x y z bb ed cL ⟨h1,h2,h3⟩ kF -;exact ⟨h1,h2,h3.tr ⟨kF.os,kF.tape,kF.output,kF.size,λi hi hn=>kF.block i (Nat.lt_of_not_le hn)⟩ λi hi=> .inl (.inr (.inr hi))⟩
 ·subst hi;exact ⟨by omega,id,by omega,by omega,by omega,by omega,by omega,trivial⟩
 ·exact ⟨TM b _ yN (hb5.same (wJ.ext.block _ aa)),rfl,rfl,rfl,λi h=>h,λc hc=>by simp at hc,Mod.aD wJ.ext⟩
 ·rintro n F us Cc sa lr b52 im ou ky ov hx hI jZ e58 sQ WN;have lf:Ext ov sQ:=(aL e58).af WN (aB _);have z59:sQ.heap.size=ov.heap.size+1:=by rw [WN,setRow_size,e58];simp
  have z56:=hI.2.2.size;refine ⟨lf,λl8 fN aaB=> ?_⟩;obtain ⟨hF,mV,hM⟩:=aaB;have zr:=fN.size;have hc:=TK hx;have rF:=aZ hc;have z57:=hM.size;have ht:(kV b).take (n+1)=(kV b).take n++ [(im,ou,ky)]:=by rw [dE,hc];rfl
  obtain ⟨D,hD1,hD2⟩:=hV;refine dq (hD2 l8.drew (λi hi=> ?_) (im,ou,ky) (XM rF)) ?_
  ·have:=hD1 i hi;have:=Nc.size;exact (hM.same i aa aa).trans (Nc.heap aa)
  rintro e kC ⟨rfl,jc⟩;have zd:=lv l8;have z60:=jc.size;have aaC:=hM.trans (Mod.aD ((Ext.dr l8).tr jc));refine ⟨_,rfl,jc.heap aa,jc.heap aa,jc.heap aa,jc.heap aa,jc.heap aa,jc.heap aa,Lo.wv (aaC.row r5 aa),dq (hp _ kC) ?_⟩;rintro e gL ⟨rfl,mZ⟩;have z62:=mZ.size;have Nd:=aaC.trans (Mod.aD mZ);refine ⟨_,rfl,mZ.heap aa,mZ.heap aa,mZ.heap aa,mZ.heap aa,mZ.heap aa,mZ.heap aa,Br.mk (λhq=>λoX We E7 Wf=> ?_) (λhq=> ?_)⟩
  ·have hq:p (V (im,ou,ky))=true:=hq;have ahe:jN V b p=true:=List.any_eq_true.2 ⟨_,rF,hq⟩;have apX:E7.heap.size=gL.heap.size:=by rw [Wf,setRow_size,We,setRow_size]
   have ahf:∀i,i≠w2.heap.size->i≠w3.heap.size->E7.heap[i]? =gL.heap[i]? :=λi h1 h2=>by rw [Wf,setRow_other _ _ _ _ h2,We,setRow_other _ _ _ _ h1]
   have aaD:Mod (λi=>i=w2.heap.size\/i=w3.heap.size) gL E7:=⟨by rw [Wf,We];rfl,by rw [Wf,We];rfl,by rw [Wf,We];rfl,by omega,λi _ hn=>ahf i (λq=>hn (.inl q)) (λq=>hn (.inr q))⟩;refine ⟨rfl,λ_=>False,⟨rfl,rfl,rfl,λi h=>h,ahe.symm,(Nd.mono λi _ h=> .inr (.inr h)).trans (aaD.mono λi _ h=>h.elim .inl λh=> .inr (.inl h))⟩,?_⟩;have Fi:=((Mod.aD (F:=λi=>i=w2.heap.size\/i=w3.heap.size) (((Ext.dr l8).tr jc).tr mZ))).trans aaD;refine Step.late ⟨λi hi=> ?_,Fi.size,λi hi hn=>Fi.same i hi λq=>hn (.inr ?_)⟩
   ·rcases hi with h|h
    ·exact h.elim
    ·exact .inl (.inr h)
   ·rcases q with rfl|rfl<;>simp
  ·have hq:p (V (im,ou,ky))=false:=hq;have Nf:=((Ext.dr l8).tr jc).tr mZ;refine ⟨λ_=>False,⟨rfl,rfl,rfl,λi h=>h,λc hc=> ?_,Nd⟩,Step.late ⟨λi hi=> ?_,Nf.size,λi hi _=>Nf.block i hi⟩⟩
   ·rw [ht,dR] at hc;rcases hc with hc|hc
    ·exact mV c hc
    ·rw [List.mem_singleton.1 hc];exact hq
   ·rcases hi with h|h
    ·exact h.elim
    ·exact .inl (.inr h)
 ·rintro F us oC m8 nc b73 jK ⟨hF,mV,hM⟩ Q8 pn Wg iq e76;have z74:=hM.size;have dG:(mE b).length=(kV b).length:=by unfold mE;simp
  rw [dG,iB] at mV;have ahe:jN V b p=false:=by unfold jN;rw [List.any_eq_false];exact λc hc=>by rw [mV c hc];decide
  refine ⟨by rw [e76,setRow_other _ _ _ _ aa,Wg,setRow_other _ _ _ _ aa];exact Q8,λsK fN=>⟨(0,0,0),by rw [ahe],?_⟩⟩;have pB:Ext w jK:=hM.ext Nc λi hi=>by have:=Nc.size;omega
  have wE:Ext w iq:=(pB.af Wg aa).af e76 aa;exact (Mod.nO fN).ext wE λi hi=>by have:=Nc.size;omega
 ·rintro F us wG uA sH b83 Gw ⟨hF,rfl,hM⟩ Q8;refine ⟨Q8,λJD fN=>⟨(wG,uA,sH),rfl,?_⟩⟩;have yI:Ext w Gw:=hM.ext Nc λi hi=>by have:=Nc.size;omega
  exact (Mod.nO fN).ext yI λi hi=>by have:=Nc.size;omega
theorem Dy {v:Value} {V:Ce->Int} {w:World} (hV:Tl v V w) (hv:ke v=[]) (b:Bx) (fp:Value) (hfp:ke fp=[]) (p:Int->Bool) (hp:∀(x:Int) (w':World),cw Tryz.prog fp [x] w' λe w''=>e=Value.bool (p x)/\Ext w' w''):
  ah 102 #[v,qG b,fp] w λe w'=>e=Value.bool (jN V b p)/\Ext w w':=by
 apply TN.vc;intro w0 e0;have x0:=aL e0;have z0:=eN e0;refine (TL (hV.ext x0) hv b fp hfp p hp).mono ?_;rintro e w1 ⟨c,rfl,x1⟩;have z1:=x1.size;refine ⟨_,_,_,_,rfl,x1.heap aa,λw6 e6 w7 e7=>⟨rfl,(x0.tr x1).tr ((aL e6).af e7 (aB _))⟩⟩
theorem mO {v:Value} {V:Ce->Int} {w:World} (hV:Tl v V w) (hv:ke v=[]) (b:Bx):ah 46 #[v,qG b] w λe w'=>e=Value.bool (jN V b aI)/\Ext w w':=by
 apply FY.vc;intro w0 e0;have x0:=aL e0;have z0:=eN e0;refine (Dy (hV.ext x0) hv b (.func (.func 103) #[] #[]) rfl aI λx w'=>cU (by kernel_rfl) rfl ((pR x w').mono ?_)).mono ?_
 ·rintro e w'' ⟨rfl,rfl⟩;exact ⟨rfl,Ext.cQ _⟩
 rintro e w1 ⟨rfl,x1⟩;exact ⟨_,rfl,x1.heap aa,rfl,x0.tr x1⟩
theorem lF {v:Value} {V:Ce->Int} {w:World} (hV:Tl v V w) (hv:ke v=[]) (b:Bx):ah 49 #[v,qG b] w λe w'=>e=Value.bool (jN V (iA b) aI)/\Ext w w':=by apply IJ.vc;intro w0 e0;have x0:=aL e0;have z0:=eN e0;refine (Pe b w0).mono ?_;rintro e w1 ⟨rfl,x1⟩;refine ⟨_,_,_,_,_,_,rfl,x1.heap aa,(mO (hV.ext (x0.tr x1)) hv (iA b)).mono ?_⟩;rintro e w8 ⟨rfl,x8⟩;have z1:=x1.size;exact ⟨_,rfl,x8.heap aa,rfl,x0.tr (x1.tr x8)⟩
abbrev su:TypeId:=56
abbrev kT:TypeId:=111
abbrev ez:=ep ×(Int × Int × Bool)
abbrev JY (x:ez):LV:=[.int .i64 x.1.aH.1,.int .i64 x.1.aH.2.1,.int .i64 x.1.aH.2.2,.int .i64 x.1.speed.1,.int .i64 x.1.speed.2.1,.int .i64 x.1.speed.2.2,.int .i64 x.1.wd,.int .i64 x.1.ht,.bool x.1.gZ,.int .i64 x.2.1,.int .i64 x.2.2.1,.bool x.2.2.2]
abbrev pA (a:Option Nat):Value:=.pointer (a.map λb=>⟨b,0,none⟩)
structure EL (w:World) (av:List (Option Nat)) (L:List (Option ez)):Prop where
 n:av.length=16
 m:L.length=16
 s:∀(i a:Nat),av[i]? =some (some a)->∃x,L[i]? =some (some x)/\Row w a (JY x) kT
 z:∀i:Nat,av[i]? =some none->L[i]? =some none
 d:∀(i j a:Nat),av[i]? =some (some a)->av[j]? =some (some a)->i=j
def EF (F:Nat->Prop) (w:World) (g s o t:Nat) (M:Sm) (occ:Value) (L:List (Option ez)):Prop:=
 ∃(Fs:Nat->Prop) (av:List (Option Nat)),Row w g (.pointer (some ⟨s,0,none⟩)::av.map pA) su/\SF Fs w s o t M occ/\EL w av L/\F=λi=>i=g\/Fs i\/some i ∈ av
abbrev jg (F:Nat->Prop) (w:World) (g s o t:Nat) (M:Sm) (occ:Value) (L:List (Option ez)) (w':World):Prop:=∃F',EF F' w' g s o t M occ L/\aN F F' w w'
theorem oh:(C3 su/\su≠qB/\su≠kg/\su≠zy/\su≠Q.gE/\su≠Q.cC/\su≠pr)/\(C3 kT/\kT≠qB/\kT≠kg/\kT≠zy/\kT≠Q.gE/\kT≠Q.cC/\kT≠pr)/\su≠kT:=by decide
theorem oZ {av:List (Option Nat)} {a:Nat} (h:some a ∈ av):∃i:Nat,av[i]? =some (some a):=List.mem_iff_getElem?.1 h
section
variable {F F':Nat->Prop} {w w':World} {g s o t:Nat} {M M':Sm} {occ:Value} {L:List (Option ez)}
theorem EL.same {av:List (Option Nat)} (h:EL w av L) (hk:∀a,some a ∈ av->w'.heap[a]? =w.heap[a]?):EL w' av L:=
 ⟨h.n,h.m,λi a hi=>by obtain ⟨x,h1,h2⟩:=h.s i a hi;exact ⟨x,h1,h2.same (hk a (aZ hi))⟩,h.z,h.d⟩
theorem EL.lt {av:List (Option Nat)} (h:EL w av L) {a:Nat} (ha:some a ∈ av):a<w:=by obtain ⟨i,hi⟩:=oZ ha;obtain ⟨x,-,h2⟩:=h.s i a hi;exact h2.lt
theorem EF.lt (h:EF F w g s o t M occ L) {i:Nat} (hi:F i):i<w:=by
 obtain ⟨Fs,av,h1,h2,h3,rfl⟩:=h;rcases hi with rfl|hi|hi
 ·exact h1.lt
 ·exact h2.lt hi
 ·exact h3.lt hi
theorem EF.same (h:EF F w g s o t M occ L) (hk:∀i,F i->w'.heap[i]? =w.heap[i]?):EF F w' g s o t M occ L:=by obtain ⟨Fs,av,h1,h2,h3,rfl⟩:=h;exact ⟨Fs,av,h1.same (hk _ (.inl rfl)),h2.same λi hi=>hk i (.inr (.inl hi)),h3.same λa ha=>hk a (.inr (.inr ha)),rfl⟩
theorem EF.ext (h:EF F w g s o t M occ L) (x:Ext w w'):EF F w' g s o t M occ L:=h.same λ_ hi=>x.heap (h.lt hi)
theorem EF.sV (h:EF F w g s o t M occ L):∃Fs,SF Fs w s o t M occ/\Vc.ld w (ae (some ⟨g,0,none⟩) 0)=some (.pointer (some ⟨s,0,none⟩))/\(∀i,Fs i->F i)/\∀{w':World} {M':Sm} {occ':Value},lL Fs w s o t M' occ' w'->jg F w g s o t M' occ' L w':=by
 obtain ⟨Fs,av,h1,h2,h3,rfl⟩:=h;refine ⟨Fs,h2,h1.at 0 rfl,λi hi=> .inr (.inl hi),?_⟩;rintro w' M' occ' ⟨F',h',ht⟩;have ng:¬Fs g:=h2.jF h1 oh.1.1 oh.1.2.1 oh.1.2.2.1 oh.1.2.2.2.1 oh.1.2.2.2.2.1 oh.1.2.2.2.2.2.1 oh.1.2.2.2.2.2.2;have na:∀a,some a ∈ av->¬Fs a:=λa ha=>by obtain ⟨i,hi⟩:=oZ ha;obtain ⟨x,-,hr⟩:=h3.s i a hi;exact h2.jF hr oh.2.1.1 oh.2.1.2.1 oh.2.1.2.2.1 oh.2.1.2.2.2.1 oh.2.1.2.2.2.2.1 oh.2.1.2.2.2.2.2.1 oh.2.1.2.2.2.2.2.2
 refine ⟨_,⟨F',av,ht.mod.row h1 ng,h',h3.same λa ha=>ht.mod.same a (h3.lt ha) (na a ha),rfl⟩,ht.mod.mono λi _ hi=> .inr (.inl hi),λi hi=> ?_⟩;rcases hi with hi|hi|hi
 ·exact .inl (.inl hi)
 ·exact (ht.sub i hi).imp (λq=> .inr (.inl q)) id
 ·exact .inl (.inr (.inr hi))
theorem EF.row (h:EF F w g s o t M occ L):∃av,Row w g (.pointer (some ⟨s,0,none⟩)::av.map pA) su/\EL w av L/\F g/\(∀a,some a ∈ av->F a)/\∀{w':World} {av':List (Option Nat)} {L':List (Option ez)},Mod (λi=>i=g\/some i ∈ av) w w'->Row w' g (.pointer (some ⟨s,0,none⟩)::av'.map pA) su->EL w' av' L'->(∀a,some a ∈ av'->some a ∈ av\/w.heap.size<=a)->jg F w g s o t M occ L' w':=by
 obtain ⟨Fs,av,h1,h2,h3,rfl⟩:=h;refine ⟨av,h1,h3,.inl rfl,λa ha=> .inr (.inr ha),?_⟩;intro w' av' L' hm hr he eM;have ng:¬Fs g:=h2.jF h1 oh.1.1 oh.1.2.1 oh.1.2.2.1 oh.1.2.2.2.1 oh.1.2.2.2.2.1 oh.1.2.2.2.2.2.1 oh.1.2.2.2.2.2.2;have na:∀a,some a ∈ av->¬Fs a:=λa ha=>by obtain ⟨i,hi⟩:=oZ ha;obtain ⟨x,-,hr⟩:=h3.s i a hi;exact h2.jF hr oh.2.1.1 oh.2.1.2.1 oh.2.1.2.2.1 oh.2.1.2.2.2.1 oh.2.1.2.2.2.2.1 oh.2.1.2.2.2.2.2.1 oh.2.1.2.2.2.2.2.2
 refine ⟨_,⟨Fs,av',hr,h2.same λi hi=>hm.same i (h2.lt hi) λq=> ?_,he,rfl⟩,hm.mono λi _ hi=>hi.elim .inl λq=> .inr (.inr q),λi hi=> ?_⟩
 ·rcases q with rfl|q
  ·exact ng hi
  ·exact na i q hi
 ·rcases hi with hi|hi|hi
  ·exact .inl (.inl hi)
  ·exact .inl (.inr (.inl hi))
  ·exact (eM i hi).imp (λq=> .inr (.inr q)) id
theorem EF.tl (h:EF F w g s o t M occ L):Tl (.func (.func 83) #[t] #[]) (ig M.T.2) w:=by obtain ⟨Fs,h1,-,-⟩:=h.sV;exact h1.tl
theorem kW (h:EF F w g s o t M occ L):ah 47 #[g] w λe w'=>e=Value.func (.func 83) #[t] #[]/\w'=w:=by obtain ⟨Fs,h1,h2,-,-⟩:=h.sV;obtain ⟨Fw,hW,-,-⟩:=h1.world;apply vK.vc;refine ⟨_,h2,(gA h1).mono ?_⟩;rintro e w1 ⟨rfl,rfl⟩;refine ⟨_,rfl,(fo hW).mono ?_⟩;rintro e w2 ⟨rfl,rfl⟩;exact ⟨_,rfl,rfl,rfl⟩
theorem Hk (h:EF F w g s o t M occ L):ah 41 #[g] w λe w'=>e=Value.pointer (some ⟨s,0,none⟩)/\w'=w:=by obtain ⟨Fs,h1,h2,-,-⟩:=h.sV;apply xH.vc;exact ⟨_,h2,rfl,rfl⟩
theorem xI (v:Ce):oM (bu v)/\Tk (pos (bu v)):=by have h:=ui v;unfold oM bS Tk Go.dK.pos;simp only;omega
abbrev nI (M:Sm) (b:ep):Bool:=C4 M.T.2 (bu b.aH)
theorem A4 (h:EF F w g s o t M occ L) (b:ep):ah 45 #[g,BG b] w λe w'=>e=Value.bool (nI M b)/\Ext w w':=by
 apply uI.vc;intro w0 e0;have x0:Ext w w0.drew:=(aL e0).drew;have z0:w0.drew.heap.size=w.heap.size+1:=by show w0.heap.size=_;rw [e0];simp
 have r0:Row w0.drew w (jo b) yQ:=by rw [e0];exact (Row.new w [_,_,_,_,_,_,_,_,_] _).ext (Ext.dr _)
 obtain ⟨Fs,h1,h2,-,-⟩:=(h.ext x0).sV;refine ⟨_,h2,(gA h1).mono ?_⟩;rintro e w2 ⟨rfl,hw⟩;subst hw;refine ⟨_,rfl,rfl,qL r0 rfl rfl rfl,(xB b.aH w0.drew).mono ?_⟩;rintro e w4 ⟨rfl,x4⟩;obtain ⟨Fw,hW,-,-⟩:=(h1.ext x4).world;refine ⟨_,_,_,rfl,x4.heap aa,(td hW (bu b.aH) (xI _).1 (xI _).2).mono ?_⟩;rintro e w8 ⟨rfl,x8⟩;have z4:=x4.size;exact ⟨_,rfl,x8.heap aa,rfl,x0.tr (x4.tr x8)⟩
end
def within (v:Ce) (m:Int):Bool:=decide (-m<=min (min v.1 v.2.1) v.2.2) && decide (max (max v.1 v.2.1) v.2.2<=m)
def ep.may (b:ep):Bool:=decide (2<=b.wd) &&(decide (b.wd<=131072) &&(decide (1<=b.ht) &&(decide (b.ht<=262144) &&(within b.aH 70368744177664 && within b.speed 262144))))
theorem A6 (v:Ce) (m:Int) (hm:0<=m/\m<=140737488355328) (w:World):ah 99 #[ea v,m] w λe w'=>e=Value.bool (within v m)/\Ext w w':=by
 apply Ll.vc;intro w0 e0;have x0:=aL e0;have e1:(if v.2.2<(if v.2.1<v.1 then v.2.1 else v.1) then v.2.2 else (if v.2.1<v.1 then v.2.1 else v.1))=min (min v.1 v.2.1) v.2.2:=by
  repeat' split
  all_goals omega
 have e2:(if v.2.2>(if v.2.1>v.1 then v.2.1 else v.1) then v.2.2 else (if v.2.1>v.1 then v.2.1 else v.1))=max (max v.1 v.2.1) v.2.2:=by
  repeat' split
  all_goals omega
 have e3:aj (0-m)= -m:=by rw [wI];omega
 rw [e1,e2,e3];unfold within;apply Br.mk<;>intro h
 ·have h: -m<=min (min v.1 v.2.1) v.2.2:=by simpa using h
  exact ⟨by rw [decide_eq_true h,Bool.true_and],x0⟩
 ·have h:¬-m<=min (min v.1 v.2.1) v.2.2:=by simpa using h
  exact ⟨by rw [decide_eq_false h,Bool.false_and],x0⟩
theorem XU (b:ep) (w:World):ah 44 #[BG b] w λe w'=>e=Value.bool b.may/\Ext w w':=by
 apply XV.vc;intro w0 e0;have x0:=aL e0;have z0:=eN e0;unfold ep.may;refine Br.mk (λh1=>Br.mk (λh2=>Br.mk (λh3=>Br.mk (λh4=>(A6 b.aH _ aE w0).mono ?_) (λh4=> ?_)) (λh3=> ?_)) (λh2=> ?_)) (λh1=> ?_)
 ·rintro e w1 ⟨rfl,x1⟩;have z1:=x1.size;have h1:2<=b.wd:=by simpa using h1
  have h2:b.wd<=131072:=by simpa using h2
  have h3:1<=b.ht:=by simpa using h3
  have h4:b.ht<=262144:=by simpa using h4
  rw [decide_eq_true h1,decide_eq_true h2,decide_eq_true h3,decide_eq_true h4];refine ⟨_,rfl,x1.heap aa,Br.mk (λh5=>(A6 b.speed _ aE w1).mono ?_) (λh5=>⟨by rw [h5];rfl,x0.tr x1⟩)⟩;rintro e w3 ⟨rfl,x3⟩;exact ⟨_,rfl,x3.heap aa,by rw [h5];rfl,x0.tr (x1.tr x3)⟩
 ·have h4:¬b.ht<=262144:=by simpa using h4
  exact ⟨by rw [decide_eq_false h4];simp,x0⟩
 ·have h3:¬1<=b.ht:=by simpa using h3
  exact ⟨by rw [decide_eq_false h3];simp,x0⟩
 ·have h2:¬b.wd<=131072:=by simpa using h2
  exact ⟨by rw [decide_eq_false h2];simp,x0⟩
 ·have h1:¬2<=b.wd:=by simpa using h1
  exact ⟨by rw [decide_eq_false h1];simp,x0⟩
theorem IF {w:World} {g:Nat} {p:Value} {av:List (Option Nat)} {τ:TypeId} (hr:Row w g (p::av.map pA) τ) {k:Nat} {a:Option Nat} (ha:av[k]? =some a):Vc.ld w (ae (ae (some ⟨g,0,none⟩) 1) (((k:Nat):Int).toNat*1))=some (pA a):=by rw [de,eJ,Nat.mul_one];refine hr.at (1+k) ?_;rw [Nat.add_comm,A3,aS,ha];rfl
theorem vv {w:World} {g:Nat} {p:Value} {av:List (Option Nat)} {τ:TypeId} (hr:Row w g (p::av.map pA) τ) (hn:av.length=16):
  ah 43 #[.slice (aJ (ae (some ⟨g,0,none⟩) 1) 0 16 1) (16-0) (16-0),.pointer none] w λe w'=>e=Value.int .i64 (cu (λa:Option Nat=>a.isNone) av)/\w'=w:=by
 apply (xS.vc (a0:=⟨aJ (ae (some ⟨g,0,none⟩) 1) 0 16 1,16-0,16-0⟩));rw [eg];refine ⟨λn x wr=>∃k:Nat,x=k/\k+n=16/\wr=w/\∀j,j<k->∀y,av[j]? =some y->y.isNone=false,⟨16,0,rfl,rfl,rfl,λj hj=>by omega⟩,?_⟩;rintro n us x wr ⟨k,rfl,hk,rfl,mV⟩;apply Br.mk<;>intro hb
 ·have hb:(k:Int)<((16-0:Nat):Int):=by simpa using hb
  obtain ⟨a,ha⟩:=bH (l:=av) (i:=k) aa;refine ⟨⟨rfl,by omega,hb⟩,_,IF hr ha,?_⟩
  cases a with
  |none=>exact ⟨congrArg (λn=>Ending.returned (.int .i64 n)) (pL ha rfl mV).symm,rfl⟩
  |some b=>
   refine bA.2 ⟨λp hp=>by rw [List.mem_singleton.1 hp],?_⟩;have wk:=mh (j:=k);refine eI rfl ⟨n-1,by omega,k+1,wk,by omega,rfl,λj hj y hy=> ?_⟩;by_cases q:j<k
   ·exact mV j q y hy
   ·rw [show j=k from by omega,ha] at hy;rw [<-Option.some.inj hy];rfl
 ·have hb:¬(k:Int)<((16-0:Nat):Int):=by simpa using hb
  refine ⟨congrArg (λn=>Ending.returned (.int .i64 n)) (jS λy hy=> ?_).symm,rfl⟩;obtain ⟨j,hj⟩:=List.mem_iff_getElem?.1 hy;have:=(cR.1 hj).1;exact mV j aa y hj
abbrev oQ (L:List (Option ez)):Int:=cu (λx:Option ez=>x.isNone) L
section
variable {F F':Nat->Prop} {w w':World} {g s o t:Nat} {M M':Sm} {occ:Value} {L:List (Option ez)}
theorem EL.xU {av:List (Option Nat)} (h:EL w av L) (i:Nat):(av[i]? =some none ↔ L[i]? =some none):=by
 refine ⟨h.z i,λhl=> ?_⟩;have hi:i<16:=by rw [<-h.m];exact (cR.1 hl).1
 obtain ⟨a,ha⟩:=bH (l:=av) (i:=i) (by rw [h.n];exact hi)
 cases a with
 |none=>exact ha
 |some a=>
  obtain ⟨x,hx,-⟩:=h.s i a ha;rw [hx] at hl
  cases hl
theorem EL.free {av:List (Option Nat)} (h:EL w av L):cu (λa:Option Nat=>a.isNone) av=oQ L:=by
 rcases fg (λa:Option Nat=>a.isNone) av with ⟨e,mV⟩|⟨k,x,hx,hq,e,gW⟩
 ·rw [e];refine (jS λy hy=> ?_).symm;obtain ⟨i,hi⟩:=List.mem_iff_getElem?.1 hy
  cases y with
  |some y=>rfl
  |none=>
   have:=mV none (aZ ((h.xU i).2 hi))
   cases this
 ·rw [e]
  cases x with
  |some x=>cases hq
  |none=>
   refine (pL ((h.xU k).1 hx) rfl λj hj y hy=> ?_).symm
   cases y with
   |some y=>rfl
   |none=>exact absurd (gW j hj none ((h.xU j).2 hy)) bt
def dp (M:Sm) (L:List (Option ez)) (b:ep):Int × Int × List (Option ez):=
 if b.may=false then (-1,1,L) else if oQ L<0 then (-1,8,L) else if nI M b=false then (-1,11,L) else if jN (ig M.T.2) b.box aI=true then (-1,12,L)
 else (oQ L,0,L.set (oQ L).toNat (some ({b with gZ:=jN (ig M.T.2) (iA b.box) aI},(0,0,false))))
abbrev fe (aH:Ce) (wd ht:Int):ep:=⟨aH,(0,0,0),wd,ht,false⟩
theorem EF.res (h:EF F w g s o t M occ L) (x:Ext w w'):jg F w g s o t M occ L w':=⟨F,h.ext x,aN.aD x⟩
set_option maxHeartbeats 1000000 in
theorem CJ (h:EF F w g s o t M occ L) (aH:Ce) (wd ht:Int) (hw:bS wd):ah 11 #[g,ea aH,wd,ht] w λe w'=>
  e=Value.tuple #[.int .i64 (dp M L (fe aH wd ht)).1,.int .i64 (dp M L (fe aH wd ht)).2.1]/\jg F w g s o t M occ (dp M L (fe aH wd ht)).2.2 w':=by
 apply uM.vc;intro w0 e0 w1 e1 w2 e2;have x0:=aL e0;have z0:=eN e0;have x2:Ext w0 w2:=(aL e1).af e2 (aB _);have z2:=yY e1 e2;have r2:Row w2 w0 (jo (fe aH wd ht)) yQ:=by rw [e2];exact Row.set (by rw [e1];exact Row.new w0 [_,_,_,_,_,_,_,_,_] _) _
 have yA:=x0.tr x2;obtain ⟨av,cN,iV,-⟩:=(h.ext yA).row;refine (vv cN iV.n).mono ?_;rintro e w3 ⟨rfl,N7⟩;subst N7;rw [iV.free];refine ⟨_,rfl,rfl,rfl,(XU (fe aH wd ht) w3).mono ?_⟩;rintro e w5 ⟨rfl,x5⟩;have z5:=x5.size;refine ⟨_,rfl,x5.heap aa,x5.heap aa,Br.mk (λq=> ?_) (λq=>Br.mk (λq2=> ?_) (λq2=>(A4 (h.ext (yA.tr x5)) (fe aH wd ht)).mono ?_))⟩
 ·have q:(fe aH wd ht).may=false:=by simpa using q
  unfold dp;rw [if_pos q];exact ⟨rfl,h.res (yA.tr x5)⟩
 ·have q:¬(fe aH wd ht).may=false:=by simpa using q
  have q2:oQ L<0:=by simpa using q2
  unfold dp;rw [if_neg q,if_pos q2];exact ⟨rfl,h.res (yA.tr x5)⟩
 have q:¬(fe aH wd ht).may=false:=by simpa using q
 have q2:¬oQ L<0:=by simpa using q2
 unfold dp;rw [if_neg q,if_neg q2];rintro e w7 ⟨rfl,x7⟩;have z7:=x7.size;have zd7:=lv w7;have x07:=yA.tr (x5.tr x7);refine ⟨_,rfl,x7.heap aa,x7.heap aa,Br.mk (λq3=> ?_) (λq3=>(kW (h.ext (x07.drew))).mono ?_)⟩
 ·have q3:nI M (fe aH wd ht)=false:=by simpa using q3
  rw [if_pos q3];exact ⟨rfl,h.res x07⟩
 have q3:¬nI M (fe aH wd ht)=false:=by simpa using q3
 rw [if_neg q3];rintro e w9 ⟨rfl,hw9⟩;subst hw9;have r9:=r2.ext ((x5.tr x7).drew);have h9:=h.ext x07.drew;refine ⟨_,rfl,rfl,rfl,Lo.wv r9,(cO (fe aH wd ht) hw w7.drew).mono ?_⟩;rintro e aW ⟨rfl,bz⟩;have z11:=bz.size;refine ⟨_,_,_,_,_,_,rfl,bz.heap aa,bz.heap aa,(mO (h9.ext bz).tl rfl (fe aH wd ht).box).mono ?_⟩;rintro e dA ⟨rfl,cg⟩;have z18:=cg.size;have Q6:=x07.drew.tr (bz.tr cg);refine ⟨_,rfl,cg.heap aa,cg.heap aa,Br.mk (λq4=> ?_) (λq4=>(kW (h.ext Q6.drew)).mono ?_)⟩
 ·rw [if_pos q4];exact ⟨rfl,h.res Q6⟩
 rw [if_neg (by rw [q4];decide)];rintro e fh ⟨rfl,aqs⟩;subst aqs;have r20:=r9.ext ((bz.tr cg).drew);have h20:=h.ext Q6.drew;have axC:=lv dA;refine ⟨_,rfl,rfl,rfl,Lo.wv r20,(cO (fe aH wd ht) hw dA.drew).mono ?_⟩;rintro e cL ⟨rfl,dI⟩;have z22:=dI.size;refine ⟨_,_,_,_,_,_,rfl,dI.heap aa,dI.heap aa,(lF (h20.ext dI).tl rfl (fe aH wd ht).box).mono ?_⟩;rintro e dH ⟨rfl,fI⟩;have z29:=fI.size;have ald:=Q6.drew.tr (dI.tr fI);refine ⟨_,rfl,fI.heap aa,fI.heap aa,λfj e31 j6 Q7=> ?_⟩;generalize gC:jN (ig M.T.2) (iA (fe aH wd ht).box) aI=st at*;have gI:Ext w fj.drew:=(ald.af e31 aa).drew;have z31:fj.drew.heap.size=dH.heap.size:=by show fj.heap.size=_;rw [e31,setRow_size]
 have gQ:Ext w j6:=gI.bB Q7;have z32:j6.heap.size=dH.heap.size+1:=by rw [Q7];simp [z31]
 have r32:Row j6 fj.drew.heap.size (JY ({fe aH wd ht with gZ:=st},(0,0,false))) kT:=Row.nw Q7;obtain ⟨av,hrow0,hel0,hFg,hFa,bo⟩:=h.row;have cN:=hrow0.ext gQ;have iV:=hel0.same (w':=j6) λa ha=>gQ.heap (hel0.lt ha)
 have hgl:=h.lt hFg;have Kf:=iV.free;obtain ⟨k,hk,hkL,hka⟩:∃k:Nat,oQ L=k/\L[k]? =some none/\av[k]? =some none:=by
  rcases fg (λx:Option ez=>x.isNone) L with ⟨e,-⟩|⟨k,x,hx,hq,e,-⟩
  ·exact absurd (show oQ L= -1 from e) aa
  ·cases x with
   |some x=>cases hq
   |none=>exact ⟨k,e,hx,(iV.xU k).2 hx⟩
 have uQ:k<16:=by rw [<-iV.m];exact (cR.1 hkL).1
 rw [hk];have hpb:bC (ae (ae (some ⟨g,0,none⟩) 1) (((k:Nat):Int).toNat*1))=some g:=by rw [cY,cY];rfl
 obtain ⟨p1,p2⟩:=cN.je (j:=1+k) (v:=.pointer (some ⟨fj.drew.heap.size,0,none⟩)) (by simp [iV.n];omega) rfl;have hpp:ae (ae (some ⟨g,0,none⟩) 1) (((k:Nat):Int).toNat*1)=ae (some ⟨g,0,none⟩) (1+k):=by rw [de,eJ,Nat.mul_one]
 have hgn:g<w:=hgl;rw [hpb];refine ⟨by omega,by omega,⟨rfl,by rw [hpp];exact p1⟩,λq=>by have:=Option.some.inj q;omega,λq=>by have:=Option.some.inj q;omega,λq=>by have:=Option.some.inj q;omega,λej MS=>⟨rfl,?_⟩⟩;rw [hpp] at MS;obtain ⟨q1,q2⟩:=p2 ej MS;have q1:Row ej g (.pointer (some ⟨s,0,none⟩)::(av.set k (some fj.drew.heap.size)).map pA) su:=by
  have e:aR (Value.pointer (some ⟨s,0,none⟩)::av.map pA) (1+k) [.pointer (some ⟨fj.drew.heap.size,0,none⟩)]=.pointer (some ⟨s,0,none⟩)::(av.set k (some fj.drew.heap.size)).map pA:=by show (Value.pointer (some ⟨s,0,none⟩)::av.map pA).set (1+k) _=_;rw [Nat.add_comm,List.set_cons_succ,List.map_set];rfl
  rw [<-e];exact q1
 have halt:∀a,some a ∈ av->a<w.heap.size:=λa ha=>h.lt (hFa a ha)
 have jb:∀a,some a ∈ av->a≠g:=λa ha q=>by subst q;obtain ⟨i,hi⟩:=oZ ha;obtain ⟨x,-,hr⟩:=iV.s i a hi;exact cN.ne hr oh.2.2 rfl
 have oA:∀(i a:Nat),(av.set k (some fj.drew.heap.size))[i]? =some (some a)->(i=k/\a=fj.drew.heap.size)\/(i≠k/\av[i]? =some (some a)):=λi a hi=>by
  by_cases q:i=k
  ·subst q;rw [oF (by rw [iV.n];exact uQ)] at hi;exact .inl ⟨rfl,(Option.some.inj (Option.some.inj hi)).symm⟩
  ·rw [List.getElem?_set_ne (Ne.symm q)] at hi;exact .inr ⟨q,hi⟩
 have hE:EL ej (av.set k (some fj.drew.heap.size)) (L.set k (some ({fe aH wd ht with gZ:=st},(0,0,false)))):=by
  refine ⟨by rw [ir];exact iV.n,by rw [ir];exact iV.m,λi a hi=> ?_,λi hi=> ?_,λi j a hi hj=> ?_⟩
  ·rcases oA i a hi with ⟨rfl,rfl⟩|⟨q,hi'⟩
   ·refine ⟨_,oF (by rw [iV.m];exact uQ),r32.same (q2.same _ aa aa)⟩
   ·obtain ⟨x,hx,hr⟩:=iV.s i a hi';exact ⟨x,by rw [List.getElem?_set_ne (Ne.symm q)];exact hx,hr.same (q2.same _ hr.lt (jb a (aZ hi')))⟩
  ·by_cases q:i=k
   ·subst q;rw [oF (by rw [iV.n];exact uQ)] at hi
    cases hi
   ·rw [List.getElem?_set_ne (Ne.symm q)] at hi ⊢;exact iV.z i hi
  ·rcases oA i a hi with ⟨rfl,rfl⟩|⟨q,hi'⟩
   ·rcases oA j _ hj with ⟨rfl,-⟩|⟨q',hj'⟩
    ·rfl
    ·have:=halt _ (aZ hj');omega
   ·rcases oA j a hj with ⟨rfl,rfl⟩|⟨q',hj'⟩
    ·have:=halt _ (aZ hi');omega
    ·exact iV.d i j a hi' hj'
 exact bo ((Mod.aD gQ).trans (q2.mono λi _ hi=> .inl hi)) q1 hE λa ha=>by
  obtain ⟨i,hi⟩:=oZ ha;rcases oA i a hi with ⟨-,rfl⟩|⟨-,hi'⟩
  ·have:=ald.size;exact .inr aa
  ·exact .inl (aZ hi')
end
section
variable {F F':Nat->Prop} {w w':World} {g s o t:Nat} {M M':Sm} {occ:Value} {L:List (Option ez)}
theorem Cv {p:Value} {av:List (Option Nat)} {τ:TypeId} (hr:Row w g (p::av.map pA) τ) (hn:av.length=16) (n:Int):
  ah 50 #[g,n] w λe w'=>∃a:Option Nat,e=(pA a)/\w'=w/\((∃k:Nat,n=k/\k<16/\av[k]? =some a)\/¬(0<=n/\n<16)/\a=none):=by
 apply Aj.vc;refine Br.mk (λh=>⟨none,rfl,rfl,.inr ⟨?_,rfl⟩⟩) (λh=>Br.mk (λh2=>⟨none,rfl,rfl,.inr ⟨?_,rfl⟩⟩) (λh2=> ?_))
 ·have h:n<0:=by simpa using h
  omega
 ·have h2:n>=16:=by simpa using h2
  omega
 ·have h:¬n<0:=by simpa using h
  have h2:¬n>=16:=by simpa using h2
  obtain ⟨k,rfl⟩:∃k:Nat,n=k:=⟨n.toNat,by omega⟩;obtain ⟨a,ha⟩:=bH (l:=av) (i:=k) aa;exact ⟨by omega,by omega,_,IF hr ha,a,rfl,rfl,.inl ⟨k,rfl,by omega,ha⟩⟩
def bV (L:List (Option ez)) (n:Int):Option ez:=if 0<=n then (L[n.toNat]?).join else none
def pE (L:List (Option ez)) (n:Int):Int × List (Option ez):=if (bV L n).isNone then (6,L) else (0,L.set n.toNat none)
theorem EL.ajf {av:List (Option Nat)} (h:EL w av L) {k:Nat} {a:Option Nat} (ha:av[k]? =some a):(bV L k).isNone=a.isNone:=by
 unfold bV;rw [if_pos aa,eJ]
 cases a with
 |none=>rw [h.z k ha];rfl
 |some a=>
  obtain ⟨x,hx,-⟩:=h.s k a ha;rw [hx];rfl
theorem pZ (hL:L.length=16) {n:Int} (h:¬(0<=n/\n<16)):bV L n=none:=by
 unfold bV;split
 ·rw [jt aa];rfl
 ·rfl
theorem S8 (h:EF F w g s o t M occ L) (n:Int):ah 13 #[g,n] w λe w'=>e=Value.int .i64 (pE L n).1/\jg F w g s o t M occ (pE L n).2 w':=by
 obtain ⟨av,cN,iV,hFg,hFa,bo⟩:=h.row;apply vX.vc;refine (Cv cN iV.n n).mono ?_;rintro e w0 ⟨a,rfl,rfl,hc⟩;refine ⟨_,rfl,?_⟩;unfold pE;rcases hc with ⟨k,rfl,hk,ha⟩|⟨iW,rfl⟩
 ·rw [iV.ajf ha]
  cases a with
  |none=>exact yes rfl ⟨rfl,h.res (Ext.cQ _)⟩
  |some a=>
   refine eI rfl ?_;have hpp:ae (ae (some ⟨g,0,none⟩) 1) (((k:Nat):Int).toNat*1)=ae (some ⟨g,0,none⟩) (1+k):=by rw [de,eJ,Nat.mul_one]
   obtain ⟨p1,p2⟩:=cN.je (j:=1+k) (v:=.pointer none) (by simp [iV.n];omega) rfl;refine ⟨by omega,by omega,⟨rfl,by rw [hpp];exact p1⟩,λw2 e2=>⟨rfl,?_⟩⟩;rw [hpp] at e2;obtain ⟨q1,q2⟩:=p2 w2 e2;have q1:Row w2 g (.pointer (some ⟨s,0,none⟩)::(av.set k none).map pA) su:=by
    have e:aR (Value.pointer (some ⟨s,0,none⟩)::av.map pA) (1+k) [.pointer none]=.pointer (some ⟨s,0,none⟩)::(av.set k none).map pA:=by show (Value.pointer (some ⟨s,0,none⟩)::av.map pA).set (1+k) _=_;rw [Nat.add_comm,List.set_cons_succ,List.map_set];rfl
    rw [<-e];exact q1
   have jb:∀a,some a ∈ av->a≠g:=λa ha q=>by subst q;obtain ⟨i,hi⟩:=oZ ha;obtain ⟨x,-,hr⟩:=iV.s i a hi;exact cN.ne hr oh.2.2 rfl
   have oA:∀(i a:Nat),(av.set k none)[i]? =some (some a)->i≠k/\av[i]? =some (some a):=λi a hi=>by
    by_cases q:i=k
    ·subst q;rw [oF (by rw [iV.n];exact hk)] at hi
     cases hi
    ·rw [List.getElem?_set_ne (Ne.symm q)] at hi;exact ⟨q,hi⟩
   show jg F w0 g s o t M occ (L.set ((k:Nat):Int).toNat none) w2;refine bo (q2.mono λi _ hi=> .inl hi) q1 ⟨by rw [ir];exact iV.n,by rw [ir];exact iV.m,λi a hi=> ?_,λi hi=> ?_,λi j a hi hj=> ?_⟩ λa ha=> ?_
   ·obtain ⟨q,hi'⟩:=oA i a hi;obtain ⟨x,hx,hr⟩:=iV.s i a hi';exact ⟨x,by rw [eJ,List.getElem?_set_ne (Ne.symm q)];exact hx,hr.same (q2.same _ hr.lt (jb a (aZ hi')))⟩
   ·rw [eJ];by_cases q:i=k
    ·subst q;exact oF (by rw [iV.m];exact hk)
    ·rw [List.getElem?_set_ne (Ne.symm q)] at hi ⊢;exact iV.z i hi
   ·exact iV.d i j a (oA i a hi).2 (oA j a hj).2
   ·obtain ⟨i,hi⟩:=oZ ha;exact .inl (aZ (oA i a hi).2)
 ·rw [pZ iV.m iW];exact yes rfl ⟨rfl,h.res (Ext.cQ _)⟩
def cn (L:List (Option ez)):List Int:=((List.range 16).filter λi=>(bV L (i:Nat)).isSome).map λi:Nat=>(i:Int)
theorem RQ {α:Type} {l:List α} (h:l.length=16):∃a b c d e f g h i j k m n o p q,l=[a,b,c,d,e,f,g,h,i,j,k,m,n,o,p,q]:=by
 match l,h with
 | [a,b,c,d,e,f,g,h,i,j,k,m,n,o,p,q],_=>exact ⟨a,b,c,d,e,f,g,h,i,j,k,m,n,o,p,q,rfl⟩
set_option maxHeartbeats 1000000 in
theorem HB (h:EF F w g s o t M occ L):ah 12 #[g] w λe w'=>∃sl:Sl,e=Value.slice sl.a sl.n sl.c/\aC w 3 1 w' sl ((cn L).map λi=> [.int .i64 i])/\Ext w w':=by
 obtain ⟨av,cN,iV,-⟩:=h.row;apply vY.vc;have jq:ag w (ae (some ⟨g,0,none⟩) 1) 0 (av.map pA):=by rw [bh];exact cN.bY λj hj=>by rw [show 0+1+j=j+1 from by omega,A3]
 have eP:∀k:Nat,k<16->∃a:Option Nat,(av.map pA)[((k:Nat):Int).toNat*1]? =some (pA a)/\(bV L k).isNone=a.isNone:=λk hk=>by obtain ⟨a,ha⟩:=bH (l:=av) (i:=k) (by rw [iV.n];exact hk);exact ⟨a,by rw [eJ,Nat.mul_one,aS,ha];rfl,iV.ajf ha⟩
 obtain ⟨b0,b1,b2,b3,b4,b5,b6,b7,b8,b9,b10,WL,QL,E6,b14,Ss,rfl⟩:=RQ iV.n;refine ⟨_,_,_,_,_,_,_,_,_,_,_,_,_,_,_,_,jq,λn x sl wr=>∃k:Nat,x=k/\k+n=16/\aC w 3 1 wr sl ((((List.range k).filter λi=>(bV L (i:Nat)).isSome).map λi:Nat=>(i:Int)).map λi=> [.int .i64 i])/\Ext w wr,⟨16,0,rfl,rfl,aC.nil,Ext.cQ _⟩,?_⟩;rintro n us x sl wr ⟨k,rfl,hk,ho,xr⟩;have zr:=xr.size;apply Br.mk<;>intro hb
 ·replace hb:=lY hb;obtain ⟨a,ha,hl⟩:=eP k aa;have wk:=mh (j:=k);have dG:sl.n<=16:=by have h1:=(ho.rd (show 0<1 by decide)).n;have h2:=List.length_filter_le (λi=>(bV L (i:Nat)).isSome) (List.range k);rw [aM,aM] at h1;rw [A2] at h2;omega
  refine ⟨⟨by omega,by omega⟩,_,ha,Br.mk (λhq=>λfH Gu=> ?_) (λhq=> ?_)⟩
  ·subst Gu;have hsome:(bV L (k:Nat)).isSome=true:=by
    cases a with
    |none=>exact absurd hq bt
    |some a=>
     cases hL:bV L k with
     |none=>rw [hL] at hl;cases hl
     |some y=>rfl
   obtain ⟨B8,hres8⟩:=ho.iN (bytes:=8) (news:=[.int .i64 (k:Int)]) (.cells #[.int .i64 (k:Int)] 3) aa rfl (te _ _) aa aa;refine ⟨B8,λWV eG aq5=> ?_⟩;obtain ⟨f8,wQ,hn8,x8,ER,-⟩:=hres8 WV eG aq5;refine ⟨f8,n-1,by omega,k+1,wk,by omega,?_,(Below.trans xr x8:Below w w eG)⟩;rw [List.range_succ,mA,bZ,bZ,List.filter_cons_of_pos (by simpa using hsome)];exact wQ
  ·have hnone:(bV L (k:Nat)).isSome=false:=by
    cases a with
    |some a=>exact absurd hq bt
    |none=>
     cases hL:bV L k with
     |none=>rfl
     |some y=>rw [hL] at hl;cases hl
   refine ⟨n-1,by omega,k+1,wk,by omega,?_,xr⟩;rw [List.range_succ,mA,bZ,bZ,List.filter_cons_of_neg (by rw [hnone];decide)];simpa using ho
 ·replace hb:=mg hb;have uQ:k=16:=by omega
  subst uQ;exact ⟨sl,rfl,ho,xr⟩
end
abbrev M0e (ar cap room bud:Int):Sm:=⟨ar,min (max cap 1) 16,(Kv room,[]),[],⟨4096,0,[]⟩,min (max bud 1) 64,0,[]⟩
abbrev noL:List (Option ez):=List.replicate 16 none
theorem HC (ar cap room bud:Int) (w:World):ah 38 #[.agg #[ar,cap,room,bud]] w λe w'=>
  ∃(g s o t:Nat) (F:Nat->Prop),e=Value.pointer (some ⟨g,0,none⟩)/\EF F w' g s o t (M0e ar cap room bud) (.func (.func 98) #[] #[]) noL/\Ext w w'/\∀i,F i->w.heap.size<=i:=by
 apply PV.vc;intro w0 e0;have x0:Ext w w0.drew:=(aL e0).drew;have z0:w0.drew.heap.size=w.heap.size+1:=by show w0.heap.size=_;rw [e0];simp
 have r0:∃τ,Row w0.drew w [ar,cap,room,bud] τ:=⟨_,by rw [e0];exact (Row.new w [_,_,_,_] _).ext (Ext.dr _)⟩;obtain ⟨τ,r0⟩:=r0;refine (G3 ar cap room w0.drew).mono ?_;rintro e w1 ⟨o,t,Fw,rfl,hW,x1,fW⟩;have z1:=x1.size;refine ⟨_,rfl,x1.heap aa,mC (r0.ext x1) rfl,(Bb hW bud).mono ?_⟩;rintro e w3 ⟨s,F,rfl,hS,x3,fS⟩;have z3:=x3.size;refine ⟨_,rfl,x3.heap aa,λw5 e5=> ?_⟩;have x5:=aL e5;have r5:Row w5 w3 (.pointer (some ⟨s,0,none⟩)::(List.replicate 16 none).map pA) su:=Row.nw e5;have mV:∀(i a:Nat),(List.replicate 16 (none:Option Nat))[i]? =some (some a)->False:=λi a hi=>by
  have:=List.eq_of_mem_replicate (aZ hi)
  cases this
 have iV:EL w5 (List.replicate 16 none) noL:=⟨rfl,rfl,λi a hi=>(mV i a hi).elim,λi hi=>List.getElem?_replicate_of_lt (by
  have Fk:=(cR.1 hi).1;rw [D7] at Fk;exact Fk),λi j a hi=>(mV i a hi).elim⟩
 refine ⟨w3.heap.size,s,o,t,_,rfl,⟨F,_,r5,hS.ext x5,iV,rfl⟩,x0.tr (x1.tr (x3.tr x5)),λi hi=> ?_⟩;rcases hi with rfl|hi|hi
 ·omega
 ·rcases fS i hi with q|q
  ·have:=fW i q;omega
  ·omega
 ·cases List.eq_of_mem_replicate hi
theorem agn (ar limit room:Int) {l:List En} (hl:(l.length:Int)<limit) {p:Po} (hp:sN p) (hn:∀e ∈ l,e.1≠p):IU ar limit (Kv room) l p=((Kv room,l++ [(p,made ar p,false,0)]),0):=by
 have hr:fU limit (Kv room) l=((Kv room,l),0):=by unfold fU;rw [if_pos hl]
 have hd:(G6 (Kv room) (Bw p)).1=[]:=by unfold Kv;rw [acg]
 have hf:cu (λe:En=>e.1==p) l= -1:=jS λy hy=>by simpa using hn y hy
 unfold IU;rw [if_neg (by simpa using hp),if_neg (by rw [hf];decide),hr,if_neg bt];simp only [hd,Qp]
def AU:List Po:=[(-1,-1),(-1,0),(-1,1),(0,-1),(0,0),(0,1),(1,-1),(1,0),(1,1)]
def l9 (ar:Int) (k:Nat):List En:=(AU.take k).map λp=>(p,made ar p,false,0)
theorem ago (ar:Int) {k:Nat} (hk:k<=9):(l9 ar k).length=k:=by unfold l9;rw [aM,dC];have:AU.length=9:=rfl;omega
theorem Iu {k:Nat} {p:Po} (hp:AU[k]? =some p):sN p/\p ∉ AU.take k:=by
 have hk:k<9:=(cR.1 hp).1;have:k=0\/k=1\/k=2\/k=3\/k=4\/k=5\/k=6\/k=7\/k=8:=by omega
 rcases this with rfl|rfl|rfl|rfl|rfl|rfl|rfl|rfl|rfl<;>(cases hp;decide)
theorem ac4 (ar:Int) {k:Nat} {p:Po} (hp:AU[k]? =some p):l9 ar (k+1)=l9 ar k++ [(p,made ar p,false,0)]:=by unfold l9;rw [dE,hp,bZ];rfl
theorem ajt (ar cap room:Int) (hc:9<=cap) {k:Nat} {p:Po} (hp:AU[k]? =some p):IU ar cap (Kv room) (l9 ar k) p=((Kv room,l9 ar (k+1)),0):=by
 have hk:k<9:=(cR.1 hp).1;rw [agn ar cap room (by rw [ago ar aa];omega) (Iu hp).1 (λe he q=>by obtain ⟨x,hx,rfl⟩:=bg.1 he;exact (Iu hp).2 (q▸hx)),ac4 ar hp]
theorem ac5 {i j:Nat} (hi:i<3) (hj:j<3):AU[3*i+j]? =some (-1+(i:Int),-1+(j:Int)):=by
 have h1:i=0\/i=1\/i=2:=by omega
 have h2:j=0\/j=1\/j=2:=by omega
 rcases h1 with rfl|rfl|rfl<;>rcases h2 with rfl|rfl|rfl<;>rfl
theorem EN {F:Nat->Prop} {w:World} {o t:Nat} {ar cap room:Int} (h:WF F w o t ar cap (Kv room,l9 ar 0) []) (hc:9<=cap):
  ah 42 #[o] w λe w'=>e=true/\FL F w o t ar cap (Kv room,l9 ar 9) [] w':=by
 apply QE.vc;refine (oL h).mono ?_;rintro e w0 ⟨rfl,rfl⟩;refine ⟨_,rfl,eI rfl ⟨λn x wr=>∃(i:Nat) (F':Nat->Prop),x= -1+i/\i+n=3/\WF F' wr o t ar cap (Kv room,l9 ar (3*i)) []/\aN F F' w0 wr,⟨3,0,F,rfl,rfl,h,aN.refl _ _⟩,?_⟩⟩;rintro n us x wr ⟨i,F1,rfl,hi,h1,t1⟩;apply Br.mk<;>intro hb
 ·have hb: -1+(i:Int)<2:=by simpa using hb
  refine ⟨λm y wr=>∃(j:Nat) (F':Nat->Prop),y= -1+j/\j+m=3/\WF F' wr o t ar cap (Kv room,l9 ar (3*i+j)) []/\aN F F' w0 wr,⟨3,0,F1,rfl,rfl,h1,t1⟩,?_⟩;rintro m wM y QI ⟨j,F2,rfl,hj,h2,t2⟩;apply Br.mk<;>intro jU
  ·have jU: -1+(j:Int)<2:=by simpa using jU
   have hp:=ac5 (i:=i) (j:=j) aa aa;have jq:=ajt ar cap room hc hp;refine (sT h2 (Nat.zero_le _) (-1+(i:Int),-1+(j:Int))).mono ?_;rintro e bK ⟨rfl,hr⟩;rw [jq] at hr;obtain ⟨F3,h3,t3⟩:=hr;refine ⟨_,rfl,?_⟩;have wk:aj (-1+(j:Int)+1)= -1+((j+1:Nat):Int):=by rw [wI];omega
   refine eI (by rw [jq];rfl) ⟨m-1,by omega,j+1,F3,wk,by omega,h3,t2.trans t3⟩
  ·have jU:¬-1+(j:Int)<2:=by simpa using jU
   have hj3:j=3:=by omega
   subst hj3;have wk:aj (-1+(i:Int)+1)= -1+((i+1:Nat):Int):=by rw [wI];omega
   exact ⟨n-1,by omega,i+1,F2,wk,by omega,by rw [show 3*(i+1)=3*i+3 from by omega];exact h2,t2⟩
 ·have hb:¬-1+(i:Int)<2:=by simpa using hb
  have hi3:i=3:=by omega
  subst hi3;exact ⟨rfl,F1,h1,t1⟩
abbrev M9e (ar cap bud:Int):Sm:=⟨ar,min (max cap 1) 16,(Kv 1000000,l9 ar 9),[],⟨4096,0,[]⟩,min (max bud 1) 64,0,[]⟩
abbrev tn:TypeId:=101
abbrev AS:TypeId:=117
abbrev zl:LV:=[.bool false,.int .i64 0,.int .i64 0,.int .i64 0,.int .i64 0,.int .i64 0,.int .i64 0,.int .i64 0,.int .i64 0,.bool false,.int .i64 0,.int .i64 0,.bool false]
abbrev VK:Value:=.func (.func 98) #[] #[]
set_option maxHeartbeats 1000000 in
theorem Iv (ar bud cap:Int) (hc:9<=cap) (w:World):ah 9 #[ar,bud,cap] w λe w'=>
  ∃(g s o t:Nat) (F:Nat->Prop) (m b s' o' t':Nat) (F':Nat->Prop),e=Value.tuple #[g,m]/\EF F w' g s o t (M9e ar cap bud) VK noL/\
   SF F' w' s' o' t' (M9e ar cap bud) VK/\Row w' m [o',s',.slice (some ⟨b,0,none⟩) 16 16] tn/\Row w' b (bn zl 16) AS/\
   (∀i,F i->¬F' i)/\(∀i,F i->w.heap.size<=i)/\(∀i,F' i->w.heap.size<=i)/\w.heap.size<=m/\w.heap.size<=b/\Ext w w':=by
 have VU:9<=min (max cap 1) 16:=by omega
 apply ML.vc;refine (HC ar cap 1000000 bud w).mono ?_;rintro e w0 ⟨g,s,o,t,F,rfl,hE,x0,fF⟩;have z0:=x0.size;refine ⟨_,rfl,(G3 ar cap 1000000 w0).mono ?_⟩;rintro e w2 ⟨o',t',Fw,rfl,hW,x2,fW⟩;have z2:=x2.size;refine ⟨_,rfl,eI rfl (eI rfl ((Bb hW bud).mono ?_))⟩;rintro e w4 ⟨s',Fm,rfl,hS,x4,fS⟩;have z4:=x4.size;have Bq:=x0.tr (x2.tr x4);have hE4:=hE.ext (x2.tr x4);have hdj:∀i,F i->¬Fm i:=λi hi hm=>by
  have:=hE.lt hi;rcases fS i hm with q|q
  ·have:=fW i q;omega
  ·omega
 have fM:∀i,Fm i->w.heap.size<=i:=λi hi=>by
  rcases fS i hi with q|q
  ·have:=fW i q;omega
  ·omega
 refine ⟨_,rfl,eI rfl (gr rfl (gr rfl ?_))⟩;obtain ⟨Fs,hs,jq,-,-⟩:=hE4.sV;obtain ⟨Fv,hV,-,-⟩:=hs.world;refine ⟨_,jq,(gA hs).mono ?_⟩;rintro e w7 ⟨rfl,hw7⟩;subst hw7;refine ⟨_,rfl,eI rfl ((Hk hE4).mono ?_)⟩;rintro e w9 ⟨rfl,hw9⟩;subst hw9;obtain ⟨Fu,hU,-,bo⟩:=hS.world;refine ⟨_,rfl,eI rfl ((fo hU).mono ?_)⟩;rintro e aW ⟨rfl,Ra⟩;subst Ra;refine ⟨_,rfl,?_⟩;rw [LM,Be,pF];refine eI rfl (gr rfl (gr rfl ⟨_,jq,(gA hs).mono ?_⟩));rintro e bK ⟨rfl,ahY⟩;subst ahY;refine ⟨_,rfl,(fo hV).mono ?_⟩;rintro e cB ⟨rfl,atb⟩;subst atb;refine ⟨_,rfl,?_⟩;rw [LM,Be,pF];refine eI rfl ((EN (room:=1000000) hU VU).mono ?_);rintro e dA ⟨rfl,hr⟩;obtain ⟨F2,Rh,t2⟩:=bo hr;have atc:EF F dA g s o t _ VK noL:=hE4.same λi hi=>t2.mod.same i (hE4.lt hi) (hdj i hi)
 have hdj2:∀i,F i->¬F2 i:=λi hi hm=>by
  rcases t2.sub i hm with q|q
  ·exact hdj i hi q
  ·have:=hE4.lt hi;omega
 obtain ⟨atd,fM2⟩:=t2.fresh Bq fM;refine ⟨_,rfl,eI rfl (gr rfl (gr rfl ?_))⟩;obtain ⟨Fs,hs,jq,-,hresE⟩:=atc.sV;obtain ⟨Fv,hV,-,hresS⟩:=hs.world;refine ⟨_,jq,(gA hs).mono ?_⟩;rintro e ed ⟨rfl,ate⟩;subst ate;refine ⟨_,rfl,(EN (room:=1000000) hV VU).mono ?_⟩;rintro e dT ⟨rfl,hr⟩;obtain ⟨F3,hE3,t3⟩:=hresE (hresS hr);have atf:SF F2 dT s' o' t' (M9e ar cap bud) VK:=Rh.same λi hi=>t3.mod.same i (Rh.lt hi) λq=>hdj2 i q hi
 have hdj3:∀i,F3 i->¬F2 i:=λi hi hm=>by
  rcases t3.sub i hi with q|q
  ·exact hdj2 i q hm
  ·have:=Rh.lt hm;omega
 obtain ⟨amw,fF3⟩:=t3.fresh atd fF;have z23:=amw.size;refine ⟨_,rfl,eI rfl ?_⟩;have last:∀cP:World,cP=dT.drew.alloc (.cells (bn zl (16:Int).toNat).toArray AS)->∀eG:World,eG=cP.alloc (.cells #[o',s',.slice (some ⟨dT.drew.heap.size,0,none⟩) (16:Int).toNat (16:Int).toNat] tn)->
   ∃(g2 s2 o2 t2:Nat) (F:Nat->Prop) (m b s' o' t':Nat) (F':Nat->Prop),Ending.returned (.tuple #[g,.pointer (some ⟨cP.heap.size,0,none⟩)])=Value.tuple #[g2,m]/\EF F eG g2 s2 o2 t2 (M9e ar cap bud) VK noL/\
   SF F' eG s' o' t' (M9e ar cap bud) VK/\Row eG m [o',s',.slice (some ⟨b,0,none⟩) 16 16] tn/\Row eG b (bn zl 16) AS/\
   (∀i,F i->¬F' i)/\(∀i,F i->w.heap.size<=i)/\(∀i,F' i->w.heap.size<=i)/\w.heap.size<=m/\w.heap.size<=b/\Ext w eG:=by
  intro cP wB eG yU;have dQ:Ext dT cP:=(Ext.dr dT).bB wB;have fk:=aL yU;have z25:=dQ.size;have rb:Row cP dT.drew.heap.size (bn zl 16) AS:=by rw [wB];exact Row.new dT.drew (bn zl 16) _
  have rm:Row eG cP [o',s',.slice (some ⟨dT.drew.heap.size,0,none⟩) 16 16] tn:=Row.nw yU;exact ⟨g,s,o,t,F3,_,_,_,_,_,F2,rfl,hE3.ext (dQ.tr fk),atf.ext (dQ.tr fk),rm,rb.ext fk,hdj3,fF3,fM2,by omega,z23,amw.tr (dQ.tr fk)⟩
 exact ⟨⟨by decide,λcP wB=>⟨⟨λeG yU=>last cP wB eG yU,λeG yU=>last cP wB eG yU⟩,λeG yU=>last cP wB eG yU⟩⟩,⟨by decide,λcP wB eG yU=>last cP wB eG yU⟩⟩
theorem Iw (w:World):ah 14 #[] w λe w'=>e=true/\Ext w w':=by
 apply MM.vc;refine (HC 0 1 0 0 w).mono ?_;rintro e w0 ⟨g,s,o,t,F,rfl,hE,x0,fF⟩;refine ⟨_,rfl,eI rfl ((CJ hE (0,0,0) 100 100 (by unfold bS;omega)).mono ?_)⟩;have hsp:dp (M0e 0 1 0 0) noL (fe (0,0,0) 100 100)=(-1,11,noL):=by unfold dp;rw [if_neg aE,if_neg aE,if_pos aE]
 rw [hsp];rintro e w2 ⟨rfl,F2,-,t2⟩;exact ⟨_,_,rfl,yes rfl ⟨rfl,(t2.fresh x0 fF).1⟩⟩
end Go.Proofs.YtkkkfkopcfdmaaaGreatDoor
