import Derived.Test.YtkkkfkopcfdmaaaGreatDoorF
import Derived.Test.YtkkkfkopcfdmaaaGreatDoorC
import Derived.Test.YtkkkfkopcfdmaaaGreatDoorE
set_option linter.all false
namespace Go.Proofs.YtkkkfkopcfdmaaaGreatDoor
open Go Go.Vc Go.RowKit Go.Proofs Go.cZ Go.aT Go.Code Go.eH
def eQ(c:Ce):Prop:=(-2000000000<=c.1/\c.1<=2000000000)/\(-2000000000<=c.2.1/\c.2.1<=2000000000)/\-2000000000<=c.2.2/\c.2.2<=2000000000
def A2(c:Ce):Prop:=(-1000000000<=c.1/\c.1<=1000000000)/\(-1000000000<=c.2.1/\c.2.1<=1000000000)/\-1000000000<=c.2.2/\c.2.2<=1000000000
def eQ.ok{c:Ce}(h:eQ c):pW c:=by unfold eQ at h;unfold pW bN;omega
def A2.wide{c:Ce}(h:A2 c):eQ c:=by unfold A2 at h;unfold eQ;omega
def Fy{c:Ce}(h:eQ c){n:Ce}(hn:n ∈ nX c):pW n:=by unfold eQ at h;unfold nX eY xg at hn;simp only [cB,iJ,or_false] at hn;rcases hn with rfl|rfl|rfl|rfl|rfl|rfl<;>(unfold pW bN;simp only;omega)
def afW{c:Ce}(h:A2 c){n:Ce}(hn:n ∈ nX c):eQ n:=by unfold A2 at h;unfold nX eY xg at hn;simp only [cB,iJ,or_false] at hn;rcases hn with rfl|rfl|rfl|rfl|rfl|rfl<;>(unfold eQ;simp only;omega)
def rL(n:Int)(h: -2147483648<=n/\n<=2147483648)(w:World):ah 220 #[n] w λe w'=>e=n/\w'=w:=by apply aau.vc;have e1:(if (-2147483648)>n then (-2147483648) else n)=n:=if_neg ab;rw [e1,if_neg ab];exact ⟨rfl,rfl⟩
def ab5(c:Ce)(h:(-2147483648<=c.1/\c.1<=2147483648)/\(-2147483648<=c.2.1/\c.2.1<=2147483648)/\-2147483648<=c.2.2/\c.2.2<=2147483648)(w:World):ah 210 #[eE c] w λe w'=>e=(eE c)/\Ext w w':=by
 apply aat.vc;intro w0 e0 w1 e1;have x1:Ext w w1:=(aQ e0).bF e1;have z0:=eR e0;have r0:Row w1 w [c.1,c.2.1,c.2.2] qL:=(by rw [e0];exact Row.new w [_,_,_] _:Row w0 w _ _).ext (aQ e1);have xd:=Ext.dr w1;have r1:=r0.ext xd;refine (rL c.1 h.1 w1.drew).mono ?_;rintro e w2 ⟨rfl,rfl⟩;refine ⟨_,rfl,rfl,rfl,r1.bY (o:=2) (λj hj=>by
  match j,hj with
  |0,_=>rfl),r1.bY (o:=1) (λj hj=>by
  match j,hj with
  |0,_=>rfl),(rL c.2.1 h.2.1 w1.drew).mono ?_⟩
 rintro e w4 ⟨rfl,rfl⟩;refine ⟨_,rfl,rfl,rfl,r1.bY (o:=2) (λj hj=>by
  match j,hj with
  |0,_=>rfl),(rL c.2.2 h.2.2 w1.drew).mono ?_⟩
 rintro e w6 ⟨rfl,rfl⟩;exact ⟨_,rfl,rfl,rfl,λw8 e8=>⟨rfl,(x1.tr xd).ag e8 ab⟩⟩
def lU(a b d:Int)(c c':Ce)(he:c'=(c.1+a,c.2.1+b,c.2.2+d))(hc:eQ c)(ha:(-1<=a/\a<=1)/\(-1<=b/\b<=1)/\-1<=d/\d<=1){g:Nat}{w:World}(hr:Row w g [c.1,c.2.1,c.2.2] qL):
  ah 219 #[a,b,d,g] w λe w'=>e=(eE c')/\Ext w w':=by
 subst he;apply Nx.vc;obtain ⟨⟨h1,h2⟩,⟨h3,h4⟩,h5,h6⟩:=id hc;intro w0 e0;have x0:=aQ e0;have z0:=eR e0;have xd:=x0.tr (Ext.dr w0);have zd:=lE w0;have r1:=hr.ext xd;have q1:ao (c.1+a)=c.1+a:=wI;have q2:ao (c.2.1+b)=c.2.1+b:=wI;have q3:ao (c.2.2+d)=c.2.2+d:=wI;refine ⟨c.1,r1.at 0 rfl,c.2.1,r1.at 1 rfl,c.2.2,r1.at 2 rfl,(rL c.1 ab w0.drew).mono ?_⟩;rintro e w4 ⟨rfl,rfl⟩;refine ⟨_,rfl,rfl,lQ (r1.at 2 rfl),lQ (r1.at 1 rfl),(rL c.2.1 ab w0.drew).mono ?_⟩;rintro e w6 ⟨rfl,rfl⟩;refine ⟨_,rfl,rfl,lQ (r1.at 2 rfl),(rL c.2.2 ab w0.drew).mono ?_⟩;rintro e w8 ⟨rfl,rfl⟩;refine ⟨_,rfl,rfl,?_⟩;rw [q1,q2,q3];refine (ab5 (c.1+a,c.2.1+b,c.2.2+d) (by simp only;omega) w0.drew).mono ?_;rintro e bP ⟨rfl,bj⟩;exact ⟨_,_,_,rfl,bj.heap ab,λbO vH=>⟨rfl,(xd.tr bj).ag vH (aC _)⟩⟩
abbrev eg(c:Ce):LV:=[.int .i64 c.1,.int .i64 c.2.1,.int .i64 c.2.2]
def B8(c:Ce):One (eg c):=by intro v hv;simp at hv;rcases hv with rfl|rfl|rfl<;>rfl
abbrev DJ(c:Ce):LV:=[.int .i64 (c.1-1),.int .i64 c.2.1,.int .i64 c.2.2,.int .i64 (c.1+1),.int .i64 c.2.1,.int .i64 c.2.2,.int .i64 c.1,.int .i64 (c.2.1-1),.int .i64 c.2.2,.int .i64 c.1,.int .i64 (c.2.1+1),.int .i64 c.2.2,.int .i64 c.1,.int .i64 c.2.1,.int .i64 (c.2.2-1),.int .i64 c.1,.int .i64 c.2.1,.int .i64 (c.2.2+1)]
def FZ(c:Ce):One (DJ c):=by intro v hv;simp only [DJ,cB,iJ,or_false] at hv;rcases hv with rfl|rfl|rfl|rfl|rfl|rfl|rfl|rfl|rfl|rfl|rfl|rfl|rfl|rfl|rfl|rfl|rfl|rfl<;>rfl
def ab6(c:Ce):DJ c=((nX c).map eg).flatten:=rfl
def ep{cs vs:LV}(h:vs.length=cs.length):aS cs 0 vs=vs:=by rw [dt _ _ _ ab];simp [<-h]
def Kl{a b c a' b' c':Int}(h1:a=a')(h2:b=b')(h3:c=c'):((a,b,c):Ce)=(a',b',c'):=by rw [h1,h2,h3]
set_option maxRecDepth 100000 in
def jn(c:Ce)(hc:eQ c)(w:World):ah 159 #[eE c] w λe w'=>e=Value.agg (DJ c).toArray/\Ext w w':=by apply Wo.vc;intro w0 e0 w1 e1;have x1:Ext w w1:=(aQ e0).bF e1;have z0:=eR e0;have r0:Row w1 w [c.1,c.2.1,c.2.2] qL:=(by rw [e0];exact Row.new w [_,_,_] _:Row w0 w _ _).ext (aQ e1);have rb:Row w1 w0 [aa,aa,aa,aa,aa,aa,aa,aa,aa,aa,aa,aa,aa,aa,aa,aa,aa,aa] 186:=Row.nw e1;refine (lU (-1) 0 0 c (c.1-1,c.2.1,c.2.2) (Kl ab ab ab) hc aF r0).mono ?_;rintro e w2 ⟨rfl,x2⟩;refine ⟨_,_,_,rfl,(lU 1 0 0 c (c.1+1,c.2.1,c.2.2) (Kl ab ab ab) hc aF (r0.ext x2)).mono ?_⟩;rintro e w6 ⟨rfl,x6⟩;have y6:=x2.tr x6;refine ⟨_,_,_,rfl,(lU 0 (-1) 0 c (c.1,c.2.1-1,c.2.2) (Kl ab ab ab) hc aF (r0.ext y6)).mono ?_⟩;rintro e bP ⟨rfl,bj⟩;have y10:=y6.tr bj;refine ⟨_,_,_,rfl,(lU 0 1 0 c (c.1,c.2.1+1,c.2.2) (Kl ab ab ab) hc aF (r0.ext y10)).mono ?_⟩;rintro e bO ⟨rfl,bI⟩;have y14:=y10.tr bI;refine ⟨_,_,_,rfl,(lU 0 0 (-1) c (c.1,c.2.1,c.2.2-1) (Kl ab ab ab) hc aF (r0.ext y14)).mono ?_⟩;rintro e dH ⟨rfl,cA⟩;have y18:=y14.tr cA;refine ⟨_,_,_,rfl,(lU 0 0 1 c (c.1,c.2.1,c.2.2+1) (Kl ab ab ab) hc aF (r0.ext y18)).mono ?_⟩;rintro e dP ⟨rfl,ef⟩;have y22:=y18.tr ef;have r22:=rb.ext y22;refine ⟨_,_,_,rfl,⟨rfl,r22.wr cp⟩,λfx A1=> ?_⟩;have A1:fx=aL dP (aB w0.heap.size) (DJ c):=A1;rw [r22.aL (vs:=DJ c) cp (FZ c),ep cp] at A1;have hr':Row fx w0 (DJ c) 186:=r22.st A1;exact ⟨_,_,_,_,_,_,_,_,_,_,_,_,_,_,_,_,_,_,hr'.bY (λj hj=>by rw [eK]),rfl,(x1.tr y22).ag A1 ab⟩
def xE(b:Int)(w:World):ah 243 #[b] w λe w'=>e=Value.bool (b==3)/\w'=w:=by apply Oa.vc;exact ⟨rfl,rfl⟩
def oQ(b:Int)(w:World):ah 202 #[b] w λe w'=>e=Value.bool (rq b)/\w'=w:=by
 apply WE.vc;unfold rq;refine Br.mk (λh=>⟨?_,rfl⟩) (λh=>⟨?_,rfl⟩)
 ·have h1:=cU h;rw [decide_eq_true h1,pU]
 ·have h1:=cU h;rw [decide_eq_false h1,C5]
def Dh(b:Int)(w:World):ah 144 #[b] w λe w'=>e=Value.bool (j8 b)/\w'=w:=by
 apply Lm.vc;unfold j8;refine Br.mk (λh=>⟨?_,rfl⟩) (λh=>(oQ b w).mono ?_)
 ·have h1:=cU h;rw [decide_eq_true h1,Bool.true_or]
 ·rintro e w' ⟨rfl,rfl⟩;have h1:=cU h;rw [decide_eq_false h1,Bool.false_or];exact ⟨_,rfl,rfl,rfl⟩
def Gk(b:Int)(w:World):ah 223 #[b] w λe w'=>e=Value.int .i64 (jL b)/\w'=w:=by
 apply RW.vc;refine (xE b w).mono ?_;rintro e w0 ⟨rfl,rfl⟩;unfold jL;refine ⟨_,rfl,Br.mk (λh=> ?_) (λh=>(oQ b w0).mono ?_)⟩
 ·rw [if_pos (by simpa using h)];exact ⟨rfl,rfl⟩
 ·rintro e w2 ⟨rfl,rfl⟩;rw [if_neg (by simpa using h)];refine ⟨_,rfl,Br.mk (λh=> ?_) (λh=> ?_)⟩
  ·rw [if_pos h];exact ⟨rfl,rfl⟩
  ·rw [if_neg (by rw [h];decide)];exact ⟨rfl,rfl⟩
def Tl(v:Value)(V:Ce->Int)(w:World):Prop:=∃D:Nat->Prop,(∀i,D i->i<w.heap.size)/\∀w',(∀i,D i->w'.heap[i]? =w.heap[i]?)->∀c,pW c->cC Tryz.prog v [eE c] w' λe w''=>e=Value.int .i64 (V c)/\Ext w' w''
def Tl.ext{v:Value}{V:Ce->Int}{w w':World}(h:Tl v V w)(x:Ext w w'):Tl v V w':=by obtain ⟨D,h1,h2⟩:=h;exact ⟨D,λi hi=>kM (h1 i hi) x.size,λw'' hk=>h2 w'' λi hi=>(hk i hi).trans (x.heap (h1 i hi))⟩
def Tl.at{v:Value}{V:Ce->Int}{w:World}(h:Tl v V w){c:Ce}(hc:pW c):cC Tryz.prog v [eE c] w λe w'=>e=Value.int .i64 (V c)/\Ext w w':=by obtain ⟨D,h1,h2⟩:=h;exact h2 w (λ_ _=>rfl) c hc
def eG{v:Value}{l:LV}{w:World}{R R':Ending->World->Prop}(h:cC Tryz.prog v l w R)(k:∀e w',R e w'->R' e w'):cC Tryz.prog v l w R':=dw h k
abbrev mA(x:Go.eH.Cg):LV:=[.int .i64 x.1.1,.int .i64 x.1.2.1,.int .i64 x.1.2.2,.int .i64 x.2]
def ab7{E k n:Nat}{w w':World}{s s':Sl}{news:LV}(h:aY E k w s n news s' w')(hc:s.c<s.n+n):Ext w w':=by
 cases h with
 |fits hf=>omega
 |CE=>exact (Ext.dr w).tr (Ext.al _ _)
set_option maxRecDepth 100000 in
def Ss{v:Value}{V:Ce->Int}{w:World}(hV:Tl v V w)(c:Ce)(hc:eQ c):
  ah 222 #[v,eE c] w λe w'=>∃s:Sl,e=s/\aE w qL 3 w' s ((oW V c).map eg)/\Ext w w':=by
 apply RY.vc;intro w0 e0;have x0:=aQ e0;have z0:=eR e0;refine (jn c hc w0).mono ?_;rintro e w1 ⟨rfl,x1⟩;have z1:=x1.size;refine ⟨_,_,_,_,_,_,_,_,_,_,_,_,_,_,_,_,_,_,rfl,x1.heap ab,λeW e20=> ?_⟩;have di:=aQ e20;have z20:=eR e20;have hr:Row eW w1 [aa,aa,aa,aa,aa,aa,aa,aa,aa,aa,aa,aa,aa,aa,aa,aa,aa,aa] 186:=Row.nw e20;refine ⟨⟨rfl,hr.wr cp⟩,λe=>by
  have:w1.heap.size=w.heap.size:=by simpa [bz] using e
  omega,λeZ HL dP HI=> ?_⟩
 have HL:eZ=aL eW (aB w1.heap.size) (DJ c):=HL;rw [hr.aL (vs:=DJ c) cp (FZ c),ep cp] at HL;have qM:Row eZ w1 (DJ c) 186:=hr.st HL;have db:Ext w eZ:=(x0.tr (x1.tr di)).ag HL ab;have z21:=QY HL;have xd:=Ext.dr eZ;have zd:=lE eZ;have ef:=aQ HI;have z22:=eR HI;have av9:Row dP eZ.drew.heap.size (eg c) qL:=Row.nw HI;have awa:=db.tr (xd.tr ef);have awb:=qM.ext (xd.tr ef);have ho:aE w qL 3 dP ⟨aB eZ.drew.heap.size,1,1⟩ [eg c]:=aE.jI ab av9 cp (aC _) rfl cp;have ha:=ho.H2 (bytes:=24) (more:=(nX c).map eg) ab (λr hr=>by obtain ⟨y,-,rfl⟩:=aW.1 hr;rfl) (λr hr=>by obtain ⟨y,-,rfl⟩:=aW.1 hr;exact B8 y) (by simp [nX]) (by simp [nX]);obtain ⟨hp,bk⟩:=ha;refine ⟨((nX c).map eg).flatten,?_,hp,λwE cW agN=> ?_⟩
 ·rw [eF];intro i u hu;exact awb.at i (by rw [ab6];exact hu)
 obtain ⟨Zv,aCS,-,-,-⟩:=bk wE cW agN;have dY:Ext dP cW:=ab7 agN (show (1:Nat)<1+(6-0) by decide);have z25:=dY.size;have apt:Ext w cW:=awa.tr dY;have Zv:aE w qL 3 cW wE ((c::nX c).map eg):=Zv;have kF:=Zv.rd (show 0<3 by decide);have aCT:wE.n=7:=kF.n;refine ⟨dY.heap ab,dY.heap ab,λn x ug gf=>∃j:Nat,x=j/\j+n=7/\aE cW qL 3 gf ug ((((c::nX c).take j).filter λn=>decide (0<jL (V n))).map eg)/\Ext cW gf,⟨7,rfl,rfl,0,rfl,rfl,aE.nil,Ext.cM _⟩,?_⟩;rintro n us x ug gf ⟨j,rfl,hj,adY,iD⟩;have z31:=iD.size;apply Br.mk<;>intro hb
 ·replace hb:=nA hb;obtain ⟨y,hy⟩:=bE (l:=c::nX c) (i:=j) (by have:(c::nX c).length=7:=rfl;omega);have hym:y ∈ c::nX c:=aX hy;have oky:pW y:=by
   rcases cB.1 hym with rfl|h
   ·exact hc.ok
   ·exact Fy hc h
  have hy':((c::nX c).map eg)[j]? =some (eg y):=by rw [aR,hy];rfl
  have xi:(c::nX c).take (j+1)=(c::nX c).take j++ [y]:=by rw [dR,hy];rfl
  refine ⟨kF.im (i:=(j:Int)) aF ab hb,_,_,_,(kF.ext iD).bY hy',λkG e36 gw ZE=> ?_⟩;have gI:Ext gf gw:=(aQ e36).ag ZE (aC _);have z37:=AU e36 ZE;refine eG ((hV.ext (apt.tr (iD.tr gI))).at oky) ?_;rintro e oD ⟨rfl,gk⟩;have z38:=gk.size;refine ⟨_,rfl,gk.heap ab,gk.heap ab,gk.heap ab,(Gk (V y) oD).mono ?_⟩;rintro e jP ⟨rfl,rfl⟩;have wk:=nS (j:=j);refine ⟨_,rfl,rfl,rfl,rfl,?_⟩;have apu:=adY.ext (gI.tr gk);apply Br.mk<;>intro hd
  ·intro lj e42;subst e42;have alu:ug.n<=7:=by have h1:=(adY.rd (show 0<3 by decide)).n;have h2:=wM (λn=>decide (0<jL (V n))) ((c::nX c).take j);rw [aN] at h1;rw [dK] at h2;omega
   obtain ⟨D7,hres8⟩:=apu.jk (bytes:=24) (news:=eg y) (.cells #[y.1,y.2.1,y.2.2] qL) ab rfl (B8 y) ab ab;refine ⟨D7,λs43 lg adZ=> ?_⟩;obtain ⟨f8,yM,hn8,x8,Hj,-⟩:=hres8 s43 lg adZ;have xa:=Ext.al jP (.cells #[y.1,y.2.1,y.2.2] qL);have aj9:∀b,ug.bf=some b->cW.heap.size<=b/\b<gf.heap.size:=λb hb=>adY.own.lt hb
   have kp:∀j,(j<cW.heap.size\/gf.heap.size<=j)->j<jP.heap.size->lg.heap[j]? =(jP.alloc (.cells #[y.1,y.2.1,y.2.2] qL)).heap[j]? :=λj hj hj2=>by rw [Hj j (λhb=>by have:=aj9 j hb;omega) hj2,xa.heap hj2]
   refine ⟨kp _ (.inl ab) ab,kp _ (.inl ab) ab,kp _ (.inr ab) ab,f8,n-1,by omega,rfl,rfl,j+1,wk,by omega,?_,(Below.trans (iD.tr (gI.tr gk)) x8:Below cW cW lg)⟩;rw [xi,qc,bW,Jw (by simpa using hd)];exact yM
  ·refine ⟨n-1,by omega,rfl,rfl,j+1,wk,by omega,?_,iD.tr (gI.tr gk)⟩;rw [xi,qc,bW,Jy (by simpa using hd)];simpa using apu
 ·replace hb:=nN hb;have hj7:(c::nX c).take j=c::nX c:=fN (by have:(c::nX c).length=7:=rfl;omega);rw [hj7] at adY;exact ⟨ug,rfl,adY.low ab,apt.tr iD⟩
def RF(c:Ce):((DJ c).drop ((2:Int).toNat*3)).take 3=eg (eY c):=rfl
set_option maxRecDepth 100000 in
def Wb{v:Value}{V:Ce->Int}{w:World}(hV:Tl v V w)(c:Ce)(hc:eQ c):
  ah 278 #[v,eE c] w λe w'=>∃s:Sl,e=s/\aE w kR 4 w' s ((GY V c).map mA)/\Ext w w':=by
 apply Wp.vc;intro w0 e0;have x0:=aQ e0;have z0:=eR e0;refine (jn c hc w0).mono ?_;rintro e w1 ⟨rfl,x1⟩;have z1:=x1.size;have okl:pW (eY c):=Fy hc (by simp [nX]);refine ⟨_,_,_,_,_,_,_,_,_,_,_,_,_,_,_,_,_,_,rfl,x1.heap ab,by decide,_,_,_,RF c,λeP VC gl IB=> ?_⟩;have eU:Ext w1 gl:=(aQ VC).ag IB (aC _);have z24:=AU VC IB;have alv:=x0.tr (x1.tr eU);refine eG ((hV.ext alv).at okl) ?_;rintro e cW ⟨rfl,dY⟩;have z25:=dY.size;refine ⟨_,rfl,dY.heap ab,dY.heap ab,(Dh (V (eY c)) cW).mono ?_⟩;rintro e dX ⟨rfl,rfl⟩;unfold GY;refine ⟨_,rfl,rfl,rfl,Br.mk (λh=> ?_) (λh=>λdW Qm=> ?_)⟩
 ·rw [if_neg (by simpa using h)];exact ⟨⟨none,0,0⟩,rfl,aE.nil,alv.tr dY⟩
 ·rw [if_pos (by simpa using h)];have hr:Row dW dX (([(c,V (eY c)),(eY c,3)]:List Go.eH.Cg).map mA).flatten kR:=Row.nw Qm;exact ⟨⟨aB dX.heap.size,2,2⟩,rfl,aE.jI ab hr (aC _) (aC _) rfl (by intro r hr;simp at hr;rcases hr with rfl|rfl<;>rfl),(alv.tr dY).bF Qm⟩
set_option maxRecDepth 100000
set_option maxHeartbeats 8000000
set_option linter.unusedVariables false
variable {R:Ending->World->Prop} {w:World} {a0 a1 a2 a3 a4 a5 a6 a7 a8 a9 aA ar au aU aV aZ bG bC bD Cf aj aq aw bt bR bH eB eO eC wh bA bQ bw wi wm vb vd wo wu wx Ch Ci Cj Ck Cm Cn Co Cp Cq Cr:Int}
def Na.vc{a0:Value}(h:
 Aw w #[aj,aq,aw] 41 λw0=>
 ah 301 #[a0,.agg #[aj,aq,aw]] w0 (λe w1=>∃(x2:Int)(b3:Bool),e=Value.tuple #[x2,b3]/\Kp w w0 w1/\
 ∃J4:World->Prop,
 (Br (a2>0)
 (Br (!b3)
 (Aw w1 #[aj,aq,aw,aa] 289 λw5=>
 R (Value.slice (aB w1) 1 1) w5)
 (Br (a2>0)
 (Br (x2 !=a2)
 (ah 302 #[x2] w1.drew (Ri λx7 w6=>Kp w w1.drew w6/\
 af w6 w 0 [aj,aq,aw]/\Aw w6 #[aj,aq,aw,x7] 289 λw8=>
 R (Value.slice (aB w6) 1 1) w8))
 (aO [aj,aq,aw]/\J4 w1))
 (aO [aj,aq,aw]/\J4 w1)))
 (Br (a2>0)
 (Br (x2 !=a2)
 (ah 302 #[x2] w1.drew (Ri λbj w9=>Kp w w1.drew w9/\
 af w9 w 0 [aj,aq,aw]/\Aw w9 #[aj,aq,aw,bj] 289 λbg=>
 R (Value.slice (aB w9) 1 1) bg))
 (aO [aj,aq,aw]/\J4 w1))
 (aO [aj,aq,aw]/\J4 w1)))/\
 ∀aj5:Nat->Value,∀(bK:World),J4 bK->
 ah 159 #[.agg #[aj,aq,aw]] bK (λe bO=>∃(cw cH dh cA cu di db ef dG eU dY fg fO gm gn jN iD ic:Int),e=Value.agg #[cw,cH,dh,cA,cu,di,db,ef,dG,eU,dY,fg,fO,gm,gn,jN,iD,ic]/\Kp w bK bO/\
 ((0:Int)<=2/\(2:Int)<((6:Nat):Int))/\∃(eL ie kI:Int),(([cw,cH,dh,cA,cu,di,db,ef,dG,eU,dY,fg,fO,gm,gn,jN,iD,ic]:LV).drop ((2:Int).toNat*3)).take 3=[.int .i64 eL,.int .i64 ie,.int .i64 kI]/\
 Aw bO #[aa,aa,aa] 41 λkG=>
 Sw kG bO #[eL,ie,kI] λgw=>
 ∃J38:World->Prop,
 (cC Tryz.prog a0 [.agg #[eL,ie,kI]] gw (Ri λmP kx=>K2 w bO gw kx (
 Br (mP==0)
 (ah 302 #[(1:Int)] kx.drew (Ri λnj jw=>K2 w bO kx.drew jw (
 af jw (aB bO) 0 [eL,ie,kI]/\Aw jw #[eL,ie,kI,nj] 289 λjg=>
 R (Value.slice (aB jw) 1 1) jg)))
 (ah 202 #[mP] kx (Rb λQo lg=>K2 w bO kx lg (
 Br Qo
 (R (Value.slice none 0 0) lg)
 (Br (a2>=7)
 (R (Value.slice none 0 0) lg)
 (aO [aj,aq,aw]/\aO [eL,ie,kI]/\J38 lg))))))))/\
 ∀apk:Nat->Value,∀(lW:World),J38 lW->
 ah 303 #[.agg #[aj,aq,aw]] lW (Rs λs49 gj=>K2 w bO lW gj (
 ∃I50:Nat->Int->Sl->World->Prop,
 (∃n51,aO [aj,aq,aw]/\aO [eL,ie,kI]/\I50 n51 (0) ⟨none,0,0⟩ gj)/\
 ∀(n51:Nat)(atx:Nat->Value)(jA:Int)(EH:Sl)(xk:World),I50 n51 jA EH xk->
 Br (decide (jA<((s49.n:Nat):Int)))
 (eA s49.a jA s49.n/\∃(oo wy qq:Int),af xk (ae s49.a ((jA:Int).toNat*3)) 0 [oo,wy,qq]/\
 Aw xk #[aa,aa,aa] 41 λmQ=>
 Sw mQ xk #[oo,wy,qq] λpx=>
 cC Tryz.prog a0 [.agg #[oo,wy,qq]] px (Ri λuf iH=>K3 w bO xk px iH (
 Br (uf==0)
 (ah 302 #[(ao (a2+1))] iH.drew (Ri λrW ue=>K3 w bO xk iH.drew ue (
 af ue xk 0 [oo,wy,qq]/\Aw ue #[oo,wy,qq,rW] 289 λrT=>
 ba 32 4 rT EH 1 [oo,wy,qq,rW]/\∀(s67:Sl)(uc:World),aY 289 4 rT EH 1 [oo,wy,qq,rW] s67 uc->K4 w bO xk ue rT uc (
 ∃n56,n56<n51/\aO [aj,aq,aw]/\aO [eL,ie,kI]/\I50 n56 ((ao (jA+1))) s67 uc))))
 (∃n56,n56<n51/\aO [aj,aq,aw]/\aO [eL,ie,kI]/\I50 n56 ((ao (jA+1))) EH iH))))
 (R EH xk)))))):ah 279 #[a0,.agg #[aj,aq,aw],a2] w R:=
 cq ⟨[(14,⟨[(66,.int .i64),(11,.slice)],[],[]⟩)],[(12,⟨[],[],[]⟩),(6,⟨[],[],[]⟩)],[]⟩ Tryz.func279 h
def af7{E k m n c:Nat}{w w':World}{a:Option Addr}{s':Sl}{xs news:LV}{rows:List (LV)}(h:aY E k w ⟨a,m,c⟩ n news s' w')(hc:c<m+n)(hx:xs.length=m*k)(kF:Rd w a xs)(dy:xs++news=rows.flatten)(hw:∀r ∈ rows,r.length=k)(hl:news.length=n*k):aE w E k w' s' rows/\Ext w w':=by
 cases h with
 |fits hf=>simp only at hf;omega
 |CE hg fI rest cap e1 e2 e3 e4=>
  have ho:fI=xs:=by
   apply iP;intro i;rcases jD i xs.length with hi|hi
   ·have h1:=kF i xs[i] (dm hi);have hi':i<fI.length:=by simp only at e1;omega
    have h2:=e2 i fI[i] (dm hi');rw [h1] at h2;rw [dm hi,dm hi'];exact h2.symm
   ·rw [jS hi,jS (by simp only at e1;omega)]
  subst ho;have L9:=Row.new w.drew (fI++news++rest) E;refine ⟨aE.jI (aC _) L9 (Nat.le_of_eq e4.symm) e3 ?_ hw,(Ext.dr w).tr (Ext.al _ _)⟩;rw [<-dy];have dN:(fI++news).length=(m+n)*k:=by rw [dv,hx,hl,oK]
  rw [J0 (by simp only;omega),fN (by simp only;omega)]
def Fz(b:Int)(w:World):ah 280 #[b] w λe w'=>e=Value.int .i64 (gQ b)/\w'=w:=by
 apply N4.vc;refine (oQ b w).mono ?_;rintro e w0 ⟨rfl,rfl⟩;unfold gQ;refine ⟨_,rfl,Br.mk (λh=> ?_) (λh=> ?_)⟩
 ·have h:rq b=false:=by simpa using h
  rw [h,if_neg aF];exact ⟨rfl,rfl⟩
 ·have h:rq b=true:=by simpa using h
  rw [h,if_pos rfl];unfold rq at h;simp only [fk,cN] at h;rw [wI];exact ⟨rfl,rfl⟩
def Nc{c:Ce}(h:eQ c){n:Ce}(hn:n ∈ cS c):pW n/\n ∈ nX c:=by
 have:n ∈ nX c:=by
  unfold cS at hn;unfold nX;simp only [cB,iJ,or_false] at hn ⊢;rcases hn with h|h|h|h
  ·exact .inl h
  ·exact .inr (.inl h)
  ·exact .inr (.inr (.inr (.inr (.inl h))))
  ·exact .inr (.inr (.inr (.inr (.inr h))))
 exact ⟨Fy h this,this⟩
def Vr{w:World}{g:Nat}{cs:LV}{τ:TypeId}(hr:Row w g cs τ)(o:Nat){xs:LV}(h:∀i,i<xs.length->cs[o+i]? =xs[i]?):Rd w (dC g o) xs:=λi v hv=>by
 rw [bh,hr.ld]
 have hi:=(cG.1 hv).1
 rw [h i hi];exact hv
def zw(c:Ce)(hc:eQ c)(w:World):ah 303 #[eE c] w λe w'=>∃s:Sl,e=s/\aE w qL 3 w' s ((cS c).map eg)/\Ext w w':=by
 apply Ny.vc;intro w0 e0;have x0:=aQ e0;have z0:=eR e0;refine (jn c hc w0).mono ?_;rintro e w1 ⟨rfl,x1⟩;have z1:=x1.size;refine ⟨_,_,_,_,_,_,_,_,_,_,_,_,_,_,_,_,_,_,rfl,x1.heap ab,λeW e20=> ?_⟩;have di:=aQ e20;have hr:Row eW w1 [aa,aa,aa,aa,aa,aa,aa,aa,aa,aa,aa,aa,aa,aa,aa,aa,aa,aa] 186:=Row.nw e20;refine ⟨⟨rfl,hr.wr cp⟩,λe=>by
  have:w1.heap.size=w.heap.size:=by simpa [bz] using e
  omega,λeZ HL=> ?_⟩
 have HL:eZ=aL eW (aB w1.heap.size) (DJ c):=HL;rw [hr.aL (vs:=DJ c) cp (FZ c),ep cp] at HL;have qM:Row eZ w1 (DJ c) 186:=hr.st HL;have db:Ext w eZ:=(x0.tr (x1.tr di)).ag HL ab;have xd:=Ext.dr eZ;have hr3:=qM.ext xd;have x21d:=db.tr xd;have zz:w1.heap.size<eZ.drew.heap.size:=hr3.lt;have dN:(eg ((c.1,c.2.1,c.2.2-1):Ce)++eg (c.1,c.2.1,c.2.2+1)).length=6:=rfl;have h1:One (eg ((c.1,c.2.1,c.2.2-1):Ce)++eg (c.1,c.2.1,c.2.2+1)):=by
  intro v hv;rcases cV.1 hv with hv|hv
  ·exact B8 _ v hv
  ·exact B8 _ v hv
 have rd0:Rd eZ.drew (aB w1.heap.size) (eg ((c.1-1,c.2.1,c.2.2):Ce)++eg (c.1+1,c.2.1,c.2.2)):=Vr hr3 0 (λi hi=>by
  have hi:i<6:=hi;have:i=0\/i=1\/i=2\/i=3\/i=4\/i=5:=by omega
  rcases this with rfl|rfl|rfl|rfl|rfl|rfl<;>rfl)
 refine ⟨by decide,by decide,by decide,by decide,by decide,by decide,eg ((c.1,c.2.1,c.2.2-1):Ce)++eg (c.1,c.2.1,c.2.2+1),Vr (o:=12) hr3 (λi hi=>by
  have hi:i<6:=hi;have:i=0\/i=1\/i=2\/i=3\/i=4\/i=5:=by omega
  rcases this with rfl|rfl|rfl|rfl|rfl|rfl<;>rfl),⟨λhf=>absurd hf (show ¬(2+2<=2) by decide),λ_=>⟨_,rfl,rd0⟩,λhg=>⟨growslice_fits hg (show (2+2)*24<=140737488355328 by decide),show ((2+2:Nat):Int)<=9223372036854775807 by decide⟩,rfl,h1⟩,λs23 gl bk=> ?_⟩
 obtain ⟨ho,eU⟩:=af7 (rows:=(cS c).map eg) (xs:=eg ((c.1-1,c.2.1,c.2.2):Ce)++eg (c.1+1,c.2.1,c.2.2)) bk (show 2<2+2 by decide) rfl rd0 rfl (by intro r hr;obtain ⟨y,-,rfl⟩:=aW.1 hr;rfl) rfl;exact ⟨eU.heap ab,s23,rfl,ho.low ab,x21d.tr eU⟩
def Fx(V:Ce->Int):∀(l:List Ce)(m:Int),0<=m/\m<=7->0<=l.foldl (λm n=>if 0<=gQ (V n) then min m (gQ (V n)) else m) m/\l.foldl (λm n=>if 0<=gQ (V n) then min m (gQ (V n)) else m) m<=7
 | [],m,h=>h
 |n::l,m,h=>by
  rw [nJ]
  refine Fx V l _ ?_
  split<;>omega
def YJ(c:Ce):((DJ c).drop ((3:Int).toNat*3)).take 3=eg (xg c):=rfl
def RE{v:Value}{V:Ce->Int}{w:World}(hV:Tl v V w)(c:Ce)(hc:eQ c):
  ah 301 #[v,eE c] w λe w'=>e=Value.tuple #[.int .i64 (fR V c).1,.bool (fR V c).2]/\Ext w w':=by
 apply RX.vc;intro w0 e0;have x0:=aQ e0;have z0:=eR e0;refine (jn c hc w0).mono ?_;rintro e w1 ⟨rfl,x1⟩;have z1:=x1.size;have oko:pW (xg c):=Fy hc (by simp [nX]);refine ⟨_,_,_,_,_,_,_,_,_,_,_,_,_,_,_,_,_,_,rfl,x1.heap ab,by decide,_,_,_,YJ c,eG ((hV.ext (x0.tr x1)).at oko) ?_⟩;rintro e eP ⟨rfl,dG⟩;have z23:=dG.size;have apY:=x0.tr (x1.tr dG);refine ⟨_,rfl,dG.heap ab,(oQ (V (xg c)) eP).mono ?_⟩;rintro e cW ⟨rfl,rfl⟩;unfold fR;refine ⟨_,rfl,rfl,Br.mk (λh=> ?_) (λh=>(zw c hc cW).mono ?_)⟩
 ·rw [if_pos h];exact ⟨rfl,apY⟩
 rintro e dX ⟨Q5,rfl,ho,fO⟩;have z27:=fO.size;rw [if_neg (by rw [h];decide)];have kF:=ho.rd (show 0<3 by decide);have hn:Q5.n=4:=kF.n;refine ⟨Q5,rfl,fO.heap ab,λn x m wr=>∃j:Nat,x=j/\j+n=4/\m=((cS c).take j).foldl (λm n=>if 0<=gQ (V n) then min m (gQ (V n)) else m) 7/\Ext dX wr,⟨4,rfl,0,rfl,rfl,rfl,Ext.cM _⟩,?_⟩;rintro n us x m wr ⟨j,rfl,hj,rfl,xr⟩;have zr:=xr.size;have xr0:=apY.tr (fO.tr xr);apply Br.mk<;>intro hb
 ·replace hb:=nA hb;obtain ⟨y,hy⟩:=bE (l:=cS c) (i:=j) (by have:(cS c).length=4:=rfl;omega);have oky:=(Nc hc (aX hy)).1;have hy':((cS c).map eg)[j]? =some (eg y):=by rw [aR,hy];rfl
  have xi:(cS c).take (j+1)=(cS c).take j++ [y]:=by rw [dR,hy];rfl
  have wk:=nS (j:=j);refine ⟨kF.im (i:=(j:Int)) aF ab hb,_,_,_,(kF.ext xr).bY hy',λkx e39 jP TN=> ?_⟩;have mP:Ext wr jP:=(aQ e39).ag TN (aC _);have z40:=AU e39 TN;refine eG ((hV.ext (xr0.tr mP)).at oky) ?_;rintro e jw ⟨rfl,lC⟩;have z41:=lC.size;refine ⟨_,rfl,lC.heap ab,lC.heap ab,(Fz (V y) jw).mono ?_⟩;rintro e jg ⟨rfl,rfl⟩;refine ⟨_,rfl,rfl,rfl,Br.mk (λh2=> ?_) (λh2=> ?_)⟩
  ·have h2:=cU h2;refine ⟨n-1,by omega,rfl,j+1,wk,by omega,?_,xr.tr (mP.tr lC)⟩;rw [xi,oT,nJ,List.foldl_nil,if_pos h2];split<;>omega
  ·have h2:=cU h2;refine ⟨n-1,by omega,rfl,j+1,wk,by omega,?_,xr.tr (mP.tr lC)⟩;rw [xi,oT,nJ,List.foldl_nil,if_neg h2]
 ·replace hb:=nN hb;have ht:(cS c).take j=cS c:=fN (by have:(cS c).length=4:=rfl;omega);rw [ht];have hle:(cS c).foldl (λm n=>if 0<=gQ (V n) then min m (gQ (V n)) else m) 7=xD V (cS c):=rfl;have pc:=Fx V (cS c) 7 aF;rw [hle] at pc ⊢;apply Br.mk<;>intro h2
  ·rw [if_pos (by simpa using h2)];exact ⟨rfl,xr0⟩
  ·rw [if_neg (by simpa using h2),wI];exact ⟨rfl,xr0⟩
def aeX(x:Go.eH.Cg):One (mA x):=by intro v hv;simp at hv;rcases hv with rfl|rfl|rfl|rfl<;>rfl
def KX{w:World}{g:Nat}{B:Nat}(x:Go.eH.Cg)(hr:Row w g (mA x) kR)(hB:B<=g):aE B kR 4 w ⟨aB g,1,1⟩ ([x].map mA):=aE.jI hB hr cp (aC _) rfl cp
def RD{v:Value}{V:Ce->Int}{w:World}(hV:Tl v V w)(c:Ce)(hc:eQ c)(level:Int)(hl:0<=level/\level<=7):
  ah 279 #[v,eE c,level] w λe w'=>∃s:Sl,e=s/\aE w kR 4 w' s ((kX V c level).map mA)/\Ext w w':=by
 apply Na.vc;intro w0 e0;have x0:=aQ e0;have z0:=eR e0;have r0:Row w0 w (eg c) qL:=Row.nw e0;refine (RE (hV.ext x0) c hc).mono ?_;rintro e w1 ⟨rfl,x1⟩;have z1:=x1.size;have jQ:=x0.tr x1;have Mb:bN (fR V c).1:=by
  have:=Fx V (cS c) 7 aF;have hle:(cS c).foldl (λm n=>if 0<=gQ (V n) then min m (gQ (V n)) else m) 7=xD V (cS c):=rfl;rw [hle] at this;unfold fR bN;split
  ·simp
  ·split
   ·simp
   ·simp only;omega
 have caseA:0<level->(fR V c).2=false->kX V c level=[(c,0)]:=λh1 h2=>by unfold kX;rw [if_pos ⟨h1,h2⟩]
 have caseB:0<level->¬(fR V c).2=false->(fR V c).1≠level->kX V c level=[(c,kr (fR V c).1)]:=λh1 h2 h3=>by unfold kX;rw [if_neg (λq=>h2 q.2),if_pos ⟨h1,h3⟩]
 have armB:0<level->¬(fR V c).2=false->(fR V c).1≠level->ah 302 #[.int .i64 (fR V c).1] w1.drew (λe w6=>∃(x7:Int),e=x7/\w6.heap[w.heap.size]? =w1.drew.heap[w.heap.size]?/\
   af w6 (aB w.heap.size) 0 [c.1,c.2.1,c.2.2]/\∀w8:World,w8=w6.alloc (.cells #[c.1,c.2.1,c.2.2,x7] kR)->
   (λe w'=>∃s:Sl,e=Ending.returned s/\aE w kR 4 w' s ((kX V c level).map mA)/\Ext w w') (.returned (.slice (aB w6.heap.size) 1 1)) w8):=by
  intro h1 h2 h3;refine (lK (fR V c).1 w1.drew Mb).mono ?_;rintro e w6 ⟨rfl,rfl⟩;refine ⟨_,rfl,rfl,Lo.wv (r0.ext (x1.tr (Ext.dr w1))),λw8 e8=> ?_⟩;have hr:Row w8 w1.drew.heap.size (mA (c,kr (fR V c).1)) kR:=Row.nw e8;have zd:=lE w1;refine ⟨⟨aB w1.drew.heap.size,1,1⟩,rfl,?_,(jQ.tr (Ext.dr w1)).bF e8⟩;rw [caseB h1 h2 h3];exact KX _ hr ab
 refine ⟨_,_,rfl,x1.heap ab,λwj=>wj=w1/\kX V c level=(if V (eY c)=0 then [(eY c,kr 1)] else if rq (V (eY c))=true\/7<=level then [] else ((cS c).filter λn=>decide (V n=0)).map λn=>(n,kr (level+1))),?_,?_⟩
 ·have fine:(¬0<level\/(¬(fR V c).2=false/\(fR V c).1=level))->kX V c level=(if V (eY c)=0 then [(eY c,kr 1)] else if rq (V (eY c))=true\/7<=level then [] else ((cS c).filter λn=>decide (V n=0)).map λn=>(n,kr (level+1))):=λh=>by unfold kX;rw [if_neg (λq=>h.elim (λh=>h q.1) λh=>h.1 q.2),if_neg (λq=>h.elim (λh=>h q.1) λh=>q.2 h.2)]
  refine Br.mk (λh1=>Br.mk (λh2=>λw5 e5=> ?_) (λh2=>Br.mk (λ_=>Br.mk (λh3=> ?_) (λh3=>⟨rfl,rfl,?_⟩)) (λh3=> ?_))) (λh1=>Br.mk (λh3=> ?_) (λh3=>⟨rfl,rfl,?_⟩))
  ·have h1:=cU h1;have hr:Row w5 w1 (mA (c,0)) kR:=Row.nw e5;refine ⟨⟨aB w1.heap.size,1,1⟩,rfl,?_,jQ.bF e5⟩;rw [caseA h1 (by simpa using h2)];exact KX _ hr ab
  ·exact armB (by simpa using h1) (by simpa using h2) (by simpa using h3)
  ·exact fine (.inr ⟨by simpa using h2,by simpa using h3⟩)
  ·rw [h1] at h3;cases h3
  ·rw [h1] at h3;cases h3
  ·exact fine (.inl (by simpa using h1))
 rintro us bK ⟨rfl,hW⟩;rw [hW];refine (jn c hc bK).mono ?_;rintro e bO ⟨rfl,bI⟩;have ZD:=bI.size;have okl:pW (eY c):=Fy hc (by simp [nX]);refine ⟨_,_,_,_,_,_,_,_,_,_,_,_,_,_,_,_,_,_,rfl,bI.heap ab,by decide,_,_,_,RF c,λkG e36 gw ZE=> ?_⟩;have gI:Ext bO gw:=(aQ e36).ag ZE (aC _);have z37:=AU e36 ZE;have rl:Row gw bO (eg (eY c)) qL:=by rw [ZE];exact Row.set (by rw [e36];exact Row.new bO [_,_,_] _) _
 have AL:=jQ.tr (bI.tr gI);refine ⟨λwj=>Ext gw wj/\¬V (eY c)=0/\¬(rq (V (eY c))=true\/7<=level),eG ((hV.ext AL).at okl) ?_,?_⟩
 ·rintro e kx ⟨rfl,oh⟩;have z39:=oh.size;refine ⟨_,rfl,oh.heap ab,oh.heap ab,Br.mk (λh=>(lK 1 kx.drew (by unfold bN;omega)).mono ?_) (λh=>(oQ (V (eY c)) kx).mono ?_)⟩
  ·rintro e jw ⟨rfl,rfl⟩;have h:=cU h;refine ⟨_,rfl,rfl,rfl,Lo.wv (rl.ext (oh.tr (Ext.dr kx))),λjg e43=> ?_⟩;have hr:Row jg kx.drew.heap.size (mA (eY c,kr 1)) kR:=Row.nw e43;have zd:=lE kx;refine ⟨⟨aB kx.drew.heap.size,1,1⟩,rfl,?_,(AL.tr (oh.tr (Ext.dr kx))).bF e43⟩;rw [if_pos h];exact KX _ hr ab
  ·rintro e lg ⟨rfl,rfl⟩;have h:=cU h;rw [if_neg h];refine ⟨_,rfl,rfl,rfl,Br.mk (λh2=> ?_) (λh2=>Br.mk (λh3=> ?_) (λh3=>⟨rfl,rfl,oh,h,?_⟩))⟩
   ·rw [if_pos (.inl h2)];exact ⟨⟨none,0,0⟩,rfl,aE.nil,AL.tr oh⟩
   ·rw [if_pos (.inr (by simpa using h3))];exact ⟨⟨none,0,0⟩,rfl,aE.nil,AL.tr oh⟩
   ·rintro (q|q)
    ·rw [q] at h2;cases h2
    ·simp at h3;omega
 rintro us lW ⟨sW,h1,h2⟩;have z47:=sW.size;rw [if_neg h1,if_neg h2];have asL:=AL.tr sW;refine (zw c hc lW).mono ?_;rintro e gj ⟨s49,rfl,asM,yL⟩;have z48:=yL.size;have IC:=asL.tr yL;have kF:=asM.rd (show 0<3 by decide);have aAs:s49.n=4:=kF.n;refine ⟨s49,rfl,yL.heap ab,yL.heap ab,λn x EH wr=>∃j:Nat,x=j/\j+n=4/\aE gj kR 4 wr EH (((((cS c).take j).filter λn=>decide (V n=0)).map λn=>((n,kr (level+1)):Go.eH.Cg)).map mA)/\Ext gj wr,⟨4,rfl,rfl,0,rfl,rfl,aE.nil,Ext.cM _⟩,?_⟩;rintro n us x EH wr ⟨j,rfl,hj,ho,xr⟩;have zr:=xr.size;have xr0:=IC.tr xr;apply Br.mk<;>intro hb
 ·replace hb:=nA hb;obtain ⟨y,hy⟩:=bE (l:=cS c) (i:=j) (by have:(cS c).length=4:=rfl;omega);have oky:=(Nc hc (aX hy)).1;have hy':((cS c).map eg)[j]? =some (eg y):=by rw [aR,hy];rfl
  have xi:(cS c).take (j+1)=(cS c).take j++ [y]:=by rw [dR,hy];rfl
  have wk:=nS (j:=j);refine ⟨kF.im (i:=(j:Int)) aF ab hb,_,_,_,(kF.ext xr).bY hy',λmQ e60 px e61=> ?_⟩;have vI:Ext wr px:=(aQ e60).ag e61 (aC _);have z61:=AU e60 e61;have ry:Row px wr (eg y) qL:=by rw [e61];exact Row.set (by rw [e60];exact Row.new wr [_,_,_] _) _
  refine eG ((hV.ext (xr0.tr vI)).at oky) ?_;rintro e iH ⟨rfl,om⟩;have z62:=om.size;refine ⟨_,rfl,om.heap ab,om.heap ab,om.heap ab,Br.mk (λh3=> ?_) (λh3=> ?_)⟩
  ·have wl:ao (level+1)=level+1:=wI;rw [wl];refine (lK (level+1) iH.drew (by unfold bN;omega)).mono ?_;rintro e ue ⟨rfl,rfl⟩;have xd:=vI.tr (om.tr (Ext.dr iH));have zd:=lE iH;refine ⟨_,rfl,rfl,rfl,rfl,Lo.wv (ry.ext (om.tr (Ext.dr iH))),λrT e66=> ?_⟩;subst e66;have ho':=ho.ext xd;have aAt:EH.n<=4:=by have h1:=(ho.rd (show 0<4 by decide)).n;have h2:=wM (λn=>decide (V n=0)) ((cS c).take j);rw [aN,aN] at h1;rw [dK] at h2;omega
   obtain ⟨D7,hres8⟩:=ho'.jk (bytes:=32) (news:=mA (y,kr (level+1))) (.cells #[y.1,y.2.1,y.2.2,(kr (level+1))] kR) ab rfl (aeX _) ab ab;refine ⟨D7,λs67 uc asQ=> ?_⟩;obtain ⟨f8,yM,hn8,x8,Hj,-⟩:=hres8 s67 uc asQ;have xa:=Ext.al iH.drew (.cells #[y.1,y.2.1,y.2.2,(kr (level+1))] kR);have aj9:∀b,EH.bf=some b->gj.heap.size<=b/\b<wr.heap.size:=λb hb=>ho.own.lt hb
   have kp:∀j,(j<gj.heap.size\/wr.heap.size<=j)->j<iH.drew.heap.size->uc.heap[j]? =(iH.drew.alloc (.cells #[y.1,y.2.1,y.2.2,(kr (level+1))] kR)).heap[j]? :=λj hj hj2=>by rw [Hj j (λhb=>by have:=aj9 j hb;omega) hj2,xa.heap hj2]
   refine ⟨kp _ (.inl ab) ab,kp _ (.inl ab) ab,kp _ (.inr ab) ab,f8,n-1,by omega,rfl,rfl,j+1,wk,by omega,?_,(Below.trans (xr.tr xd) x8:Below gj gj uc)⟩;rw [xi,qc,bW,bW,Jw (by simpa using h3)];exact yM
  ·refine ⟨n-1,by omega,rfl,rfl,j+1,wk,by omega,?_,xr.tr (vI.tr om)⟩;rw [xi,qc,bW,bW,Jy (by simpa using h3)];simpa using ho.ext (vI.tr om)
 ·replace hb:=nN hb;have ht:(cS c).take j=cS c:=fN (by have:(cS c).length=4:=rfl;omega);rw [ht] at ho;exact ⟨EH,rfl,ho.low ab,xr0⟩
def aai{b:Int}(h:rq b=true):0<=gQ b/\gQ b<=7:=by unfold gQ;rw [h,if_pos rfl];unfold rq at h;simp only [fk,cN] at h;omega
def RG{v:Value}{V:Ce->Int}{w:World}(hV:Tl v V w)(c:Ce)(hc:eQ c):
  ah 242 #[v,eE c] w λe w'=>∃s:Sl,e=s/\aE w kR 4 w' s ((gd V c).map mA)/\Ext w w':=by
 apply Wa.vc;intro w0 e0;have x0:=aQ e0;have z0:=eR e0;have r0:Row w0 w (eg c) qL:=Row.nw e0;refine eG ((hV.ext x0).at hc.ok) ?_;rintro e w1 ⟨rfl,x1⟩;have z1:=x1.size;have jQ:=x0.tr x1;refine ⟨_,rfl,x1.heap ab,(xE (V c) w1).mono ?_⟩;rintro e w3 ⟨rfl,rfl⟩;unfold gd;refine ⟨_,rfl,rfl,Br.mk (λh=> ?_) (λh=>(oQ (V c) w3).mono ?_)⟩
 ·rw [if_pos (by simpa using h)];refine (Wb (hV.ext jQ) c hc).mono ?_;rintro e w5 ⟨s,rfl,ho,x5⟩;exact ⟨s,rfl,x5.heap ab,s,rfl,ho.low ab,jQ.tr x5⟩
 ·rintro e w7 ⟨rfl,rfl⟩;rw [if_neg (by simpa using h)];refine ⟨_,rfl,rfl,Br.mk (λh2=>(Fz (V c) w7.drew).mono ?_) (λh2=> ?_)⟩
  ·rintro e w9 ⟨rfl,rfl⟩;rw [h2,if_pos rfl];have xd:=jQ.tr (Ext.dr w7);have zd:=lE w7;refine ⟨_,rfl,rfl,Lo.wv (r0.ext (x1.tr (Ext.dr w7))),(RD (hV.ext xd) c hc (gQ (V c)) (aai h2)).mono ?_⟩;rintro e bg ⟨s,rfl,ho,bu⟩;exact ⟨s,rfl,bu.heap ab,s,rfl,ho.low ab,xd.tr bu⟩
  ·rw [h2,if_neg aF];exact ⟨⟨none,0,0⟩,rfl,aE.nil,jQ⟩
open Go.fh
abbrev Bp:TypeId:=130
structure Sm where
 ak:Int
 cap:Int
 T:Tb
 ch:List Go.eH.Cg
 q:QS
 dE:Int
 now:Int
 kC:List Ce
abbrev smC(g o:Nat)(M:Sm)(occ:Value)(sd:Sl):LV:=[g,o,.int .i64 M.dE,.int .i64 M.now,occ,.slice sd.a sd.n sd.c]
def SF(F:Nat->Prop)(w:World)(s o t:Nat)(M:Sm)(occ:Value):Prop:=
 ∃g m qs Fw sd,Row w s (smC g o M occ sd) Bp/\Q.wX w g m qs M.q/\Lw M.q/\WF Fw w o t M.ak M.cap M.T M.ch/\aE 0 qL 3 w sd (M.kC.map eg)/\(∀i,Q.ja g m qs i->¬Fw i)/\F=λi=>i=s\/Q.ja g m qs i\/Fw i\/sd.bf=some i
section
variable {F F':Nat->Prop} {w w':World} {s o t:Nat} {M M':Sm} {occ:Value}
def SF.lt(h:SF F w s o t M occ){i:Nat}(hi:F i):i<w:=by
 obtain ⟨g,m,qs,Fw,sd,h1,h2,-,h3,h4,-,rfl⟩:=h;rcases hi with rfl|hi|hi|hi
 ·exact h1.lt
 ·exact h2.lt i hi
 ·exact h3.lt hi
 ·exact (h4.own.lt hi).2
def SF.same(h:SF F w s o t M occ)(hk:∀i,F i->w'.heap[i]? =w.heap[i]?):SF F w' s o t M occ:=by obtain ⟨g,m,qs,Fw,sd,h1,h2,hq,h3,h4,h5,rfl⟩:=h;obtain ⟨kvs,m1,m2⟩:=h2.map;exact ⟨g,m,qs,Fw,sd,h1.same (hk _ (.inl rfl)),⟨h2.row.same (hk _ (.inr (.inl (.inl rfl)))),aE.de h2.own λb hb=>hk b (.inr (.inl (.inr (.inr hb)))),kvs,m1.same (hk _ (.inr (.inl (.inr (.inl rfl))))),m2⟩,hq,h3.same λi hi=>hk i (.inr (.inr (.inl hi))),aE.de h4 λb hb=>hk b (.inr (.inr (.inr hb))),h5,rfl⟩
def SF.ext(h:SF F w s o t M occ)(x:Ext w w'):SF F w' s o t M occ:=h.same λ_ hi=>x.heap (h.lt hi)
def SF.dU(h:SF F w s o t M occ){j:Nat}{cs:LV}{τ:TypeId}(hr:Row w j cs τ)(h1:E8 τ)(h2:τ≠sm)(h3:τ≠kR)(h4:τ≠Bp)(h5:τ≠Q.ku)(h6:τ≠Q.cJ)(hj:∀(g:Nat)(sd:Sl),Row w s (smC g o M occ sd) Bp->sd.bf≠some j):¬F j:=by
 obtain ⟨g,m,qs,Fw,sd,r1,r2,-,r3,r4,-,rfl⟩:=h;rintro (hi|hi|hi|hi)
 ·exact hr.ne r1 h4 hi
 ·exact r2.dU hr h5 h6 hi
 ·exact r3.dU hr h1 h2 h3 hi
 ·exact hj g sd r1 hi
def SF.j9(h:SF F w s o t M occ){j:Nat}{cs:LV}{τ:TypeId}(hr:Row w j cs τ)(h1:E8 τ)(h2:τ≠sm)(h3:τ≠kR)(h4:τ≠Bp)(h5:τ≠Q.ku)(h6:τ≠Q.cJ)(h7:τ≠qL):¬F j:=by
 obtain ⟨g,m,qs,Fw,sd,r1,r2,-,r3,r4,-,rfl⟩:=h;rintro (hi|hi|hi|hi)
 ·exact hr.ne r1 h4 hi
 ·exact r2.dU hr h5 h6 hi
 ·exact r3.dU hr h1 h2 h3 hi
 ·obtain ⟨cs',hr'⟩:=bc r4 aF hi;exact hr.ne hr' h7 rfl
abbrev mB(F:Nat->Prop)(w:World)(s o t:Nat)(M:Sm)(occ:Value)(w':World):Prop:=∃F',SF F' w' s o t M occ/\aM F F' w w'
def SF.world(h:SF F w s o t M occ):∃Fw,WF Fw w o t M.ak M.cap M.T M.ch/\(∀i,Fw i->F i)/\∀{w':World} {T':Tb} {ch':List Go.eH.Cg},HY Fw w o t M.ak M.cap T' ch' w'->mB F w s o t {M with T:=T',ch:=ch'} occ w':=by
 obtain ⟨g,m,qs,Fw,sd,h1,h2,hq,h3,h4,h5,rfl⟩:=h;refine ⟨Fw,h3,λi hi=> .inr (.inr (.inl hi)),?_⟩;rintro w' T' ch' ⟨F',h',ht⟩;have n1:=h3.dU h1 aF aF aF;have n2:∀i,Q.ja g m qs i->¬Fw i:=h5;have n4:∀b,sd.bf=some b->¬Fw b:=λb hb=>by obtain ⟨cs',hr'⟩:=bc h4 aF hb;exact h3.dU hr' aF aF aF
 refine ⟨_,⟨g,m,qs,F',sd,ht.mod.row h1 n1,h2.de ht.mod n2,hq,h',ht.mod.iq h4 n4,?_,rfl⟩,ht.mod.mono λi _ hi=> .inr (.inr (.inl hi)),λi hi=> ?_⟩
 ·exact λi hi hf=>ht.apart (G:=Q.ja g m qs) (λi hi hg=>h5 i hg hi) (λi hi=>h2.lt i hi) i hf hi
 ·rcases hi with hi|hi|hi|hi
  ·exact .inl (.inl hi)
  ·exact .inl (.inr (.inl hi))
  ·exact (ht.sub i hi).imp (λh=> .inr (.inr (.inl h))) id
  ·exact .inl (.inr (.inr (.inr hi)))
def SF.queue(h:SF F w s o t M occ):∃g m qs,Q.wX w g m qs M.q/\Lw M.q/\(∃sd,Row w s (smC g o M occ sd) Bp)/\(∀i,Q.ja g m qs i->F i)/\∀{w':World} {qs':Sl} {q':QS},Q.wX w' g m qs' q'->Lw q'->aM (Q.ja g m qs) (Q.ja g m qs') w w'->mB F w s o t {M with q:=q'} occ w':=by
 obtain ⟨g,m,qs,Fw,sd,h1,h2,hq,h3,h4,h5,rfl⟩:=h;refine ⟨g,m,qs,h2,hq,⟨sd,h1⟩,λi hi=> .inr (.inl hi),?_⟩;rintro w' qs' q' h' hq' ht;have n1:=h2.dU h1 aF aF;have n3:∀i,Fw i->¬Q.ja g m qs i:=λi hi hf=>h5 i hf hi
 have n4:=h2.abl h4 aF aF aF;refine ⟨_,⟨g,m,qs',Fw,sd,ht.mod.row h1 n1,h',hq',h3.de ht.mod n3,ht.mod.iq h4 n4,?_,rfl⟩,ht.mod.mono λi _ hi=> .inr (.inl hi),λi hi=> ?_⟩
 ·exact λi hi hf=>ht.apart (G:=Fw) (λi hi hg=>h5 i hi hg) (λi hi=>h3.lt hi) i hi hf
 ·rcases hi with hi|hi|hi|hi
  ·exact .inl (.inl hi)
  ·exact (ht.sub i hi).imp (λh=> .inr (.inl h)) id
  ·exact .inl (.inr (.inr (.inl hi)))
  ·exact .inl (.inr (.inr (.inr hi)))
def SF.row(h:SF F w s o t M occ):∃g sd,Row w s (smC g o M occ sd) Bp/\aE 0 qL 3 w sd (M.kC.map eg)/\F s/\(∀b,sd.bf=some b->F b)/\∀{w':World} {M':Sm} {occ':Value} {sd':Sl},M'.ak=M.ak->M'.cap=M.cap->M'.T=M.T->M'.ch=M.ch->M'.q=M.q->Mod (λi=>i=s\/sd.bf=some i) w w'->Row w' s (smC g o M' occ' sd') Bp->aE 0 qL 3 w' sd' (M'.kC.map eg)->(∀b,sd'.bf=some b->sd.bf=some b\/w.heap.size<=b)->mB F w s o t M' occ' w':=by
 obtain ⟨g,m,qs,Fw,sd,h1,h2,hq,h3,h4,h5,rfl⟩:=h;refine ⟨g,sd,h1,h4,.inl rfl,λb hb=> .inr (.inr (.inr hb)),?_⟩;rintro w' M' occ' sd' e1 e2 e3 e4 e5 hm hr hd eX;have q1:=h2.dU h1 aF aF;have q2:=h2.abl h4 aF aF aF;have r1:=h3.dU h1 aF aF aF;have r2:∀b,sd.bf=some b->¬Fw b:=λb hb=>by obtain ⟨cs',hr'⟩:=bc h4 aF hb;exact h3.dU hr' aF aF aF
 refine ⟨_,⟨g,m,qs,Fw,sd',hr,by rw [e5];exact h2.de hm λi hi hf=>hf.elim (λe=>q1 (e▸hi)) (λe=>q2 _ e hi),by rw [e5];exact hq,by rw [e1,e2,e3,e4];exact h3.de hm λi hi hf=>hf.elim (λe=>r1 (e▸hi)) (λe=>r2 _ e hi),hd,h5,rfl⟩,hm.mono λi _ hi=>hi.elim .inl (λe=> .inr (.inr (.inr e))),λi hi=> ?_⟩;rcases hi with hi|hi|hi|hi
 ·exact .inl (.inl hi)
 ·exact .inl (.inr (.inl hi))
 ·exact .inl (.inr (.inr (.inl hi)))
 ·exact (eX i hi).imp (λh=> .inr (.inr (.inr h))) id
end
def N0{l:List En}(hg:lu l)(c:Ce)(b:Int):lu (eM l c b).1:=by
 unfold eM;split
 ·exact hg
 ·split
  ·exact hg
  ·split
   ·exact hg
   ·intro e he;rcases cV.1 he with he|he
    ·exact hg e ((wP ..).subset he)
    ·simp only [Option.mem_toList,zD] at he;obtain ⟨y,hy,rfl⟩:=he;exact UP (hg y (aX hy)).1 (hg y (aX hy)).2 c b
def tw(M:Sm)(c:Ce)(b:Int):Sm:={M with T:=(M.T.1,(eM M.T.2 c b).1),ch:=Ux M.T.2 M.ch c b,q:=if (eM M.T.2 c b).2=0 then tz (fj (eM M.T.2 c b).1) M.now M.q c else M.q}
def cY(M:Sm)(x:Go.eH.Cg):Sm:=if fj M.T.2 x.1=x.2 then M else tw M x.1 x.2
def wW(O:Ce->Bool)(M:Sm)(c:Ce):Bool:=decide (fj M.T.2 c=3) &&(!(gd (fj M.T.2) c).isEmpty && O (eY c))
def mD(O:Ce->Bool)(M:Sm)(c:Ce):Sm:=
 if mZ M.T.2 c=false then {M with q:=(pF M.q c (M.now+1)).1}
 else if wW O M c=true then cY {M with kC:=M.kC++ [eY c]} (c,0)
 else (gd (fj M.T.2) c).foldl cY M
def sL(M:Sm):Int:=min (M.now+1) 1099511627776
def BG(M:Sm):Sm:={M with now:=sL M,q:=(Lx M.q (sL M) M.dE).1}
def qR(M:Sm):List Ce:=(Lx M.q (sL M) M.dE).2
def C6(O:Ce->Bool)(M:Sm):Sm:=(qR M).foldl (mD O) (BG M)
section
variable {F F':Nat->Prop} {w w':World} {s o t:Nat} {M M':Sm} {occ:Value}
def SF.tl(h:SF F w s o t M occ):Tl (.func (.func 83) #[t] #[]) (fj M.T.2) w:=by obtain ⟨Fw,hW,-,-⟩:=h.world;exact ⟨Fw,λi hi=>hW.lt hi,λw' hk c hc=>hW.amG hk c hc⟩
def amH:Lw ⟨4096,0,[]⟩:=⟨by decide,by decide,List.Pairwise.nil,List.nodup_nil⟩
def Da{Fw:Nat->Prop}{ak cap:Int}{T:Tb}{ch:List Go.eH.Cg}(h:WF Fw w o t ak cap T ch)(dE:Int):ah 40 #[o,dE] w λe w'=>∃s F,e=Value.pointer (aB s)/\SF F w' s o t ⟨ak,cap,T,ch,⟨4096,0,[]⟩,min (max dE 1) 64,0,[]⟩ (.func (.func 98) #[] #[])/\Ext w w'/\(∀i,F i->Fw i\/w.heap.size<=i):=by
 apply afa.vc;refine (Q.Gi 4096 w).mono ?_;rintro e w0 ⟨g,m,rfl,hq,x0,hg,hm⟩;refine ⟨_,rfl,λw2 e2=> ?_⟩;have eb:(if 64<(if 1>dE then 1 else dE) then 64 else (if 1>dE then 1 else dE))=min (max dE 1) 64:=by split<;>split<;>omega
 rw [eb] at e2;have x2:=aQ e2;have hr:Row w2 w0 (smC g o ⟨ak,cap,T,ch,⟨4096,0,[]⟩,min (max dE 1) 64,0,[]⟩ (.func (.func 98) #[] #[]) ⟨none,0,0⟩) Bp:=Row.nw e2;refine ⟨w0.heap.size,_,rfl,⟨g,m,⟨none,0,0⟩,Fw,⟨none,0,0⟩,hr,hq.ext x2,amH,h.ext (x0.tr x2),aE.nil,?_,rfl⟩,x0.tr x2,λi hi=> ?_⟩
 ·rintro i (hi|hi|hi) hf
  ·have:=h.lt hf;omega
  ·have:=h.lt hf;omega
  ·cases hi
 ·have:=x0.size;rcases hi with hi|(hi|hi|hi)|hi|hi
  ·exact .inr ab
  ·exact .inr ab
  ·exact .inr ab
  ·cases hi
  ·exact .inl hi
  ·cases hi
def fY(h:SF F w s o t M occ):ah 18 #[s] w λe w'=>e=Value.pointer (aB o)/\w'=w:=by obtain ⟨g,sd,h1,-⟩:=h.row;apply H9.vc;exact ⟨_,h1.at 1 rfl,rfl,rfl⟩
def wR(h:SF F w s o t M occ):ah 82 #[s] w λe w'=>∃s':Sl,e=s'/\aE w Q.cJ 4 w' s' (M.q.l.map fV)/\Ext w w':=by obtain ⟨g,m,qs,hq,bn,⟨sd,hr⟩,-⟩:=h.queue;apply DD.vc;refine ⟨_,hr.at 0 rfl,(Q.aa3 hq bn).mono ?_⟩;rintro e w' ⟨s',rfl,ho,x⟩;exact ⟨s',rfl,s',rfl,ho,x⟩
def zT(h:SF F w s o t M occ)(f:Fn)(a b:Array Value):ah 118 #[s,.func f a b] w λe w'=>e=po/\mB F w s o t M (.func f a b) w'/\Mod (λi=>i=s) w w':=by
 obtain ⟨g,sd,hr,ho,-,-,bk⟩:=h.row;apply FP.vc;obtain ⟨p1,p2⟩:=hr.kl (j:=4) (v:=.func f a b) (by simp [smC]) rfl;refine ⟨⟨rfl,p1⟩,λw0 e0=>⟨rfl,?_⟩⟩;obtain ⟨q1,q2⟩:=p2 w0 e0;have hso:∀b,sd.bf=some b->b≠s:=λb hb=>by obtain ⟨cs',hr'⟩:=bc ho aF hb;exact hr'.ne hr aF
 exact ⟨bk (M':=M) rfl rfl rfl rfl rfl (q2.mono λi _ hi=> .inl hi) q1 (q2.iq ho hso) (λb hb=> .inl hb),q2⟩
def Ox(b:Int):0<=jL b/\jL b<=5:=by
 unfold jL;split
 ·decide
 ·split<;>decide
def aa4{V:Ce->Int}{c:Ce}(hc:eQ c):∀n ∈ oW V c,pW n:=λn hn=>by
 unfold oW at hn
 rcases cB.1 (iI.1 hn).1 with rfl|h
 ·exact hc.ok
 ·exact Fy hc h
def JN(V:Ce->Int)(c:Ce):(oW V c).length<=7:=wM _ _
abbrev Gj(V:Ce->Int)(now:Int)(q:QS)(n:Ce):QS:=(pF q n (now+jL (V n))).1
def yb(V:Ce->Int)(now:Int):∀(l:List Ce)(q:QS),q.lost<=(l.foldl (Gj V now) q).lost/\(l.foldl (Gj V now) q).lost<=q.lost+l.length
 | [],q=>⟨oP _,by simp⟩
 |n::l,q=>by
  have h1:=yb V now l (Gj V now q n)
  have h2:=JO q n (now+jL (V n))
  have h3:(Gj V now q n).lost=(pF q n (now+jL (V n))).1.lost:=rfl
  simp only [nJ,du]
  omega
set_option maxRecDepth 100000 in
def Xc(h:SF F w s o t M occ)(c:Ce)(hc:eQ c)(hl:0<=M.q.lost/\M.q.lost<=900000)(agT:0<=M.now/\M.now<=1099511627776):
  ah 162 #[s,eE c] w λe w'=>e=po/\mB F w s o t {M with q:=tz (fj M.T.2) M.now M.q c} occ w':=by
 apply Lj.vc;intro w0 e0;have x0:=aQ e0;have z0:=eR e0;have h0:=h.ext x0;obtain ⟨g,sd,hr,-,hFs,-⟩:=h0.row;obtain ⟨Fw,hW,-,-⟩:=h0.world;refine ⟨_,hr.at 1 rfl,(fz hW).mono ?_⟩;rintro e w2 ⟨rfl,hw⟩;subst hw;refine ⟨_,rfl,rfl,(Ss h0.tl c hc).mono ?_⟩;rintro e w4 ⟨s5,rfl,ho,x4⟩;have z4:=x4.size;have kF:=ho.rd (show 0<3 by decide);have hn5:=kF.n;have h4:=h0.ext x4;have hL:=JN (fj M.T.2) c;have bn:=aa4 (V:=fj M.T.2) hc;unfold tz;generalize hLe:oW (fj M.T.2) c=L at*;rw [aN] at hn5;refine ⟨s5,rfl,x4.heap ab,λn x bP=>∃(j:Nat)(F':Nat->Prop),x=j/\j+n=L.length/\SF F' bP s o t {M with q:=(L.take j).foldl (Gj (fj M.T.2) M.now) M.q} occ/\aM F F' w4 bP,⟨L.length,rfl,0,F,rfl,by omega,h4,aM.refl _ _⟩,?_⟩;rintro n us x bP ⟨j,F',rfl,hj,hS,hT⟩;have YS:=hT.mod.size;have hF:∀i,F i->i<w.heap.size:=λi hi=>h.lt hi
 have hrd10:RdK bP s5 3 (L.map eg):=hT.mod.rdK aF kF λ_ b hb hf=>by have:=(ho.own.lt hb).1;have:=hF b hf;omega
 apply Br.mk<;>intro hb
 ·replace hb:=nA hb;obtain ⟨y,hy⟩:=bE (l:=L) (i:=j) ab;have oky:=bn y (aX hy);have hy':(L.map eg)[j]? =some (eg y):=by rw [aR,hy];rfl
  have xi:L.take (j+1)=L.take j++ [y]:=by rw [dR,hy];rfl
  have hlost:=yb (fj M.T.2) M.now (L.take j) M.q;have aBn:(L.take j).length<=7:=by rw [dK];omega
  generalize hqj:(L.take j).foldl (Gj (fj M.T.2) M.now) M.q=qj at*;refine ⟨hrd10.im (i:=(j:Int)) aF ab hb,_,_,_,hrd10.bY hy',λdB pN cF HU=> ?_⟩;have cH:Ext bP cF:=(aQ pN).ag HU (aC _);have z16:=AU pN HU;have aui:Row cF bP (eg y) qL:=by rw [HU];exact Row.set (by rw [pN];exact Row.new bP [_,_,_] _) _
  have xd:=cH.tr (Ext.dr cF);have zd:=lE cF;have aoA:=hS.ext xd;obtain ⟨g',m,qs,hq,uY,⟨sd',hr'⟩,eX,bk⟩:=aoA.queue;refine ⟨_,hr'.at 0 rfl,_,hr'.at 3 rfl,eG (aoA.tl.at oky) ?_⟩;rintro e gg ⟨rfl,cu⟩;have z19:=cu.size;have agU:=hr'.ext cu;have aoB:=(aui.ext (Ext.dr cF)).ext cu;have hd:=Ox (fj M.T.2 y);have wr:ao (M.now+jL (fj M.T.2 y))=M.now+jL (fj M.T.2 y):=wI;refine ⟨_,rfl,cu.heap ab,cu.heap ab,lQ (agU.at 3 rfl),Lo.wv aoB,lQ (agU.at 0 rfl),(Gk (fj M.T.2 y) gg).mono ?_⟩;rintro e eZ ⟨rfl,hw⟩;subst hw;refine ⟨_,rfl,rfl,rfl,lQ (agU.at 3 rfl),Lo.wv aoB,lQ (agU.at 0 rfl),?_⟩;rw [wr];refine (Q.Oy (hq.ext cu) uY (by simp only at hlost ⊢;omega) y (M.now+jL (fj M.T.2 y))).mono ?_;rintro e eP ⟨rfl,qs',hq',ht⟩;have wk:=nS (j:=j);have ht':aM (Q.ja g' m qs) (Q.ja g' m qs') cF.drew eP:=(aM.aH cu).trans ht;obtain ⟨F2,Uj,HK⟩:=bk hq' (uY.add y _) ht';have hsF:¬Q.ja g' m qs s:=(hq).dU hr' aF aF;have auj:=ht'.mod.row hr' hsF;have nf:∀i,(w.heap.size<=i/\i<w4.heap.size\/bP.heap.size<=i)->i<cF.drew.heap.size->eP.heap[i]? =eZ.heap[i]? :=λi h1 h2=>(HK.mod.same i h2 (λhf=>by
   rcases h1 with ⟨h1,Vs⟩|h1
   ·rcases hT.sub i hf with q|q
    ·have:=hF i q;omega
    ·omega
   ·have:=hS.lt hf;omega)).trans (cu.heap h2).symm
  refine ⟨_,rfl,nf _ (.inl ab) ab,nf _ (.inr ab) ab,lQ (auj.at 3 rfl),n-1,by omega,rfl,j+1,F2,wk,by omega,?_,(hT.trans (aM.aH xd)).trans HK⟩;rw [xi,oT,hqj];exact Uj
 ·replace hb:=nN hb;rw [fN ab] at hS;exact ⟨rfl,F',hS,(aM.aH (x0.tr x4)).trans hT⟩
end
section
variable {F F':Nat->Prop} {w w':World} {s o t:Nat} {M M':Sm} {occ:Value}
def mB.trans{F1:Nat->Prop}{w1:World}(h:aM F F1 w w1)(k:mB F1 w1 s o t M occ w'):mB F w s o t M occ w':=by obtain ⟨F2,h2,t2⟩:=k;exact ⟨F2,h2,h.trans t2⟩
structure qQ(M:Sm)(n:Nat):Prop where
 l:0<=M.q.lost/\M.q.lost<=n
 c:M.ch.length<=n
 now:0<=M.now/\M.now<=1099511627776
 d:M.kC.length<=n
def qQ.mono{n m:Nat}(h:qQ M n)(hm:n<=m):qQ M m:=⟨⟨h.l.1,by have:=h.l.2;omega⟩,gx h.c hm,h.now,gx h.d hm⟩
def abp(l:List En)(ch:List Go.eH.Cg)(c:Ce)(b:Int):(Ux l ch c b).length<=ch.length+1:=aeR l ch c b
def S1(V:Ce->Int)(now:Int)(q:QS)(c:Ce):q.lost<=(tz V now q c).lost/\(tz V now q c).lost<=q.lost+7:=by have h1:=yb V now (oW V c) q;have h2:=JN V c;have h3:tz V now q c=(oW V c).foldl (Gj V now) q:=rfl;rw [h3];omega
def qQ.edit{n:Nat}(h:qQ M n)(c:Ce)(b:Int):qQ (tw M c b) (n+7):=by
 have h1:=abp M.T.2 M.ch c b;have h2:=S1 (fj (eM M.T.2 c b).1) M.now M.q c;have h3:=h.l;have h4:=h.c;unfold tw;have h5:=h.d;refine ⟨?_,?_,h.now,by simp only;omega⟩
 ·simp only;split<;>omega
 ·simp only;omega
def qQ.change{n:Nat}(h:qQ M n)(x:Go.eH.Cg):qQ (cY M x) (n+7):=by
 unfold cY;split
 ·exact h.mono ab
 ·exact h.edit _ _
def yj(h:SF F w s o t M occ)(c:Ce)(hc:eQ c)(b:Int)(hk:qQ M 800000):
  ah 113 #[s,eE c,b] w λe w'=>e=Value.int .i64 (eM M.T.2 c b).2/\mB F w s o t (tw M c b) occ w':=by
 apply Li.vc;intro w0 e0;have x0:Ext w w0.drew:=(aQ e0).tr (Ext.dr w0);have z0:w0.drew.heap.size=w.heap.size+1:=by show w0.heap.size=_;rw [e0];simp
 have zd:=lE w0;have h0:=h.ext x0;obtain ⟨g,sd,hr,-⟩:=h0.row;obtain ⟨Fw,hW,eX,bk⟩:=h0.world;have hlc:=hk.c;have hll:=hk.l;refine ⟨_,(hr.at 1 rfl),(VV hW c hc.ok b ab).mono ?_⟩;rintro e w2 ⟨rfl,hw⟩;obtain ⟨F2,h2,t2⟩:=bk hw;have hF:∀{i},w.heap.size<=i->i<w0.drew.heap.size->w2.heap[i]? =w0.drew.heap[i]? :=λh1 h3=>t2.mod.same _ h3 λhf=>by have:=h.lt hf;omega
 unfold tw;refine ⟨_,rfl,hF (aC _) ab,Br.mk (λhb=> ?_) (λhb=> ?_)⟩
 ·rw [if_pos (by simpa using hb)];refine (Xc h2 c hc (by simp only;omega) hk.now).mono ?_;rintro e w4 ⟨rfl,F4,h4,t4⟩;have hz:=t2.mod.size;have hnf:¬F2 w:=λhf=>by
   rcases t2.sub _ hf with q|q
   ·have:=h.lt q;omega
   ·omega
  exact ⟨rfl,t4.mod.same _ ab hnf,rfl,F4,h4,(aM.aH x0).trans (t2.trans t4)⟩
 ·rw [if_neg (by simpa using hb)];exact ⟨rfl,F2,h2,(aM.aH x0).trans t2⟩
def qn(h:SF F w s o t M occ)(x:Go.eH.Cg)(hc:eQ x.1)(hk:qQ M 800000):
  ah 244 #[s,.agg (mA x).toArray] w λe w'=>e=po/\mB F w s o t (cY M x) occ w':=by
 apply FQ.vc;intro w0 e0;have VA:Row w0 w (mA x) kR:=Row.nw e0;have x0:Ext w w0.drew:=(aQ e0).tr (Ext.dr w0);have z0:w0.drew.heap.size=w.heap.size+1:=by show w0.heap.size=_;rw [e0];simp
 have hb:=VA.ext (Ext.dr w0);have h0:=h.ext x0;obtain ⟨g,sd,hr,-⟩:=h0.row;obtain ⟨Fw,hW,-,-⟩:=h0.world;refine ⟨_,(hr.at 1 rfl),(fz hW).mono ?_⟩;rintro e w2 ⟨rfl,hw⟩;subst hw;refine ⟨_,rfl,rfl,hb.bY (o:=3) (λj hj=>by
  match j,hj with
  |0,_=>rfl),hb.bY (o:=0) (λj hj=>by
  match j,hj with
  |0,_=>rfl
  |1,_=>rfl
  |2,_=>rfl),eG (h0.tl.at hc.ok) ?_⟩
 rintro e w4 ⟨rfl,x4⟩;have z4:=x4.size;have Dp:=x0.tr x4;unfold cY;refine ⟨_,rfl,x4.heap ab,(hb.ext x4).bY (o:=3) (λj hj=>by
  match j,hj with
  |0,_=>rfl),Br.mk (λkE=> ?_) (λkE=> ?_)⟩
 ·rw [if_neg (by simpa using kE)];refine (yj (h.ext Dp) x.1 hc x.2 hk).mono ?_;rintro e w6 ⟨rfl,F6,h6,t6⟩;exact ⟨_,rfl,t6.mod.same _ ab (λhf=>by have:=h.lt hf;omega),rfl,F6,h6,(aM.aH Dp).trans t6⟩
 ·rw [if_pos (by simpa using kE)];exact ⟨rfl,F,h.ext Dp,aM.aH Dp⟩
end
def Oc(occ:Value)(O:Ce->Bool)(F:Nat->Prop)(w:World):Prop:=∃D:Nat->Prop,(∀i,D i->i<w.heap.size/\¬F i)/\∀w',(∀i,D i->w'.heap[i]? =w.heap[i]?)->∀c,pW c->cC Tryz.prog occ [eE c] w' λe w''=>e=Value.bool (O c)/\Ext w' w''
section
variable {F F':Nat->Prop} {w w':World} {s o t:Nat} {M M':Sm} {occ:Value} {O:Ce->Bool}
def Oc.uJ(h:Oc occ O F w)(ht:aM F F' w w'):Oc occ O F' w':=by
 obtain ⟨D,h1,h2⟩:=h;refine ⟨D,λi hi=>⟨kM (h1 i hi).1 ht.mod.size,λhf=> ?_⟩,λw'' hk=>h2 w'' λi hi=>(hk i hi).trans (ht.mod.same i (h1 i hi).1 (h1 i hi).2)⟩;rcases ht.sub i hf with q|q
 ·exact (h1 i hi).2 q
 ·have:=(h1 i hi).1;omega
def Oc.ext(h:Oc occ O F w)(x:Ext w w'):Oc occ O F w':=h.uJ (aM.aH x)
def Oc.at(h:Oc occ O F w){c:Ce}(hc:pW c):cC Tryz.prog occ [eE c] w λe w'=>e=Value.bool (O c)/\Ext w w':=by obtain ⟨D,h1,h2⟩:=h;exact h2 w (λ_ _=>rfl) c hc
def qQ.fold{n:Nat}:∀{M:Sm} (l:List Go.eH.Cg),qQ M n->qQ (l.foldl cY M) (n+7*l.length)
 |M,[],h=>h
 |M,x::l,h=>(qQ.fold l (h.change x)).mono (by simp only [du];omega)
def Pb(V:Ce->Int)(c:Ce):(gd V c).length<=4:=by
 unfold gd GY kX;split
 ·split<;>simp
 ·split
  ·split
   ·simp
   ·split
    ·simp
    ·split
     ·simp
     ·split
      ·simp
      ·rw [aN];exact wM _ _
  ·simp
def Yv(V:Ce->Int)(c:Ce):∀x ∈ gd V c,x.1=c\/x.1 ∈ nX c:=by
 have ahf:eY c ∈ nX c:=by simp [nX]
 have hside:∀n ∈ cS c,n ∈ nX c:=λn hn=>by
  unfold cS at hn;unfold nX;simp only [cB,iJ,or_false] at hn ⊢;rcases hn with h|h|h|h
  ·exact .inl h
  ·exact .inr (.inl h)
  ·exact .inr (.inr (.inr (.inr (.inl h))))
  ·exact .inr (.inr (.inr (.inr (.inr h))))
 intro x hx;unfold gd at hx;split at hx
 ·unfold GY at hx;split at hx
  ·simp only [cB,iJ,or_false] at hx;rcases hx with rfl|rfl
   ·exact .inl rfl
   ·exact .inr ahf
  ·cases hx
 ·split at hx
  ·unfold kX at hx;split at hx
   ·simp only [cB,iJ,or_false] at hx;rw [hx];exact .inl rfl
   ·split at hx
    ·simp only [cB,iJ,or_false] at hx;rw [hx];exact .inl rfl
    ·split at hx
     ·simp only [cB,iJ,or_false] at hx;rw [hx];exact .inr ahf
     ·split at hx
      ·cases hx
      ·obtain ⟨n,hn,rfl⟩:=aW.1 hx;exact .inr (hside n (iI.1 hn).1)
  ·cases hx
set_option maxRecDepth 100000 in
def Pc(h:SF F w s o t M occ)(hO:Oc occ O F w)(c:Ce)(hc:A2 c)(hk:qQ M 700000):
  ah 173 #[s,eE c] w λe w'=>e=po/\mB F w s o t (mD O M c) occ w':=by
 apply FR.vc;have hc':=id hc;unfold A2 at hc';intro w0 e0;have x0:Ext w w0.drew:=(aQ e0).tr (Ext.dr w0);have z0:w0.drew.heap.size=w.heap.size+1:=by show w0.heap.size=_;rw [e0];simp
 have h0:=h.ext x0;obtain ⟨g,sd,hr,hdr,-,hsdF,bk⟩:=h0.row;obtain ⟨Fw,hW,-,-⟩:=h0.world;refine ⟨_,(hr.at 1 rfl),(uo hW c hc.wide.ok (aeS ab ab)).mono ?_⟩;rintro e w2 ⟨rfl,x2⟩;have z2:=x2.size;have AI:=x0.tr x2;have ahf:pW (eY c):=Fy hc.wide (by simp [nX]);refine ⟨_,rfl,x2.heap ab,Br.mk (λhb=> ?_) (λhb=> ?_)⟩
 ·have xd:=x2.tr (Ext.dr w2);have zd:=lE w2;have agT:=hk.now;have wr:ao (M.now+1)=M.now+1:=wI;obtain ⟨g',m,qs,hq,uY,⟨sd',hr'⟩,eX,hresq⟩:=(h0.ext xd).queue;refine ⟨_,hr'.at 0 rfl,_,hr'.at 3 rfl,?_⟩;rw [wr];have hll:=hk.l;refine (Q.Oy hq uY ab c (M.now+1)).mono ?_;rintro e w6 ⟨rfl,qs',hq',ht⟩;obtain ⟨F2,Uj,HK⟩:=hresq hq' (uY.add c _) ht;have hsF:¬Q.ja g' m qs s:=hq.dU hr' aF aF;refine ⟨_,rfl,HK.mod.same _ ab (λhf=>by have:=h.lt hf;omega),lQ ((ht.mod.row hr' hsF).at 3 rfl),rfl,?_⟩;unfold mD;rw [if_pos (by simpa using hb)];exact ⟨F2,Uj,(aM.aH (x0.tr xd)).trans HK⟩
 have awL:¬mZ M.T.2 c=false:=by simpa using hb
 have qM:=hr.ext x2;refine ⟨_,(qM.at 1 rfl),(fz (hW.ext x2)).mono ?_⟩;rintro e w9 ⟨rfl,hw9⟩;subst hw9;refine ⟨_,rfl,rfl,(RG (h0.tl.ext x2) c hc.wide).mono ?_⟩;rintro e bg ⟨kg,rfl,ho,bu⟩;have z11:=bu.size;have kF:=ho.rd (show 0<4 by decide);have awM:=kF.n;have hLlen:=Pb (fj M.T.2) c;have hLw:∀x ∈ gd (fj M.T.2) c,eQ x.1:=λx hx=>by
  rcases Yv _ _ x hx with q|q
  ·rw [q];exact hc.wide
  ·exact afW hc q
 have hU:mD O M c=if wW O M c=true then cY {M with kC:=M.kC++ [eY c]} (c,0) else (gd (fj M.T.2) c).foldl cY M:=by unfold mD;rw [if_neg awL]
 have hH:wW O M c=(decide (fj M.T.2 c=3) &&(!(gd (fj M.T.2) c).isEmpty && O (eY c))):=rfl;generalize gd (fj M.T.2) c=L at*;rw [aN] at awM;refine ⟨kg,rfl,bu.heap ab,(jn c hc.wide bg).mono ?_⟩;rintro e bK ⟨rfl,cn⟩;have z13:=cn.size;refine ⟨_,_,_,_,_,_,_,_,_,_,_,_,_,_,_,_,_,_,rfl,cn.heap ab,by decide,_,_,_,RF c,λkh e35 kG e36=> ?_⟩;have nh:Ext bK kG:=(aQ e35).ag e36 (aC _);have z36:=AU e35 e36;have xd:=Ext.dr kG;have zd:=lE kG;have aiz:=cn.tr (nh.tr xd);have apS:=AI.tr (bu.tr aiz);refine eG ((h.ext apS).tl.at hc.wide.ok) ?_;rintro e gw ⟨rfl,gI⟩;have z37:=gI.size;have AL:=apS.tr gI;have QW:=aiz.tr gI;refine ⟨_,rfl,gI.heap ab,gI.heap ab,(xE (fj M.T.2 c) gw).mono ?_⟩;rintro e kx ⟨rfl,ak8⟩;subst ak8;have awN:=qM.ext (bu.tr QW);refine ⟨_,rfl,rfl,rfl,Br.mk (λhf=>Br.mk (λhp=> ?_) (λhp=> ?_)) (λhf=> ?_)⟩
 ·refine ⟨_,awN.at 4 rfl,eG ((hO.ext AL).at ahf) ?_⟩;rintro e lj ⟨rfl,nj⟩;have z42:=nj.size;have QX:=AL.tr nj;have hpn:(!L.isEmpty)=true:=by
   have:0<L.length:=by simp only [cN,gt_iff_lt] at hp;omega
   cases L with
   |nil=>simp at this
   |cons=>rfl
  have hf3:decide (fj M.T.2 c=3)=true:=by simpa using hf
  refine ⟨_,rfl,nj.heap ab,nj.heap ab,Br.mk (λhh=> ?_) (λhh=> ?_)⟩
  ·have hHt:wW O M c=true:=by rw [hH,hf3,hpn,hh];rfl
   intro lg e44;have lD:=aQ e44;have z44:=eR e44;have rch:Row lg lj (mA (c,0)) kR:=Row.nw e44;have alE:=Ext.dr lg;have aDo:=lE lg;have apT:=QX.tr (lD.tr alE);have azx:=x2.tr ((bu.tr QW).tr (nj.tr (lD.tr alE)));obtain ⟨g2,sd2,adZ,hdr44,hFs,hsdF2,hres44⟩:=(h.ext apT).row;refine ⟨sd2,adZ.at 5 rfl,λqo e46=> ?_⟩;subst e46;have u9:sd2.n=M.kC.length:=by have:=(hdr44.rd (show 0<3 by decide)).n;rwa [aN] at this
   have hkd:=hk.d;obtain ⟨D7,hres8⟩:=hdr44.jk (bytes:=24) (news:=eg (eY c)) (.cells #[.int .i64 (eY c).1,.int .i64 (eY c).2.1,.int .i64 (eY c).2.2] qL) (g7 _) rfl (B8 _) ab ab;refine ⟨D7,λEN gj awP=> ?_⟩;obtain ⟨f8,yM,hn8,x8,Hj,iG⟩:=hres8 EN gj awP;have xa:=Ext.al lg.drew (.cells #[.int .i64 (eY c).1,.int .i64 (eY c).2.1,.int .i64 (eY c).2.2] qL);have hsdlt:∀b,sd2.bf=some b->b<w.heap.size:=λb hb=>h.lt (hsdF2 b hb)
   have kp:∀j,w.heap.size<=j->j<lg.drew.heap.size->gj.heap[j]? =(lg.drew.alloc (.cells #[.int .i64 (eY c).1,.int .i64 (eY c).2.1,.int .i64 (eY c).2.2] qL)).heap[j]? :=λj h1 h2=>by rw [Hj j (λhb=>by have:=hsdlt j hb;omega) h2,xa.heap h2]
   have aDp:=h.lt hFs;have m48:Mod (λj=>sd2.bf=some j) lg.drew gj:=Mod.xt x8 Hj;have awR:¬sd2.bf=some s:=λe=>by obtain ⟨cs',hr'⟩:=bc hdr44 aF e;exact hr'.ne adZ aF rfl
   have aiA:=m48.row adZ awR;obtain ⟨p1,p2⟩:=aiA.kl (j:=5) (v:=.slice EN.a EN.n EN.c) (by simp [smC]) rfl;have z48:=m48.size;have pb:∀j:Nat,s<j->bz (ae (some ⟨s,0,none⟩) 5)≠some j:=λj hj e=>by
    rw [c5] at e;have:s=j:=by simpa [bz] using e
    omega
   refine ⟨kp _ ab ab,kp _ ab ab,kp _ ab ab,f8,⟨rfl,p1⟩,pb _ ab,pb _ ab,pb _ ab,pb _ ab,λlq e49=> ?_⟩;obtain ⟨q1,q2⟩:=p2 lq e49;have ho9:∀b,EN.bf=some b->b≠s:=λb hb=>by obtain ⟨cs',hr'⟩:=bc yM aF hb;exact hr'.ne aiA aF
   have m49:Mod (λj=>j=s\/sd2.bf=some j) lg.drew lq:=(m48.mono λi _ hi=> .inr hi).trans (q2.mono λi _ hi=> .inl hi);obtain ⟨F3,hS3,hT3⟩:=hres44 (M':={M with kC:=M.kC++ [eY c]}) rfl rfl rfl rfl rfl m49 q1 (by rw [bW];exact q2.iq yM ho9) (λb hb=>by
    rcases iG with e|e
    ·exact .inl (by rw [<-e];exact hb)
    ·rw [e] at hb;cases hb;exact .inr (oN _))
   have z49:=q2.size;have awT:Row lq lg.drew.heap.size (eg (eY c)) qL:=q2.row (Row.same (Row.new lg.drew [_,_,_] qL) f8) ab;have Y0:¬F3 lg.drew.heap.size:=hS3.dU awT amJ.1 aF aF aF aF aF (λg sd r1 hb=>by
    have e1:=(r1.at 5 rfl).symm.trans (q1.at 5 rfl);have e2:sd.a=EN.a:=by injection e1 with e1;injection e1
    have e3:sd.bf=EN.bf:=by unfold Sl.bf;rw [e2]
    rw [e3] at hb;rcases iG with e|e
    ·have:=hsdlt _ (by rw [<-e];exact hb);omega
    ·rw [e] at hb;simp at hb)
   have hch49:Row lq lj (mA (c,0)) kR:=m49.row (rch.ext alE) (λq=>by
    rcases q with q|q
    ·omega
    ·have:=hsdlt _ q;omega)
   have hF3:∀i,F3 i->i<w.heap.size\/lg.heap.size<=i:=λi hi=>(hT3.sub i hi).imp (λq=>h.lt q) id
   refine ⟨λn x wr=>(x=0/\n=1/\wr=lq)\/(x=1/\n=0/\mB F3 lq s o t (cY {M with kC:=M.kC++ [eY c]} (c,0)) occ wr),⟨1,rfl,rfl,rfl,rfl,.inl ⟨rfl,rfl,rfl⟩⟩,?_⟩;rintro n us x wr (⟨rfl,rfl,rfl⟩|⟨rfl,rfl,hS⟩)
   ·refine Br.mk (λ_=> ?_) (λq=>by simp at q);refine ⟨⟨rfl,by decide,by decide⟩,_,_,_,_,Lo.wv hch49,λmQ e60 px e61=> ?_⟩;have vI:Ext wr px:=(aQ e60).ag e61 (aC _);have z61:=AU e60 e61;refine (qn (hS3.ext vI) (c,0) hc.wide ⟨by have:=hk.l;simp only;omega,by have:=hk.c;simp only;omega,hk.now,by have:=hk.d;simp only [dv,List.length_singleton];omega⟩).mono ?_;rintro e iH ⟨rfl,F4,hS4,hT4⟩;have nf:∀i,(w.heap.size<=i/\i<lg.heap.size\/wr.heap.size<=i)->i<px.heap.size->iH.heap[i]? =px.heap[i]? :=λi h1 h2=>hT4.mod.same i h2 λhf=>by
     rcases h1 with ⟨h1,Vs⟩|h1
     ·rcases hF3 i hf with q|q<;>omega
     ·have:=hS3.lt hf;omega
    refine ⟨rfl,nf _ (.inl ab) ab,nf _ (.inl ab) ab,nf _ (.inl ab) ab,hT4.mod.same _ ab Y0,nf _ (.inr ab) ab,0,by omega,rfl,rfl,rfl,rfl,.inr ⟨rfl,rfl,F4,hS4,(aM.aH vI).trans hT4⟩⟩
   ·refine Br.mk (λq=>by simp at q) (λ_=> ?_);rw [hU,if_pos hHt];exact ⟨rfl,mB.trans ((aM.aH apT).trans hT3) hS⟩
  ·have hHf:¬wW O M c=true:=by rw [hH,hh,Bool.and_false,Bool.and_false];decide
   refine ⟨λn x wr=>∃(j:Nat)(F':Nat->Prop),x=j/\j+n=L.length/\SF F' wr s o t ((L.take j).foldl cY M) occ/\aM F F' lj wr,⟨L.length,rfl,rfl,0,F,rfl,by omega,h.ext QX,aM.refl _ _⟩,?_⟩;rintro n us x wr ⟨j,F',rfl,hj,hS,hT⟩;have zr:=hT.mod.size;have hzw42:=(QX).size;have HQ:RdK wr kg 4 (L.map mA):=hT.mod.rdK aF (kF.ext (QW.tr nj)) λ_ b hb hf=>by have:=(ho.own.lt hb).1;have:=h.lt hf;omega
   have nf:∀{w2:World} {F2:Nat->Prop} {w1:World},Ext wr w1->aM F' F2 w1 w2->∀i,(w.heap.size<=i/\i<lj.heap.size\/wr.heap.size<=i)->i<w1.heap.size->w2.heap[i]? =w1.heap[i]? :=λx1 t2 i h1 h2=>t2.mod.same i h2 λhf=>by
    rcases h1 with ⟨h1,Vs⟩|h1
    ·rcases hT.sub i hf with q|q
     ·have:=h.lt q;omega
     ·omega
    ·have:=hS.lt hf;omega
   apply Br.mk<;>intro hb
   ·replace hb:=nA hb;obtain ⟨y,hy⟩:=bE (l:=L) (i:=j) ab;have hy':(L.map mA)[j]? =some (mA y):=by rw [aR,hy];rfl
    have xi:L.take (j+1)=L.take j++ [y]:=by rw [dR,hy];rfl
    have wk:=nS (j:=j);refine ⟨HQ.im (i:=(j:Int)) aF ab hb,_,_,_,_,HQ.bY hy',λw86 e86 Cs e87=> ?_⟩;have qO:Ext wr Cs:=(aQ e86).ag e87 (aC _);have z87:=AU e86 e87;refine (qn (hS.ext qO) y (hLw y (aX hy)) ((hk.fold (L.take j)).mono (by rw [dK];omega))).mono ?_;rintro e MG ⟨rfl,F2,Uj,HK⟩;refine ⟨rfl,nf qO HK _ (.inl ab) ab,nf qO HK _ (.inl ab) ab,nf qO HK _ (.inr ab) ab,n-1,by omega,rfl,rfl,j+1,F2,wk,by omega,?_,(hT.trans (aM.aH qO)).trans HK⟩;rw [xi,oT];exact Uj
   ·replace hb:=nN hb;rw [fN ab] at hS;rw [hU,if_neg hHf];exact ⟨rfl,F',hS,(aM.aH QX).trans hT⟩
 ·have hHf:¬wW O M c=true:=by
   have:L=[]:=by
    have:¬0<L.length:=by simp only [fm,gt_iff_lt] at hp;omega
    exact E2.1 ab
   rw [hH,this];simp
  refine ⟨λn x wr=>∃(j:Nat)(F':Nat->Prop),x=j/\j+n=L.length/\SF F' wr s o t ((L.take j).foldl cY M) occ/\aM F F' kx wr,⟨L.length,rfl,rfl,0,F,rfl,by omega,h.ext AL,aM.refl _ _⟩,?_⟩;rintro n us x wr ⟨j,F',rfl,hj,hS,hT⟩;have zr:=hT.mod.size;have hzw39:=(AL).size;have HQ:RdK wr kg 4 (L.map mA):=hT.mod.rdK aF (kF.ext QW) λ_ b hb hf=>by have:=(ho.own.lt hb).1;have:=h.lt hf;omega
  have nf:∀{w2:World} {F2:Nat->Prop} {w1:World},Ext wr w1->aM F' F2 w1 w2->∀i,(w.heap.size<=i/\i<kx.heap.size\/wr.heap.size<=i)->i<w1.heap.size->w2.heap[i]? =w1.heap[i]? :=λx1 t2 i h1 h2=>t2.mod.same i h2 λhf=>by
   rcases h1 with ⟨h1,Vs⟩|h1
   ·rcases hT.sub i hf with q|q
    ·have:=h.lt q;omega
    ·omega
   ·have:=hS.lt hf;omega
  apply Br.mk<;>intro hb
  ·replace hb:=nA hb;obtain ⟨y,hy⟩:=bE (l:=L) (i:=j) ab;have hy':(L.map mA)[j]? =some (mA y):=by rw [aR,hy];rfl
   have xi:L.take (j+1)=L.take j++ [y]:=by rw [dR,hy];rfl
   have wk:=nS (j:=j);refine ⟨HQ.im (i:=(j:Int)) aF ab hb,_,_,_,_,HQ.bY hy',λw86 e86 Cs e87=> ?_⟩;have qO:Ext wr Cs:=(aQ e86).ag e87 (aC _);have z87:=AU e86 e87;refine (qn (hS.ext qO) y (hLw y (aX hy)) ((hk.fold (L.take j)).mono (by rw [dK];omega))).mono ?_;rintro e MG ⟨rfl,F2,Uj,HK⟩;refine ⟨rfl,nf qO HK _ (.inl ab) ab,nf qO HK _ (.inl ab) ab,nf qO HK _ (.inr ab) ab,n-1,by omega,rfl,rfl,j+1,F2,wk,by omega,?_,(hT.trans (aM.aH qO)).trans HK⟩;rw [xi,oT];exact Uj
  ·replace hb:=nN hb;rw [fN ab] at hS;rw [hU,if_neg hHf];exact ⟨rfl,F',hS,(aM.aH AL).trans hT⟩
 ·have hHf:¬wW O M c=true:=by
   have:¬fj M.T.2 c=3:=by simpa using hf
   rw [hH,decide_eq_false this];simp
  refine ⟨λn x wr=>∃(j:Nat)(F':Nat->Prop),x=j/\j+n=L.length/\SF F' wr s o t ((L.take j).foldl cY M) occ/\aM F F' kx wr,⟨L.length,rfl,rfl,0,F,rfl,by omega,h.ext AL,aM.refl _ _⟩,?_⟩;rintro n us x wr ⟨j,F',rfl,hj,hS,hT⟩;have zr:=hT.mod.size;have hzw39:=(AL).size;have HQ:RdK wr kg 4 (L.map mA):=hT.mod.rdK aF (kF.ext QW) λ_ b hb hf=>by have:=(ho.own.lt hb).1;have:=h.lt hf;omega
  have nf:∀{w2:World} {F2:Nat->Prop} {w1:World},Ext wr w1->aM F' F2 w1 w2->∀i,(w.heap.size<=i/\i<kx.heap.size\/wr.heap.size<=i)->i<w1.heap.size->w2.heap[i]? =w1.heap[i]? :=λx1 t2 i h1 h2=>t2.mod.same i h2 λhf=>by
   rcases h1 with ⟨h1,Vs⟩|h1
   ·rcases hT.sub i hf with q|q
    ·have:=h.lt q;omega
    ·omega
   ·have:=hS.lt hf;omega
  apply Br.mk<;>intro hb
  ·replace hb:=nA hb;obtain ⟨y,hy⟩:=bE (l:=L) (i:=j) ab;have hy':(L.map mA)[j]? =some (mA y):=by rw [aR,hy];rfl
   have xi:L.take (j+1)=L.take j++ [y]:=by rw [dR,hy];rfl
   have wk:=nS (j:=j);refine ⟨HQ.im (i:=(j:Int)) aF ab hb,_,_,_,_,HQ.bY hy',λw86 e86 Cs e87=> ?_⟩;have qO:Ext wr Cs:=(aQ e86).ag e87 (aC _);have z87:=AU e86 e87;refine (qn (hS.ext qO) y (hLw y (aX hy)) ((hk.fold (L.take j)).mono (by rw [dK];omega))).mono ?_;rintro e MG ⟨rfl,F2,Uj,HK⟩;refine ⟨rfl,nf qO HK _ (.inl ab) ab,nf qO HK _ (.inl ab) ab,nf qO HK _ (.inr ab) ab,n-1,by omega,rfl,rfl,j+1,F2,wk,by omega,?_,(hT.trans (aM.aH qO)).trans HK⟩;rw [xi,oT];exact Uj
  ·replace hb:=nN hb;rw [fN ab] at hS;rw [hU,if_neg hHf];exact ⟨rfl,F',hS,(aM.aH AL).trans hT⟩
end
section
variable {F F':Nat->Prop} {w w':World} {s o t:Nat} {M M':Sm} {occ:Value} {O:Ce->Bool}
def CC(l:List Ce):Prop:=∀y ∈ l,A2 y
def qQ.upd{n:Nat}(h:qQ M n)(O:Ce->Bool)(c:Ce):qQ (mD O M c) (n+40):=by
 have h1:=h.l;have h2:=JO M.q c (M.now+1);unfold mD;split
 ·exact ⟨by simp only;omega,by have:=h.c;simp only;omega,h.now,by have:=h.d;simp only;omega⟩
 ·split
  ·have:qQ {M with kC:=M.kC++ [eY c]} (n+1):=⟨by simp only;omega,by have:=h.c;simp only;omega,h.now,by have:=h.d;simp only [dv,List.length_singleton];omega⟩;exact (this.change _).mono ab
  ·have:=Pb (fj M.T.2) c;exact (h.fold _).mono ab
def qQ.W8{n:Nat}(O:Ce->Bool):∀{M:Sm} (l:List Ce),qQ M n->qQ (l.foldl (mD O) M) (n+40*l.length)
 |M,[],h=>h
 |M,x::l,h=>(qQ.W8 O l (h.upd O x)).mono (by simp only [du];omega)
def UU{q:QS}{now b:Int}(hb:1<=b/\b<=64):(Lx q now b).2.length<=64:=by unfold Lx iu;rw [aN,dK];omega
def JI(h:SF F w s o t M occ)(hO:Oc occ O F w)(hd:CC (qR M))(hk:qQ M 600000)(hb:1<=M.dE/\M.dE<=64):
  ah 119 #[s] w λe w'=>e=Value.int .i64 (qR M).length/\mB F w s o t (C6 O M) occ w':=by
 obtain ⟨g,sd,hr,ho,-,-,bk⟩:=h.row;apply Lk.vc;have agT:=hk.now;have wr:ao (M.now+1)=M.now+1:=wI;have en:(if 1099511627776<M.now+1 then 1099511627776 else M.now+1)=sL M:=by unfold sL;split<;>omega
 obtain ⟨p1,p2⟩:=hr.kl (j:=3) (v:=.int .i64 (sL M)) (by simp [smC]) rfl;refine ⟨M.now,hr.at 3 rfl,⟨rfl,p1⟩,λw1 e1=> ?_⟩;rw [wr,en] at e1;obtain ⟨q1,q2⟩:=p2 w1 e1;have hso:∀b,sd.bf=some b->b≠s:=λb hb=>by obtain ⟨cs',hr'⟩:=bc ho aF hb;exact hr'.ne hr aF
 obtain ⟨F1,h1,t1⟩:=bk (M':={M with now:=sL M}) (occ':=occ) (sd':=sd) rfl rfl rfl rfl rfl (q2.mono λi _ hi=> .inl hi) q1 (q2.iq ho hso) (λb hb=> .inl hb);have xd:=Ext.dr w1;have t1d:=t1.trans (aM.aH xd);obtain ⟨g',m,qs,hq,uY,⟨sd',hr'⟩,eX,hresq⟩:=(h1.ext xd).queue;refine ⟨_,hr'.at 0 rfl,_,hr'.at 3 rfl,_,hr'.at 2 rfl,(Q.abj hq uY (sL M) M.dE).mono ?_⟩;rintro e w5 ⟨s6,rfl,qs',AJ,hq',ht⟩;obtain ⟨F5,h5,t5⟩:=hresq hq' (uY.due _ _) ht;have h5:SF F5 w5 s o t (BG M) occ:=h5;have T5:=t1d.trans t5;have hO5:=hO.uJ T5;have kF:=AJ.rd (show 0<3 by decide);have Uk:(qR M).length<=64:=UU hb;have kF:RdK w5 s6 3 ((qR M).map eg):=kF;have AJ:aE w1.drew.heap.size qL 3 w5 s6 ((qR M).map eg):=AJ;have hk5:qQ (BG M) 600000:=⟨hk.l,hk.c,by show 0<=sL M/\sL M<=_;unfold sL;omega,hk.d⟩;obtain ⟨g1,sd1,r1,-,-,f1,-⟩:=(h1.ext xd).row;have hsq:¬Q.ja g' m qs s:=hq.dU hr' aF aF;have r5:=ht.mod.row r1 hsq;have hsF:∀b,s6.bf=some b->¬F5 b:=λb hb=>by
  obtain ⟨cs6,hr6⟩:=bc AJ aF hb;refine h5.dU hr6 amJ.1 aF aF aF aF aF (λg sd r2 kE=> ?_);have e1:=(r2.at 5 rfl).symm.trans (r5.at 5 rfl);have e2:sd.a=sd1.a:=by injection e1 with e1;injection e1
  have e3:sd.bf=sd1.bf:=by unfold Sl.bf;rw [e2]
  have q1:=h1.lt (f1 b (by rw [<-e3];exact kE));have q2:=(AJ.own.lt hb).1;have q3:=lE w1;omega
 unfold C6;generalize qR M=L at*;generalize BG M=M0 at*;have hn6:=kF.n;rw [aN] at hn6;refine ⟨s6,rfl,λn x wr=>∃(j:Nat)(F':Nat->Prop),x=j/\j+n=L.length/\SF F' wr s o t ((L.take j).foldl (mD O) M0) occ/\aM F5 F' w5 wr,⟨L.length,0,F5,rfl,by omega,h5,aM.refl _ _⟩,?_⟩;rintro n us x TM ⟨j,F',rfl,hj,hS,hT⟩;have zr:=hT.mod.size;have HQ:RdK TM s6 3 (L.map eg):=hT.mod.rdK aF kF λ_ b hb hf=>hsF b hb hf
 apply Br.mk<;>intro hb
 ·replace hb:=nA hb;obtain ⟨y,hy⟩:=bE (l:=L) (i:=j) ab;have hy':(L.map eg)[j]? =some (eg y):=by rw [aR,hy];rfl
  have xi:L.take (j+1)=L.take j++ [y]:=by rw [dR,hy];rfl
  have wk:=nS (j:=j);have hsm:=hd y (aX hy);refine ⟨HQ.im (i:=(j:Int)) aF ab hb,_,_,_,HQ.bY hy',λcF HU cL AZ=> ?_⟩;have dh:Ext TM cL:=(aQ HU).ag AZ (aC _);have z17:=AU HU AZ;refine (Pc (hS.ext dh) ((hO5.uJ hT).ext dh) y hsm ((hk5.W8 O (L.take j)).mono (by rw [dK];omega))).mono ?_;rintro e dH ⟨rfl,F2,Uj,HK⟩;refine ⟨rfl,HK.mod.same _ ab (λhf=>by have:=hS.lt hf;omega),n-1,by omega,j+1,F2,wk,by omega,?_,(hT.trans (aM.aH dh)).trans HK⟩;rw [xi,oT];exact Uj
 ·replace hb:=nN hb;rw [fN ab] at hS;exact ⟨by rw [hn6],F',hS,T5.trans hT⟩
end
variable {R:Ending->World->Prop} {w:World} {a0 a1 a2 a3 a4 a5 a6 a7 a8 a9 aA ar au aU aV aZ bG bC bD Cf aj aq aw bt bR bH eB eO eC wh bA bQ bw wi wm vb vd wo wu wx Ch Ci Cj Ck Cm Cn Co Cp Cq Cr:Int}
def vY.vc{a0:Addr}(h:
 Aw w #[aj,aq,aw] 28 λw0=>
 Aw w0 #[aa,aa,aa,aa,aa,aa,aa,aa,false] 70 λw1=>
 Sw w1 w0 #[aj,aq,aw,aa,aa,aa,a2,a3,false] λw2=>
 ah 43 #[.slice (aJ (ae (some a0) 1) (0) (16) 1) (16-0) (16-0),.pointer none] w2 (Ri λx4 w3=>K2 w w0 w2 w3 (
 ah 44 #[.agg #[aj,aq,aw,aa,aa,aa,a2,a3,false]] w3 (Rb λb6 w5=>K2 w w0 w3 w5 (
 Br (!b6)
 (R (Value.tuple #[(-1:Int),(1:Int)]) w5)
 (Br (x4<0)
 (R (Value.tuple #[(-1:Int),(8:Int)]) w5)
 (ah 45 #[a0,.agg #[aj,aq,aw,aa,aa,aa,a2,a3,false]] w5 (Rb λb8 w7=>K2 w w0 w5 w7 (
 Br (!b8)
 (R (Value.tuple #[(-1:Int),(11:Int)]) w7)
 (ah 47 #[a0] w7.drew (Rv λv10 w9=>K2 w w0 w7.drew w9 (
 af w9 (aB w0) 0 [aj,aq,aw,aa,aa,aa,a2,a3,false]/\ah 48 #[.agg #[aj,aq,aw,aa,aa,aa,a2,a3,false]] w9 (xF λbV cn bI cw cH dh bg=>K2 w w0 w9 bg (
 ah 46 #[v10,.agg #[bV,cn,bI,cw,cH,dh]] bg (Rb λb19 dH=>K2 w w0 bg dH (
 Br b19
 (R (Value.tuple #[(-1:Int),(12:Int)]) dH)
 (ah 47 #[a0] dH.drew (Rv λv21 eW=>K2 w w0 dH.drew eW (
 af eW (aB w0) 0 [aj,aq,aw,aa,aa,aa,a2,a3,false]/\ah 48 #[.agg #[aj,aq,aw,aa,aa,aa,a2,a3,false]] eW (xF λdG eU dY fg fO gm dP=>K2 w w0 eW dP (
 ah 49 #[v21,.agg #[dG,eU,dY,fg,fO,gm]] dP (Rb λY2 dW=>K2 w w0 dP dW (
 Sw dW w0 #[aj,aq,aw,aa,aa,aa,a2,a3,Y2] λgf=>
 Aw gf.drew #[aj,aq,aw,aa,aa,aa,a2,a3,Y2,aa,aa,false] 111 λni=>
 (0:Int)<=x4/\x4<((16:Nat):Int)/\(true=true/\Wr ni (ae (ae (some a0) 1) ((x4:Int).toNat*1)) 1)/\bz (ae (ae (some a0) 1) ((x4:Int).toNat*1))≠some w.heap.size/\bz (ae (ae (some a0) 1) ((x4:Int).toNat*1))≠some w0.heap.size/\bz (ae (ae (some a0) 1) ((x4:Int).toNat*1))≠some gf.drew.heap.size/\(∀eT,eT=aL ni (ae (ae (some a0) 1) ((x4:Int).toNat*1)) [.pointer (aB gf.drew.heap.size)]->
 R (Value.tuple #[x4,aa]) eT)))))))))))))))))))))))):ah 11 #[a0,.agg #[aj,aq,aw],a2,a3] w R:=
 cq bU Tryz.func11 h
def yi.vc{a0:Addr}(h:
 ∃(p0 p1 p2 p3 p4 p5 p6 p7 p8 p9 tf Zh pz QO p14 Ui:Option Addr),af w (ae (some a0) 1) 0 [.pointer p0,p1,p2,p3,p4,p5,p6,p7,p8,p9,tf,Zh,pz,QO,p14,Ui]/\
 ∃I16:Nat->Int->Sl->World->Prop,
 (∃IP,I16 IP (0) ⟨none,0,0⟩ w)/\
 ∀(IP:Nat)(at9:Nat->Value)(cu:Int)(vM:Sl)(eZ:World),I16 IP cu vM eZ->
 Br (cu<16)
 (((0:Int)<=cu/\cu<((16:Nat):Int))/\∃(Vz:Option Addr),([.pointer p0,p1,p2,p3,p4,p5,p6,p7,p8,p9,tf,Zh,pz,QO,p14,Ui]:LV)[(cu:Int).toNat*1]? =some (.pointer Vz)/\
 Br (!(Vz).isNone)
 (Aw eZ #[cu] 3 λgl=>
 ba 8 1 gl vM 1 [cu]/\∀(s25:Sl)(fx:World),aY 3 1 gl vM 1 [cu] s25 fx->Kp eZ gl fx/\
 ∃QP,QP<IP/\I16 QP ((ao (cu+1))) s25 fx)
 (∃QP,QP<IP/\I16 QP ((ao (cu+1))) vM eZ))
 (R vM eZ)):ah 12 #[a0] w R:=
 cq ⟨[(3,⟨[(10,.int .i64),(3,.slice)],[],[]⟩)],[],[]⟩ Tryz.func12 h
def yh.vc{a0:Addr}(h:
 ah 50 #[a0,a1] w (λe w0=>∃(p1:Option Addr),e=p1/\
 Br (p1).isNone
 (R (6:Int) w0)
 ((0:Int)<=a1/\a1<((16:Nat):Int)/\(true=true/\Wr w0 (ae (ae (some a0) 1) ((a1:Int).toNat*1)) 1)/\(∀w2,w2=aL w0 (ae (ae (some a0) 1) ((a1:Int).toNat*1)) [.pointer none]->
 R (0:Int) w2)))):ah 13 #[a0,a1] w R:=
 cq bU Tryz.func13 h
def SY.vc(h:
 Aw w #[aA,ar,au,aU] 94 λw0=>
 ah 39 #[aA,ar,au] w0.drew (λe w1=>∃(p2:Option Addr),e=p2/\Kp w w0.drew w1/\
 af w1 (dC w 3) 0 [aU]/\ah 40 #[p2,aU] w1 (λe w3=>∃(p4:Option Addr),e=p4/\Kp w w1 w3/\
 Aw w3 #[p4,.pointer none,.pointer none,.pointer none,.pointer none,.pointer none,.pointer none,.pointer none,.pointer none,.pointer none,.pointer none,.pointer none,.pointer none,.pointer none,.pointer none,.pointer none,.pointer none] 56 λw5=>
 R (Value.pointer (aB w3)) w5))):ah 38 #[.agg #[aA,ar,au,aU]] w R:=
 cq bU Tryz.func38 h
def zQ.vc{a0:Addr}(h:
 ∃(p0:Option Addr),ld w (ae (some a0) 0)=some (.pointer p0)/\
 R p0 w):ah 41 #[a0] w R:=
 cq bU Tryz.func41 h
def Ac.vc{a0:Sl}(h:
 ∃I0:Nat->Int->World->Prop,
 (∃n1,I0 n1 (0) w)/\
 ∀(n1:Nat)(yI:Nat->Value)(x3:Int)(w4:World),I0 n1 x3 w4->
 Br (decide (x3<((a0.n:Nat):Int)))
 (eA a0.a x3 a0.n/\∃(p6:Option Addr),ld w4 (ae a0.a ((x3:Int).toNat*1))=some (.pointer p6)/\
 aP (amn none p6) (Br (amo none p6)
 (R x3 w4)
 (∃n5,n5<n1/\I0 n5 ((ao (x3+1))) w4)))
 (R (Value.int .i64 (-1)) w4)):ah 43 #[a0,.pointer (none:Option Addr)] w R:=
 cq ⟨[(2,⟨[(8,.int .i64)],[],[]⟩)],[],[]⟩ Tryz.func43 h
def aaK.vc{bD:Bool}(h:
 Aw w #[aA,ar,au,aU,aV,aZ,bG,bC,bD] 70 λw0=>
 Br (bG>=2)
 (Br (bG<=131072)
 (Br (bC>=1)
 (Br (bC<=262144)
 (ah 99 #[.agg #[aA,ar,au],(70368744177664:Int)] w0 (Rb λb2 w1=>Kp w w0 w1/\
 Br b2
 (ah 99 #[.agg #[aU,aV,aZ],(262144:Int)] w1 (Rb λb4 w3=>Kp w w1 w3/\
 R b4 w3))
 (R false w1)))
 (R false w0))
 (R false w0))
 (R false w0))
 (R false w0)):ah 44 #[.agg #[aA,ar,au,aU,aV,aZ,bG,bC,bD]] w R:=
 cq bU Tryz.func44 h
def vT.vc{a0:Addr}{eC:Bool}(h:
 Aw w #[aj,aq,aw,bt,bR,bH,eB,eO,eC] 70 λw0=>
 ∃(p1:Option Addr),ld w0.drew (ae (some a0) 0)=some (.pointer p1)/\
 ah 18 #[p1] w0.drew (λe w2=>∃(p3:Option Addr),e=p3/\Kp w w0.drew w2/\
 af w2 w 0 [aj,aq,aw]/\ah 101 #[.agg #[aj,aq,aw]] w2 (iF λx5 x6 x7 w4=>Kp w w2 w4/\
 ah 100 #[p3,.agg #[x5,x6,x7]] w4 (Rb λb9 w8=>Kp w w4 w8/\
 R b9 w8)))):ah 45 #[a0,.agg #[aj,aq,aw,bt,bR,bH,eB,eO,eC]] w R:=
 cq bU Tryz.func45 h
def Ib.vc{a0:Value}(h:
 Aw w #[aj,aq,aw,bt,bR,bH] 107 λw0=>
 ah 102 #[a0,.agg #[aj,aq,aw,bt,bR,bH],.func (.func 103) #[] #[]] w0 (Rb λb2 w1=>Kp w w0 w1/\
 R b2 w1)):ah 46 #[a0,.agg #[aj,aq,aw,bt,bR,bH]] w R:=
 cq bU Tryz.func46 h
def xS.vc{a0:Addr}(h:
 ∃(p0:Option Addr),ld w (ae (some a0) 0)=some (.pointer p0)/\
 ah 18 #[p0] w (λe w1=>∃(p2:Option Addr),e=p2/\
 ah 27 #[p2] w1 (λe w3=>∃(v4:Value),e=v4/\
 R v4 w3))):ah 47 #[a0] w R:=
 cq bU Tryz.func47 h
def H8.vc{bD:Bool}(h:
 Aw w #[aA,ar,au,aU,aV,aZ,bG,bC,bD] 70 λw0=>
 Aw w0 #[aa,aa,aa,aa,aa,aa] 107 λw1=>
 ah 104 #[.agg #[aA,ar,au],bG,bC] w1 (xF λx3 x4 x5 x6 x7 x8 w2=>K2 w w0 w1 w2 (
 Sw w2 w0 #[x3,x4,x5,x6,x7,x8] λw9=>
 R (Value.agg #[x3,x4,x5,x6,x7,x8]) w9))):ah 48 #[.agg #[aA,ar,au,aU,aV,aZ,bG,bC,bD]] w R:=
 cq bU Tryz.func48 h
def Ll.vc{a0:Value}(h:
 Aw w #[aj,aq,aw,bt,bR,bH] 107 λw0=>
 ah 105 #[.agg #[aj,aq,aw,bt,bR,bH]] w0 (xF λx2 x3 x4 x5 x6 x7 w1=>Kp w w0 w1/\
 ah 46 #[a0,.agg #[x2,x3,x4,x5,x6,x7]] w1 (Rb λb9 w8=>Kp w w1 w8/\
 R b9 w8))):ah 49 #[a0,.agg #[aj,aq,aw,bt,bR,bH]] w R:=
 cq bU Tryz.func49 h
def BY.vc{a0:Addr}(h:
 Br (a1<0)
 (R (Value.pointer none) w)
 (Br (a1>=16)
 (R (Value.pointer none) w)
 ((0:Int)<=a1/\a1<((16:Nat):Int)/\∃(p0:Option Addr),ld w (ae (ae (some a0) 1) ((a1:Int).toNat*1))=some (.pointer p0)/\
 R p0 w))):ah 50 #[a0,a1] w R:=
 cq bU Tryz.func50 h
def Of.vc(h:
 Aw w #[aA,ar,au] 28 λw0=>
 Br (decide (((if au<(if ar<aA then ar else aA) then au else (if ar<aA then ar else aA)):Int)>=(ao (0-a1))))
 (R (Value.bool (decide (((if au>(if ar>aA then ar else aA) then au else (if ar>aA then ar else aA)):Int)<=a1))) w0)
 (R false w0)):ah 99 #[.agg #[aA,ar,au],a1] w R:=
 cq bU Tryz.func99 h
def ae6.vc(h:
 Aw w #[aA,ar,au] 28 λw0=>
 Aw w0 #[aa,aa,aa] 41 λw1=>
 ah 152 #[aA] w1.drew (Ri λx3 w2=>K2 w w0 w1.drew w2 (
 af w2 (dC w 2) 0 [au]/\af w2 (dC w 1) 0 [ar]/\ah 152 #[ar] w2 (Ri λx5 w4=>K2 w w0 w2 w4 (
 af w4 (dC w 2) 0 [au]/\ah 152 #[au] w4 (Ri λx7 w6=>K2 w w0 w4 w6 (
 Sw w6 w0 #[x3,x5,x7] λw8=>
 R (Value.agg #[x3,x5,x7]) w8))))))):ah 101 #[.agg #[aA,ar,au]] w R:=
 cq bU Tryz.func101 h
def Ww.vc{a0:Value}{a2:Value}(h:
 Aw w #[aj,aq,aw,bt,bR,bH] 107 λw0=>
 ah 153 #[a0,.agg #[aj,aq,aw,bt,bR,bH],a2] w0 (λe w1=>∃(x2 x3 x4:Int)(b5:Bool),e=Value.tuple #[.agg #[x2,x3,x4],b5]/\Kp w w0 w1/\
 Aw w1 #[aa,aa,aa] 41 λw6=>
 Sw w6 w1 #[x2,x3,x4] λw7=>
 R b5 w7)):ah 102 #[a0,.agg #[aj,aq,aw,bt,bR,bH],a2] w R:=
 cq bU Tryz.func102 h
def Wj.vc(h:
 Aw w #[aA,ar,au] 28 λw0=>
 Aw w0 #[aa,aa,aa,aa,aa,aa] 107 λw1=>
 Aw w1 #[aa,aa,aa] 28 λw2=>
 Sw w2 w1 #[(ao (Int.tdiv (if 0>a1 then 0 else a1) 2)),aa,(ao (Int.tdiv (if 0>a1 then 0 else a1) 2))] λw3=>
 (ah 154 #[.agg #[aA,ar,au],.agg #[(ao (Int.tdiv (if 0>a1 then 0 else a1) 2)),aa,(ao (Int.tdiv (if 0>a1 then 0 else a1) 2))]] w3.drew (iF λx5 x6 x7 w4=>K3 w w0 w1 w3.drew w4 (
 af w4 w 0 [aA,ar,au]/\ah 145 #[.agg #[aA,ar,au],.agg #[(ao (Int.tdiv (if 0>a1 then 0 else a1) 2)),.int .i64 (if 0>a2 then 0 else a2),(ao (Int.tdiv (if 0>a1 then 0 else a1) 2))]] w4 (iF λx9 bj bu w8=>K3 w w0 w1 w4 w8 (
 Sw w8 w0 #[x5,x6,x7,x9,bj,bu] λdj=>
 R (Value.agg #[x5,x6,x7,x9,bj,bu]) dj)))))/\(ah 154 #[.agg #[aA,ar,au],.agg #[(ao (Int.tdiv (if 0>a1 then 0 else a1) 2)),aa,(ao (Int.tdiv (if 0>a1 then 0 else a1) 2))]] w3.drew (iF λbI cw cH bK=>K3 w w0 w1 w3.drew bK (
 af bK w 0 [aA,ar,au]/\ah 145 #[.agg #[aA,ar,au],.agg #[(ao (Int.tdiv (if 0>a1 then 0 else a1) 2)),.int .i64 (if 0>a2 then 0 else a2),(ao (Int.tdiv (if 0>a1 then 0 else a1) 2))]] bK (iF λcA cu di cL=>K3 w w0 w1 bK cL (
 Sw cL w0 #[bI,cw,cH,cA,cu,di] λeZ=>
 R (Value.agg #[bI,cw,cH,cA,cu,di]) eZ)))))):ah 104 #[.agg #[aA,ar,au],a1,a2] w R:=
 cq bU Tryz.func104 h
def Np.vc(h:
 Aw w #[aA,ar,au,aU,aV,aZ] 107 λw0=>
 Aw w0 #[aa,aa,aa,aa,aa,aa] 107 λw1=>
 ah 156 #[ar,(1:Int)] w1.drew (Ri λx3 w2=>K2 w w0 w1.drew w2 (
 af w2 (dC w 3) 0 [aU,aV,aZ]/\af w2 w 0 [aA,ar,au]/\ah 155 #[.agg #[aA,ar,au],(1:Int),x3] w2 (iF λx5 x6 x7 w4=>K2 w w0 w2 w4 (
 af w4 (dC w 3) 0 [aU,aV,aZ]/\ah 155 #[.agg #[aU,aV,aZ],(1:Int),ar] w4 (iF λx9 bj bu w8=>K2 w w0 w4 w8 (
 Sw w8 w0 #[x5,x6,x7,x9,bj,bu] λdj=>
 R (Value.agg #[x5,x6,x7,x9,bj,bu]) dj))))))):ah 105 #[.agg #[aA,ar,au,aU,aV,aZ]] w R:=
 cq bU Tryz.func105 h
def afX.vc(h:
 Aw w #[aA,ar,au] 28 λw0=>
 Aw w0 #[aj,aq,aw] 28 λw1=>
 Aw w1 #[aa,aa,aa] 28 λw2=>
 ah 203 #[.agg #[aA,ar,au],.func (.func 204) #[] #[.pointer (aB w0)]] w2 (iF λx4 x5 x6 w3=>K2 w w1 w2 w3 (
 Sw w3 w1 #[x4,x5,x6] λw7=>
 R (Value.agg #[x4,x5,x6]) w7))):ah 145 #[.agg #[aA,ar,au],.agg #[aj,aq,aw]] w R:=
 cq bU Tryz.func145 h
def PW.vc(h:
 ah 214 #[a0] w (λe w0=>∃(x1:Int),e=x1/\
 R (Value.int .i64 ((x1:Int).fdiv (2 ^(min (16:Int).toNat 64)))) w0)):ah 152 #[a0] w R:=
 cq bU Tryz.func152 h
def R4.vc{a0:Value}{a2:Value}(h:
 aP (kP a0) (
 Aw w #[a0] 65 λw0=>
 Aw w0 #[aj,aq,aw,bt,bR,bH] 107 λw1=>
 aP (kP a2) (
 Aw w1 #[a2] 180 λw2=>
 Aw w2 #[aa,aa,aa] 41 λw3=>
 Aw w3 #[false] 4 λw4=>
 ah 215 #[.agg #[aj,aq,aw,bt,bR,bH]] w4 (Rv λv6 w5=>K5 w w0 w1 w2 w3 w4 w5 (
 ∃(xs7:List (LV))(Rd8 F9:Nat->Prop)(Eg:Nat->(Nat->Prop)->Int->Int->Int->Bool->World->Prop)(X11:Option Nat->(Nat->Prop)->Int->Int->Int->Bool->World->Prop),
 (∀x ∈ xs7,∃(bV cn bI:Int),x=[.agg #[.int .i64 bV,.int .i64 cn,.int .i64 bI]])/\
 (∀(n15:Nat)(F16:Nat->Prop)(dh cA cu:Int)(b20:Bool)(eZ dP:World),Eg n15 F16 dh cA cu b20 eZ->Below w5 eZ dP->(∀i,F16 i->dP.heap[i]? =eZ.heap[i]?)->Eg n15 F16 dh cA cu b20 dP)/\
 (∀(n23:Option Nat)(F24:Nat->Prop)(dY fg fO:Int)(Q7:Bool)(dW fE:World),X11 n23 F24 dY fg fO Q7 dW->Below w5 dW fE->(∀i,F24 i->fE.heap[i]? =dW.heap[i]?)->X11 n23 F24 dY fg fO Q7 fE)/\
 (∀(Vv:Nat)(F32:Nat->Prop)(eL ie kI:Int)(b36:Bool)(gw:World),Eg Vv F32 eL ie kI b36 gw->∀i,F32 i->i<gw.heap.size/\i≠w5.heap.size/\i≠w5.heap.size+1)/\
 (∀(n38:Option Nat)(F39:Nat->Prop)(mP lC nj:Int)(Qp:Bool)(lg:World),X11 n38 F39 mP lC nj Qp lg->∀i,F39 i->i<lg.heap.size/\i≠w5.heap.size/\i≠w5.heap.size+1)/\
 (∀i,Rd8 i->i<w5.heap.size/\¬F9 i/\i≠w.heap.size/\i≠w0.heap.size/\i≠w1.heap.size/\i≠w2.heap.size/\i≠w3.heap.size/\True)/\
 (∀Cy:World,Ni w5 w5 Cy->Iter Tryz.prog (v6) Cy Rd8 xs7/\aO [a0]/\aO [aj,aq,aw,bt,bR,bH]/\aO [a2]/\Eg 0 F9 (0) (0) (0) false Cy)/\
 (∀(n46:Nat)(F47:Nat->Prop)(aDM:Nat->Value)(HV tc nk:Int)(b52:Bool)(jA qp lY:Int)(qH:World),xs7[n46]? =some [.agg #[.int .i64 jA,.int .i64 qp,.int .i64 lY]]->Eg n46 F47 HV tc nk b52 qH->
 Aw qH #[aa,aa,aa] 41 λCx=>
 Sw Cx qH #[jA,qp,lY] λyO=>
 Below qH qH yO/\∀mR:World,Rec (w5.heap.size+1) yO mR->Eg n46 F47 HV tc nk b52 mR->
 cC Tryz.prog a0 [.agg #[jA,qp,lY]] mR.drew (Ri λvI mQ=>K6 w w0 w1 w2 w3 qH mR.drew mQ (
 af mQ (aB w1) 0 [a2]/\cC Tryz.prog a2 [vI] mQ (Rb λb63 iH=>K6 w w0 w1 w2 w3 qH mQ iH (
 Br b63
 (Sw iH w2 #[jA,qp,lY] λue=>
 Sw ue w3 #[true] λEJ=>
 true=true/\∃F66:Nat->Prop,(aO [a0]/\aO [aj,aq,aw,bt,bR,bH]/\aO [a2]/\X11 none F66 jA qp lY true EJ)/\Step (λi=>(F47 i\/i ∈([w.heap.size,w0.heap.size,w1.heap.size,w2.heap.size,w3.heap.size]:List Nat))\/qH.heap.size<=i) (λi=>F66 i\/i ∈([w.heap.size,w0.heap.size,w1.heap.size,w2.heap.size,w3.heap.size]:List Nat)) mR EJ)
 (∃F67:Nat->Prop,(aO [a0]/\aO [aj,aq,aw,bt,bR,bH]/\aO [a2]/\Eg (n46+1) F67 HV tc nk b52 iH)/\Step (λi=>(F47 i\/i ∈([w.heap.size,w0.heap.size,w1.heap.size,w2.heap.size,w3.heap.size]:List Nat))\/qH.heap.size<=i) (λi=>F67 i\/i ∈([w.heap.size,w0.heap.size,w1.heap.size,w2.heap.size,w3.heap.size]:List Nat)) mR iH))))))/\
 (∀(F68:Nat->Prop)(aDO:Nat->Value)(py oq nL:Int)(b73:Bool)(mU:World),Eg xs7.length F68 py oq nL b73 mU->mU.heap[w5.heap.size]? =some (.deferred (some []))->
 Sw mU w2 #[aa,aa,aa] λsY=>
 Sw sY w3 #[false] λj6=>
 j6.heap[w5.heap.size]? =some (.deferred (some []))/\∀vf:World,Rec w5 j6 vf->
 R (Value.tuple #[.agg #[aa,aa,aa],false]) vf)/\
 (∀(F78:Nat->Prop)(auc:Nat->Value)(tI rP qt:Int)(b83:Bool)(Mc:World),X11 none F78 tI rP qt b83 Mc->Mc.heap[w5.heap.size]? =some (.deferred (some []))->
 Mc.heap[w5.heap.size]? =some (.deferred (some []))/\∀w85:World,Rec w5 Mc w85->
 R (Value.tuple #[.agg #[tI,rP,qt],b83]) w85)))))):ah 153 #[a0,.agg #[aj,aq,aw,bt,bR,bH],a2] w R:=
 cq ⟨[],[],[(3,⟨[],[(3,[.int .i64,.int .i64,.int .i64]),(4,[.bool])],[]⟩,[.agg [.int .i64,.int .i64,.int .i64]])]⟩ Tryz.func153 h
def afY.vc(h:
 Aw w #[aA,ar,au] 28 λw0=>
 Aw w0 #[aj,aq,aw] 28 λw1=>
 Aw w1 #[aa,aa,aa] 28 λw2=>
 ah 203 #[.agg #[aA,ar,au],.func (.func 216) #[] #[.pointer (aB w0)]] w2 (iF λx4 x5 x6 w3=>K2 w w1 w2 w3 (
 Sw w3 w1 #[x4,x5,x6] λw7=>
 R (Value.agg #[x4,x5,x6]) w7))):ah 154 #[.agg #[aA,ar,au],.agg #[aj,aq,aw]] w R:=
 cq bU Tryz.func154 h
def acb.vc(h:
 Aw w #[aA,ar,au] 28 λw0=>
 Aw w0 #[a1] 3 λw1=>
 Aw w1 #[a2] 3 λw2=>
 Aw w2 #[aa,aa,aa] 28 λw3=>
 ah 203 #[.agg #[aA,ar,au],.func (.func 217) #[] #[.pointer (aB w0),.pointer (aB w1)]] w3 (iF λx5 x6 x7 w4=>K2 w w2 w3 w4 (
 Sw w4 w2 #[x5,x6,x7] λw8=>
 R (Value.agg #[x5,x6,x7]) w8))):ah 155 #[.agg #[aA,ar,au],a1,a2] w R:=
 cq bU Tryz.func155 h
def Yd.vc(h:
 ah 214 #[a0] w (λe w0=>∃(x1:Int),e=x1/\
 ah 214 #[a1] w0 (λe w2=>∃(x3:Int),e=x3/\
 ah 214 #[(ao (x1-x3))] w2 (λe w4=>∃(x5:Int),e=x5/\
 R x5 w4)))):ah 156 #[a0,a1] w R:=
 cq bU Tryz.func156 h
def ab8.vc(h:
 R ((ao ((if 2147483648<(if (-2147483648)>a0 then (-2147483648) else a0) then 2147483648 else (if (-2147483648)>a0 then (-2147483648) else a0))*2 ^(min (16:Int).toNat 64)))) w):ah 174 #[a0] w R:=
 cq bU Tryz.func174 h
def tX.vc{a0:Sl}{a1:Value}(h:
 ∃I0:Nat->Int->World->Prop,
 (∃n1,I0 n1 (0) w)/\
 ∀(n1:Nat)(yI:Nat->Value)(x3:Int)(w4:World),I0 n1 x3 w4->
 Br (decide (x3<((a0.n:Nat):Int)))
 (eA a0.a x3 a0.n/\∃(p6:Option Addr),ld w4 (ae a0.a ((x3:Int).toNat*1))=some (.pointer p6)/\
 cC Tryz.prog a1 [.pointer p6] w4 (λe w7=>∃(b8:Bool),e=b8/\
 Br b8
 (R x3 w7)
 (∃n5,n5<n1/\I0 n5 ((ao (x3+1))) w7)))
 (R (Value.int .i64 (-1)) w4)):ah 175 #[a0,a1] w R:=
 cq ⟨[(2,⟨[(8,.int .i64)],[],[]⟩)],[],[]⟩ Tryz.func175 h
def aca.vc(h:
 Aw w #[aA,ar,au] 28 λw0=>
 Br (a1<0)
 (R (0:Int) w0)
 (Br (a1>=3)
 (R (0:Int) w0)
 (ah 245 #[w] w0 (λe w1=>∃(p2 p3 p4:Option Addr),e=Value.agg #[p2,p3,p4]/\
 ((0:Int)<=a1/\a1<((3:Nat):Int))/\∃(p5:Option Addr),([.pointer p2,p3,p4]:LV)[(a1:Int).toNat*1]? =some (.pointer p5)/\
 aP (dq p5) (∃(x6:Int),ld w1 p5=some (.int .i64 x6)/\
 R x6 w1))))):ah 178 #[.agg #[aA,ar,au],a1] w R:=
 cq bU Tryz.func178 h
def ab9.vc{a1:Value}(h:
 Aw w #[aA,ar,au] 28 λw0=>
 Aw w0 #[aa,aa,aa] 28 λw1=>
 ah 245 #[w] w1 (λe w2=>∃(p3 p4 p5:Option Addr),e=Value.agg #[p3,p4,p5]/\Kp w0 w1 w2/\
 ∃I6:Nat->Int->World->Prop,
 (∃n7,aO [aa,aa,aa]/\I6 n7 (0) w2)/\
 ∀(n7:Nat)(us8:Nat->Value)(x9:Int)(bP:World),I6 n7 x9 bP->
 Br (x9<3)
 (((0:Int)<=x9/\x9<((3:Nat):Int))/\∃(pz:Option Addr),([.pointer p3,p4,p5]:LV)[(x9:Int).toNat*1]? =some (.pointer pz)/\
 aP (dq pz) (∃(cn:Int),ld bP pz=some (.int .i64 cn)/\
 cC Tryz.prog a1 [x9,cn] bP (Ri λcw bO=>Kp w0 bP bO/\
 aP (dq pz) (((pz).isSome=true/\Wr bO pz 1)/\Nq pz w0/\(∀cF,cF=aL bO pz [cw]->
 ∃tG,tG<n7/\aO [aa,aa,aa]/\I6 tG ((ao (x9+1))) cF)))))
 (∃(dh cA cu:Int),af bP w 0 [dh,cA,cu]/\
 Sw bP w0 #[dh,cA,cu] λeW=>
 R (Value.agg #[dh,cA,cu]) eW))):ah 203 #[.agg #[aA,ar,au],a1] w R:=
 cq ⟨[(2,⟨[(8,.int .i64)],[],[]⟩)],[],[]⟩ Tryz.func203 h
def Yh.vc{c0:Addr}(h:
 ∃(x0 x1 x2:Int),af w (some c0) 0 [x0,x1,x2]/\
 ah 178 #[.agg #[x0,x1,x2],a0] w (λe w3=>∃(x4:Int),e=x4/\
 ah 205 #[a1,x4] w3 (λe w5=>∃(x6:Int),e=x6/\
 R x6 w5))):ah 204 #[a0,a1,c0] w R:=
 cq bU Tryz.func204 h
def Yc.vc(h:
 ah 214 #[a0] w (λe w0=>∃(x1:Int),e=x1/\
 ah 214 #[a1] w0 (λe w2=>∃(x3:Int),e=x3/\
 ah 214 #[(ao (x1+x3))] w2 (λe w4=>∃(x5:Int),e=x5/\
 R x5 w4)))):ah 205 #[a0,a1] w R:=
 cq bU Tryz.func205 h
def Ya.vc(h:
 R (Value.int .i64 (if 140737488355328<(if (-140737488355328)>a0 then (-140737488355328) else a0) then 140737488355328 else (if (-140737488355328)>a0 then (-140737488355328) else a0))) w):ah 214 #[a0] w R:=
 cq bU Tryz.func214 h
def R3.vc(h:
 Aw w #[aA,ar,au,aU,aV,aZ] 107 λw0=>
 R (Value.func (.func 265) #[] #[w]) w0):ah 215 #[.agg #[aA,ar,au,aU,aV,aZ]] w R:=
 cq bU Tryz.func215 h
def Yj.vc{c0:Addr}(h:
 ∃(x0 x1 x2:Int),af w (some c0) 0 [x0,x1,x2]/\
 ah 178 #[.agg #[x0,x1,x2],a0] w (λe w3=>∃(x4:Int),e=x4/\
 ah 156 #[a1,x4] w3 (λe w5=>∃(x6:Int),e=x6/\
 R x6 w5))):ah 216 #[a0,a1,c0] w R:=
 cq bU Tryz.func216 h
def TB.vc{c0:Addr}{c1:Addr}(h:
 ∃(x0:Int),ld w (some c0)=some (.int .i64 x0)/\
 Br (a0==x0)
 (∃(x1:Int),ld w (some c1)=some (.int .i64 x1)/\
 ah 214 #[x1] w (λe w2=>∃(x3:Int),e=x3/\
 R x3 w2))
 (R a1 w)):ah 217 #[a0,a1,c0,c1] w R:=
 cq bU Tryz.func217 h
def Yf.vc{a0:Addr}(h:
 Aw w #[.pointer none,.pointer none,.pointer none] 306 λw0=>
 Wt w0.drew ⟨w,0,none⟩ 3/\(∀w1,w1=aL w0.drew w [.pointer (ae (some a0) 0),.pointer (ae (some a0) 1),.pointer (ae (some a0) 2)]->
 ∃(p2 p3 p4:Option Addr),af w1 w 0 [.pointer p2,p3,p4]/\
 R (Value.agg #[p2,p3,p4]) w1)):ah 245 #[a0] w R:=
 cq bU Tryz.func245 h
def Tx.vc(h:
 ah 214 #[a0] w (λe w0=>∃(x1:Int),e=x1/\
 R (Value.int .i64 (oG .i64 x1 65535)) w0)):ah 258 #[a0] w R:=
 cq bU Tryz.func258 h
def L3.vc{a0:Value}{c0:Addr}(h:
 ∃(x0 x1 x2 x3 x4 x5:Int),af w (some c0) 0 [x0,x1,x2,x3,x4,x5]/\
 ah 266 #[.agg #[x0,x1,x2,x3,x4,x5]] w (λe w6=>∃(x7 x8 x9 bj bu bV:Int)(Hn:Bool),e=Value.tuple #[.agg #[x7,x8,x9],.agg #[bj,bu,bV],Hn]/\
 Aw w6 #[aa,aa,aa] 41 λbO=>
 Aw bO #[aa,aa,aa] 41 λdB=>
 Sw dB w6 #[x7,x8,x9] λcF=>
 Sw cF bO #[bj,bu,bV] λcL=>
 ∃I18:Nat->Int->World->Prop,
 (∃n19,aO [x7,x8,x9]/\aO [bj,bu,bV]/\I18 n19 x8 cL)/\
 ∀(n19:Nat)(atS:Nat->Value)(db:Int)(dP:World),I18 n19 db dP->
 Br Hn
 (Br (db<=bu)
 (∃I24:Nat->Int->World->Prop,
 (∃n25,aO [x7,x8,x9]/\aO [bj,bu,bV]/\I24 n25 x9 dP)/\
 ∀(n25:Nat)(aDQ:Nat->Value)(fO:Int)(iw:World),I24 n25 fO iw->
 Br (fO<=bV)
 (∃I30:Nat->Int->World->Prop,
 (∃Vv,aO [x7,x8,x9]/\aO [bj,bu,bV]/\I30 Vv x7 iw)/\
 ∀(Vv:Nat)(as2:Nat->Value)(eL:Int)(jf:World),I30 Vv eL jf->
 Br (eL<=bj)
 (cC Tryz.prog a0 [.agg #[eL,db,fO]] jf (Rb λb37 kG=>K2 w6 bO jf kG (
 Br (!b37)
 (R po kG)
 (∃ME,ME<Vv/\aO [x7,x8,x9]/\aO [bj,bu,bV]/\I30 ME ((ao (eL+1))) kG))))
 (∃ZK,ZK<n25/\aO [x7,x8,x9]/\aO [bj,bu,bV]/\I24 ZK ((ao (fO+1))) jf))
 (∃n23,n23<n19/\aO [x7,x8,x9]/\aO [bj,bu,bV]/\I18 n23 ((ao (db+1))) iw))
 (R po dP))
 (R po dP))):ah 265 #[a0,c0] w R:=
 cq ⟨[(8,⟨[(8,.int .i64)],[],[]⟩),(5,⟨[(7,.int .i64)],[],[]⟩),(2,⟨[(6,.int .i64)],[],[]⟩)],[],[]⟩ Tryz.func265 h
def Wl.vc(h:
 Aw w #[aA,ar,au,aU,aV,aZ] 107 λw0=>
 Aw w0 #[aa,aa,aa] 41 λw1=>
 Aw w1 #[aa,aa,aa] 41 λw2=>
 ah 101 #[.agg #[aA,ar,au]] w2 (iF λx4 x5 x6 w3=>K3 w w0 w1 w2 w3 (
 Aw w3 #[aa,aa,aa] 41 λw7=>
 Sw w7 w3 #[x4,x5,x6] λw8=>
 ah 145 #[.agg #[aU,aV,aZ],.agg #[(-1:Int),(-1:Int),(-1:Int)]] w8 (iF λbj bu bV w9=>K4 w w0 w1 w3 w8 w9 (
 ah 101 #[.agg #[bj,bu,bV]] w9 (iF λbI cw cH bK=>K4 w w0 w1 w3 w9 bK (
 Aw bK #[aa,aa,aa] 41 λcL=>
 Sw cL bK #[bI,cw,cH] λdH=>
 ∃I19:Nat->Int->World->Prop,
 (∃TR,aO [aA,ar,au,aU,aV,aZ]/\aO [aa,aa,aa]/\aO [aa,aa,aa]/\aO [x4,x5,x6]/\aO [bI,cw,cH]/\I19 TR (0) dH)/\
 ∀(TR:Nat)(auZ:Nat->Value)(ef:Int)(eP:World),I19 TR ef eP->
 Br (ef<3)
 (ah 178 #[.agg #[aA,ar,au],ef] eP.drew (Ri λfg cW=>K5 w w0 w1 w3 bK eP.drew cW (
 af cW (dC w 3) 0 [aU,aV,aZ]/\ah 178 #[.agg #[aU,aV,aZ],ef] cW (Ri λgm dX=>K5 w w0 w1 w3 bK cW dX (
 Br (fg==gm)
 (ah 258 #[fg] dX (Ri λjN dW=>K5 w w0 w1 w3 bK dX dW (
 Br (jN==0)
 (Sw dW w0 #[aa,aa,aa] λgf=>
 Sw gf w1 #[aa,aa,aa] λni=>
 R (Value.tuple #[.agg #[aa,aa,aa],.agg #[aa,aa,aa],false]) ni)
 (∃n24,n24<TR/\aO [aA,ar,au,aU,aV,aZ]/\aO [aa,aa,aa]/\aO [aa,aa,aa]/\aO [x4,x5,x6]/\aO [bI,cw,cH]/\I19 n24 ((ao (ef+1))) dW))))
 (∃n24,n24<TR/\aO [aA,ar,au,aU,aV,aZ]/\aO [aa,aa,aa]/\aO [aa,aa,aa]/\aO [x4,x5,x6]/\aO [bI,cw,cH]/\I19 n24 ((ao (ef+1))) dX))))))
 (ah 293 #[aA,aU,x4,bI] eP.drew (Ri λie eT=>K5 w w0 w1 w3 bK eP.drew eT (
 af eT (dC bK 2) 0 [cH]/\af eT (dC w3 2) 0 [x6]/\af eT (dC w 5) 0 [aZ]/\af eT (dC w 2) 0 [au]/\af eT (dC bK 1) 0 [cw]/\af eT (dC w3 1) 0 [x5]/\af eT (dC w 4) 0 [aV]/\af eT (dC w 1) 0 [ar]/\ah 293 #[ar,aV,x5,cw] eT (Ri λnh kh=>K5 w w0 w1 w3 bK eT kh (
 af kh (dC bK 2) 0 [cH]/\af kh (dC w3 2) 0 [x6]/\af kh (dC w 5) 0 [aZ]/\af kh (dC w 2) 0 [au]/\ah 293 #[au,aZ,x6,cH] kh (Ri λgk gw=>K5 w w0 w1 w3 bK kh gw (
 Sw gw bK #[ie,cw,cH] λkx=>
 Sw kx bK #[ie,nh,cH] λjP=>
 Sw jP bK #[ie,nh,gk] λjw=>
 Sw jw.drew w0 #[x4,x5,x6] λlj=>
 af lj (aB bK) 0 [ie,nh,gk]/\Sw lj w1 #[ie,nh,gk] λjg=>
 R (Value.tuple #[.agg #[x4,x5,x6],.agg #[ie,nh,gk],true]) jg)))))))))))))):ah 266 #[.agg #[aA,ar,au,aU,aV,aZ]] w R:=
 cq ⟨[(4,⟨[(19,.int .i64)],[],[]⟩)],[],[]⟩ Tryz.func266 h
def No.vc(h:
 Br (a0==a1)
 (R a2 w)
 (R a3 w)):ah 293 #[a0,a1,a2,a3] w R:=
 cq bU Tryz.func293 h
def TJ.vc{a0:Addr}(h:
 ah 19 #[a0] w (λe w0=>∃(p1:Option Addr),e=p1/\
 Br (p1).isNone
 (R false w0)
 (∃I2:Nat->Int->World->Prop,
 (∃n3,I2 n3 ((-1)) w0)/\
 ∀(n3:Nat)(us4:Nat->Value)(x5:Int)(w6:World),I2 n3 x5 w6->
 Br (x5<2)
 (∃I8:Nat->Int->World->Prop,
 (∃n9,I8 n9 ((-1)) w6)/\
 ∀(n9:Nat)(Zc:Nat->Value)(bu:Int)(dj:World),I8 n9 bu dj->
 Br (bu<2)
 (ah 20 #[p1,.agg #[x5,bu]] dj (λe bO=>∃(cw:Int),e=cw/\
 Br (cw !=0)
 (R false bO)
 (∃n13,n13<n9/\I8 n13 ((ao (bu+1))) bO)))
 (∃n7,n7<n3/\I2 n7 ((ao (x5+1))) dj))
 (R true w6)))):ah 42 #[a0] w R:=
 cq ⟨[(8,⟨[(5,.int .i64)],[],[]⟩),(5,⟨[(4,.int .i64)],[],[]⟩)],[],[]⟩ Tryz.func42 h
def Qh.vc(h:
 ah 38 #[.agg #[a0,a2,(1000000:Int),a1]] w (λe w0=>∃(p1:Option Addr),e=p1/\
 ah 39 #[a0,a2,(1000000:Int)] w0 (λe w2=>∃(p3:Option Addr),e=p3/\
 Br (p1).isNone
 (R (Value.tuple #[.pointer none,.pointer none]) w2)
 (Br (p3).isNone
 (R (Value.tuple #[.pointer none,.pointer none]) w2)
 (ah 40 #[p3,a1] w2 (λe w4=>∃(p5:Option Addr),e=p5/\
 Br (p5).isNone
 (R (Value.tuple #[.pointer none,.pointer none]) w4)
 (aP (dq p1) (aP (dq p1) (∃(p6:Option Addr),ld w4 (ae p1 0)=some (.pointer p6)/\
 ah 18 #[p6] w4 (λe w7=>∃(p8:Option Addr),e=p8/\
 Br (p8).isNone
 (R (Value.tuple #[.pointer none,.pointer none]) w7)
 (ah 41 #[p1] w7 (λe w9=>∃(tf:Option Addr),e=tf/\
 Br (tf).isNone
 (R (Value.tuple #[.pointer none,.pointer none]) w9)
 (ah 27 #[p3] w9 (λe bg=>∃(v12:Value),e=v12/\
 aP (fnC v12) (Br (KI v12)
 (R (Value.tuple #[.pointer none,.pointer none]) bg)
 (aP (dq p1) (aP (dq p1) (∃(QO:Option Addr),ld bg (ae p1 0)=some (.pointer QO)/\
 ah 18 #[QO] bg (λe bO=>∃(Ui:Option Addr),e=Ui/\
 ah 27 #[Ui] bO (λe cF=>∃(v17:Value),e=v17/\
 aP (fnC v17) (Br (KI v17)
 (R (Value.tuple #[.pointer none,.pointer none]) cF)
 (ah 42 #[p3] cF (λe dH=>∃(b19:Bool),e=b19/\
 Br (!b19)
 (R (Value.tuple #[.pointer none,.pointer none]) dH)
 (aP (dq p1) (aP (dq p1) (∃(p20:Option Addr),ld dH (ae p1 0)=some (.pointer p20)/\
 ah 18 #[p20] dH (λe eZ=>∃(p22:Option Addr),e=p22/\
 ah 42 #[p22] eZ (λe eP=>∃(b24:Bool),e=b24/\
 Br (!b24)
 (R (Value.tuple #[.pointer none,.pointer none]) eP)
 ((((0:Int)<=16/\(16:Int)<=16/\(16:Int)<=140737488355328/\(16:Int)*104<=140737488355328)/\(∀cW,cW=eP.drew.alloc (.cells (bo [.bool false,aa,aa,aa,aa,aa,aa,aa,aa,false,aa,aa,false] (16:Int).toNat).toArray 117)->
 ((Aw cW #[p3,p5,.slice (aB eP.drew.heap.size) (16:Int).toNat (16:Int).toNat] 101 λfx=>
 R (Value.tuple #[p1,.pointer (aB cW)]) fx)/\(Aw cW #[p3,p5,.slice (aB eP.drew.heap.size) (16:Int).toNat (16:Int).toNat] 101 λdX=>
 R (Value.tuple #[p1,.pointer (aB cW)]) dX))/\(Aw cW #[p3,p5,.slice (aB eP.drew.heap.size) (16:Int).toNat (16:Int).toNat] 101 λiw=>
 R (Value.tuple #[p1,.pointer (aB cW)]) iw)))/\(((0:Int)<=16/\(16:Int)<=16/\(16:Int)<=140737488355328/\(16:Int)*104<=140737488355328)/\(∀dW,dW=eP.drew.alloc (.cells (bo [.bool false,aa,aa,aa,aa,aa,aa,aa,aa,false,aa,aa,false] (16:Int).toNat).toArray 117)->
 Aw dW #[p3,p5,.slice (aB eP.drew.heap.size) (16:Int).toNat (16:Int).toNat] 101 λfE=>
 R (Value.tuple #[p1,.pointer (aB dW)]) fE))))))))))))))))))))))))))))))):ah 9 #[a0,a1,a2] w R:=
 cq bU Tryz.func9 h
def Qi.vc(h:
 ah 38 #[.agg #[aa,(1:Int),aa,aa]] w (λe w0=>∃(p1:Option Addr),e=p1/\
 Br (p1).isNone
 (R false w0)
 (ah 11 #[p1,.agg #[aa,aa,aa],(100:Int),(100:Int)] w0 (λe w2=>∃(x3 x4:Int),e=Value.tuple #[x3,x4]/\
 Br (x3==(-1))
 (R (Value.bool (x4==11)) w2)
 (R false w2))))):ah 14 #[] w R:=
 cq bU Tryz.func14 h
open Go.gr
abbrev gS:TypeId:=28
abbrev su(b:Bx):Value:=.agg #[b.1.1,b.1.2.1,b.1.2.2,b.2.1,b.2.2.1,b.2.2.2]
def asd(n:Int):(if 140737488355328<(if (-140737488355328)>n then (-140737488355328) else n) then 140737488355328 else (if (-140737488355328)>n then (-140737488355328) else n))=cT n:=by
 unfold cT
 repeat' split
 all_goals omega
def gA(n:Int)(w:World):ah 214 #[n] w λe w'=>e=Value.int .i64 (cT n)/\w'=w:=by apply Ya.vc;exact ⟨by rw [asd],rfl⟩
def Yb(a b:Int)(w:World):ah 205 #[a,b] w λe w'=>e=Value.int .i64 (fK a b)/\w'=w:=by apply Yc.vc;refine (gA a w).mono ?_;rintro e w1 ⟨rfl,rfl⟩;refine ⟨_,rfl,(gA b w1).mono ?_⟩;rintro e w2 ⟨rfl,rfl⟩;have h1:=ka a;have h2:=ka b;refine ⟨_,rfl,?_⟩;rw [wI];refine (gA _ w2).mono ?_;rintro e w3 ⟨rfl,rfl⟩;exact ⟨_,rfl,rfl,rfl⟩
def JC(a b:Int)(w:World):ah 156 #[a,b] w λe w'=>e=Value.int .i64 (jV a b)/\w'=w:=by apply Yd.vc;refine (gA a w).mono ?_;rintro e w1 ⟨rfl,rfl⟩;refine ⟨_,rfl,(gA b w1).mono ?_⟩;rintro e w2 ⟨rfl,rfl⟩;have h1:=ka a;have h2:=ka b;refine ⟨_,rfl,?_⟩;rw [wI];refine (gA _ w2).mono ?_;rintro e w3 ⟨rfl,rfl⟩;exact ⟨_,rfl,rfl,rfl⟩
def p16:(2 ^(min (16:Int).toNat 64):Int)=65536:=by decide
def oS(n:Int)(w:World):ah 152 #[n] w λe w'=>e=Value.int .i64 (cc n)/\w'=w:=by apply PW.vc;refine (gA n w).mono ?_;rintro e w1 ⟨rfl,rfl⟩;rw [p16];exact ⟨_,rfl,by rw [tq _ aF];rfl,rfl⟩
def Ye{x:Int}(h: -140737488355328<=x/\x<=140737488355328):oG .i64 x 65535=x % 65536:=by
 unfold oG;have e:(BitVec.ofInt IntKind.i64.bits x &&& BitVec.ofInt IntKind.i64.bits 65535).toNat=(x % 65536).toNat:=by
  show (BitVec.ofInt 64 x &&& BitVec.ofInt 64 65535).toNat=_;rw [zK];have h1:(BitVec.ofInt 64 65535).toNat=2 ^ 16-1:=by decide
  rw [h1,Nat.and_two_pow_sub_one_eq_mod,y9];omega
 rw [e,Int.toNat_of_nonneg ab];exact wI
def Bu(n:Int)(w:World):ah 258 #[n] w λe w'=>e=Value.int .i64 (uD n)/\w'=w:=by apply Tx.vc;refine (gA n w).mono ?_;rintro e w1 ⟨rfl,rfl⟩;exact ⟨_,rfl,by rw [Ye (ka n)];rfl,rfl⟩
def sH(n:Int)(w:World):ah 174 #[n] w λe w'=>e=Value.int .i64 (pD n)/\w'=w:=by
 apply ab8.vc;rw [p16];have e:(if 2147483648<(if (-2147483648)>n then (-2147483648) else n) then 2147483648 else (if (-2147483648)>n then (-2147483648) else n))=min (max n (-2147483648)) 2147483648:=by
  repeat' split
  all_goals omega
 rw [e,wI];exact ⟨rfl,rfl⟩
def ajM(p q r:Option Addr):One [.pointer p,q,r]:=by intro v hv;simp at hv;rcases hv with rfl|rfl|rfl<;>rfl
def GZ(a:Addr)(w:World):ah 245 #[a] w λe w'=>e=Value.agg #[.pointer (ae (some a) 0),.pointer (ae (some a) 1),.pointer (ae (some a) 2)]/\Ext w w':=by
 apply Yf.vc;intro w0 e0;have x0:Ext w w0.drew:=(aQ e0).drew;have hr:Row w0.drew w [.pointer none,.pointer none,.pointer none] 306:=by rw [e0];exact (Row.new w [_,_,_] _).ext (Ext.dr _)
 refine ⟨⟨rfl,hr.wr cp⟩,λw1 e1=> ?_⟩;rw [hr.aL (vs:=[.pointer (ae (some a) 0),.pointer (ae (some a) 1),.pointer (ae (some a) 2)]) cp (ajM _ _ _),ep cp] at e1;have hr1:Row w1 w [.pointer (ae (some a) 0),.pointer (ae (some a) 1),.pointer (ae (some a) 2)] 306:=hr.st e1;exact ⟨_,_,_,Lo.wv hr1,rfl,x0.ag e1 (aC _)⟩
def Tz(f:Int->Int->Int)(v:Ce)(k:Nat):LV:=[.int .i64 (if 0<k then f 0 v.1 else v.1),.int .i64 (if 1<k then f 1 v.2.1 else v.2.1),.int .i64 (if 2<k then f 2 v.2.2 else v.2.2)]
def vF(f:Int->Int->Int)(v:Ce)(fv:Value)(w:World)(hf:∀w',Ext w w'->∀i x:Int,0<=i->i<3->cC Tryz.prog fv [.int .i64 i,.int .i64 x] w' λe w''=>e=Value.int .i64 (f i x)/\Ext w' w''):
  ah 203 #[eE v,fv] w λe w'=>e=(eE (Ia f v))/\Ext w w':=by
 apply ab9.vc;intro w0 e0 w1 e1;have x0:=aQ e0;have z0:=eR e0;have r0:Row w0 w (Tz f v 0) gS:=Row.nw e0;have x1:=aQ e1;have z1:=eR e1;refine (GZ ⟨w.heap.size,0,none⟩ w1).mono ?_;rintro e w2 ⟨rfl,x2⟩;have z2:=x2.size;refine ⟨_,_,_,rfl,x2.heap ab,λn x wr=>∃k:Nat,x=k/\k+n=3/\Row wr w (Tz f v k) gS/\Ext w wr/\w2.heap.size<=wr,⟨3,rfl,0,rfl,rfl,r0.ext (x1.tr x2),x0.tr (x1.tr x2),aC _⟩,?_⟩;rintro n us x wr ⟨k,rfl,hk,hr,xr,zr⟩;have hl:∀k,(Tz f v k).length=3:=λ_=>rfl
 have wk:=nS (j:=k);apply Br.mk<;>intro hb
 ·replace hb:=nA hb;have AW:k=0\/k=1\/k=2:=by omega
  have step:∀(j:Nat)(y:Int),k=j->j<3->(Tz f v j)[j]? =some (.int .i64 y)->aS (Tz f v j) j [(f j y)]=Tz f v (j+1)->
    aP (dq (ae (aB w.heap.size) j)) (∃(cn:Int),ld wr (ae (aB w.heap.size) j)=some (.int .i64 cn)/\
     cC Tryz.prog fv [.int .i64 (k:Int),cn] wr (λe bO=>∃(cw:Int),e=cw/\bO.heap[w0.heap.size]? =wr.heap[w0.heap.size]?/\
     aP (dq (ae (aB w.heap.size) j)) (((ae (aB w.heap.size) j).isSome=true/\Wr bO (ae (aB w.heap.size) j) 1)/\bz (ae (aB w.heap.size) j)≠some w0.heap.size/\(∀cF:World,cF=aL bO (ae (aB w.heap.size) j) [cw]->
     ∃tG,tG<n/\aO [aa,aa,aa]/\∃k':Nat,ao ((k:Int)+1)=k'/\k'+tG=3/\Row cF w (Tz f v k') gS/\Ext w cF/\w2.heap.size<=cF)))):=by
   intro j y hj h3 h1 h2;subst hj;refine fT rfl ⟨y,hr.at k h1,eG (hf wr xr k y ab ab) ?_⟩;rintro e bO ⟨rfl,bI⟩;have ZD:=bI.size;have ajY:=hr.ext bI;obtain ⟨p1,p2⟩:=ajY.kl (j:=k) (v:=.int .i64 (f k y)) (by rw [hl];exact h3) rfl;refine ⟨_,rfl,bI.heap ab,fT rfl ⟨⟨rfl,p1⟩,?_,λcF HU=> ?_⟩⟩
   ·rw [c5];intro q;have q:w.heap.size=w0.heap.size:=by simpa [bz] using q
    omega
   obtain ⟨q1,q2⟩:=p2 cF HU;rw [h2] at q1;have z16:=q2.size;exact ⟨n-1,by omega,rfl,k+1,wk,by omega,q1,q2.ext (xr.tr bI) λi hi=>by omega,by omega⟩
  refine ⟨⟨by omega,by omega⟩,?_⟩;rcases AW with h|h|h
  ·exact ⟨_,by rw [h];rfl,step 0 v.1 h aF rfl rfl⟩
  ·exact ⟨_,by rw [h];rfl,step 1 v.2.1 h aF rfl rfl⟩
  ·exact ⟨_,by rw [h];rfl,step 2 v.2.2 h aF rfl rfl⟩
 ·replace hb:=nN hb;have AW:k=3:=by omega
  subst AW;exact ⟨_,_,_,Lo.wv hr,λeW e20=>⟨rfl,xr.ag e20 ab⟩⟩
def dp(v:Ce)(i:Int)(w:World):ah 178 #[eE v,i] w λe w'=>e=Value.int .i64 (dA v i)/\Ext w w':=by
 apply aca.vc;intro w0 e0;have x0:=aQ e0;have r0:Row w0 w (eg v) gS:=Row.nw e0;refine Br.mk (λh=> ?_) (λh=>Br.mk (λh2=> ?_) (λh2=>(GZ ⟨w.heap.size,0,none⟩ w0).mono ?_))
 ·replace h:=nA h;exact ⟨by unfold dA;rw [if_neg ab,if_neg ab,if_neg ab],x0⟩
 ·simp only [cN,ge_iff_le] at h2;exact ⟨by unfold dA;rw [if_neg ab,if_neg ab,if_neg ab],x0⟩
 ·simp only [fm,ge_iff_le] at h h2;rintro e w1 ⟨rfl,x1⟩;have hr:=r0.ext x1;refine ⟨_,_,_,rfl,⟨by omega,by omega⟩,?_⟩;have h3:i=0\/i=1\/i=2:=by omega
  rcases h3 with rfl|rfl|rfl
  ·exact ⟨_,rfl,fT rfl ⟨_,hr.at 0 rfl,rfl,x0.tr x1⟩⟩
  ·exact ⟨_,rfl,fT rfl ⟨_,hr.at 1 rfl,rfl,x0.tr x1⟩⟩
  ·exact ⟨_,rfl,fT rfl ⟨_,hr.at 2 rfl,rfl,x0.tr x1⟩⟩
def Yg(b:Ce)(i n:Int){g:Nat}{w:World}(hr:Row w g (eg b) gS):ah 204 #[i,n,g] w λe w'=>e=Value.int .i64 (fK n (dA b i))/\Ext w w':=by apply Yh.vc;refine ⟨_,_,_,Lo.wv hr,(dp b i w).mono ?_⟩;rintro e w1 ⟨rfl,x1⟩;refine ⟨_,rfl,(Yb n _ w1).mono ?_⟩;rintro e w2 ⟨rfl,rfl⟩;exact ⟨_,rfl,rfl,x1⟩
def Yi(b:Ce)(i n:Int){g:Nat}{w:World}(hr:Row w g (eg b) gS):ah 216 #[i,n,g] w λe w'=>e=Value.int .i64 (jV n (dA b i))/\Ext w w':=by apply Yj.vc;refine ⟨_,_,_,Lo.wv hr,(dp b i w).mono ?_⟩;rintro e w1 ⟨rfl,x1⟩;refine ⟨_,rfl,(JC n _ w1).mono ?_⟩;rintro e w2 ⟨rfl,rfl⟩;exact ⟨_,rfl,rfl,x1⟩
def jr(a b:Ce)(w:World):ah 145 #[eE a,eE b] w λe w'=>e=(eE (jW a b))/\Ext w w':=by apply afX.vc;intro w0 e0 w1 e1 w2 e2;have x0:=aQ e0;have z0:=eR e0;have x1:=aQ e1;have z1:=eR e1;have r1:Row w1 w0 (eg b) gS:=Row.nw e1;have x2:=aQ e2;have z2:=eR e2;have AI:=x0.tr (x1.tr x2);refine (vF (λi n=>fK n (dA b i)) a (.func (.func 204) #[] #[w0]) w2 λw' x' i x _ _=>cX (by kernel_rfl) rfl (Yg b i x ((r1.ext x2).ext x'))).mono ?_;rintro e w3 ⟨rfl,x3⟩;have z3:=x3.size;exact ⟨_,_,_,rfl,x3.heap ab,x3.heap ab,λw7 e7=>⟨rfl,(AI.tr x3).ag e7 ab⟩⟩
def vt(a b:Ce)(w:World):ah 154 #[eE a,eE b] w λe w'=>e=(eE (xK a b))/\Ext w w':=by apply afY.vc;intro w0 e0 w1 e1 w2 e2;have x0:=aQ e0;have z0:=eR e0;have x1:=aQ e1;have z1:=eR e1;have r1:Row w1 w0 (eg b) gS:=Row.nw e1;have x2:=aQ e2;have z2:=eR e2;have AI:=x0.tr (x1.tr x2);refine (vF (λi n=>jV n (dA b i)) a (.func (.func 216) #[] #[w0]) w2 λw' x' i x _ _=>cX (by kernel_rfl) rfl (Yi b i x ((r1.ext x2).ext x'))).mono ?_;rintro e w3 ⟨rfl,x3⟩;have z3:=x3.size;exact ⟨_,_,_,rfl,x3.heap ab,x3.heap ab,λw7 e7=>⟨rfl,(AI.tr x3).ag e7 ab⟩⟩
def TA(ax m i n:Int){g h:Nat}{w:World}{τ:TypeId}(hr:Row w g [ax] τ)(hh:Row w h [m] τ):ah 217 #[i,n,g,h] w λe w'=>e=Value.int .i64 (if i=ax then cT m else n)/\Ext w w':=by
 apply TB.vc;refine ⟨ax,hr.at 0 rfl,Br.mk (λq=>⟨m,hh.at 0 rfl,(gA m w).mono ?_⟩) (λq=> ?_)⟩
 ·rintro e w1 ⟨rfl,rfl⟩;exact ⟨_,rfl,by rw [if_pos (by simpa using q)],Ext.cM _⟩
 ·exact ⟨by rw [if_neg (by simpa using q)],Ext.cM _⟩
def iV(v:Ce)(ax m:Int)(w:World):ah 155 #[eE v,ax,m] w λe w'=>e=(eE (fB v ax m))/\Ext w w':=by apply acb.vc;intro w0 e0 w1 e1 w2 e2 w3 e3;have x0:=aQ e0;have z0:=eR e0;have x1:=aQ e1;have z1:=eR e1;have r1:Row w1 w0 [ax] 3:=Row.nw e1;have x2:=aQ e2;have z2:=eR e2;have r2:Row w2 w1 [m] 3:=Row.nw e2;have x3:=aQ e3;have z3:=eR e3;have Cc:=x0.tr (x1.tr (x2.tr x3));refine (vF (λi own=>if i=ax then cT m else own) v (.func (.func 217) #[] #[w0,w1]) w3 λw' x' i x _ _=>cX (by kernel_rfl) rfl (TA ax m i x ((r1.ext (x2.tr x3)).ext x') ((r2.ext x3).ext x'))).mono ?_;rintro e w4 ⟨rfl,x4⟩;have z4:=x4.size;exact ⟨_,_,_,rfl,x4.heap ab,x4.heap ab,λw8 e8=>⟨rfl,(Cc.tr x4).ag e8 ab⟩⟩
abbrev fJ:TypeId:=107
abbrev pC(b:Bx):LV:=[.int .i64 b.1.1,.int .i64 b.1.2.1,.int .i64 b.1.2.2,.int .i64 b.2.1,.int .i64 b.2.2.1,.int .i64 b.2.2.2]
def m7{w:World}{g o:Nat}{cs:LV}{τ:TypeId}(hr:Row w g cs τ){v:Value}(h:cs[o]? =some v):af w (dC g o) 0 [v]:=hr.bY (o:=o) (λj hj=>by
 match j,hj with
 |0,_=>exact h)
def sD{w:World}{g o:Nat}{cs:LV}{τ:TypeId}(hr:Row w g cs τ){x y z:Value}(h:cs[o]? =some x)(h1:cs[o+1]? =some y)(h2:cs[o+2]? =some z):af w (dC g o) 0 [x,y,z]:=hr.bY (o:=o) (λj hj=>by
 match j,hj with
 |0,_=>exact h
 |1,_=>exact h1
 |2,_=>exact h2)
def ahn{a:Int}(h:bN a):ao (Int.tdiv (if 0>a then 0 else a) 2)=max a 0 / 2:=by
 have e:(if 0>a then 0 else a)=max a 0:=by split<;>omega
 unfold bN at h;rw [e,rj ab,wI]
def amw(a:Int):(if 0>a then 0 else a)=max a 0:=by split<;>omega
def RT(aD:Ce)(wd h:Int)(hw:bN wd)(w:World):ah 104 #[eE aD,wd,h] w λe w'=>e=(su (xJ aD wd h))/\Ext w w':=by
 apply Wj.vc;rw [ahn hw,amw h];intro w0 e0 w1 e1 w2 e2 w3 e3;have x0:=aQ e0;have z0:=eR e0;have r0:Row w0 w (eg aD) gS:=Row.nw e0;have x1:=aQ e1;have z1:=eR e1;have x3:Ext w1 w3:=(aQ e2).ag e3 (aC _);have z3:=AU e2 e3;have cn:=x1.tr (x3.tr (Ext.dr w3));have zd:=lE w3;constructor
 all_goals
  refine (vt aD (max wd 0 / 2,0,max wd 0 / 2) w3.drew).mono ?_
  rintro e w4 ⟨rfl,x4⟩
  have z4:=x4.size
  refine ⟨_,_,_,rfl,x4.heap ab,x4.heap ab,x4.heap ab,Lo.wv (r0.ext (cn.tr x4)),(jr aD (max wd 0 / 2,max h 0,max wd 0 / 2) w4).mono ?_⟩
  rintro e w8 ⟨rfl,x8⟩
  have z8:=x8.size
  exact ⟨_,_,_,rfl,x8.heap ab,x8.heap ab,x8.heap ab,λdj Q9=>⟨rfl,(x0.tr (cn.tr (x4.tr x8))).ag Q9 ab⟩⟩
structure ee where
 aD:Ce
 speed:Ce
 wd:Int
 ht:Int
 ir:Bool
abbrev jO(b:ee):LV:=[.int .i64 b.aD.1,.int .i64 b.aD.2.1,.int .i64 b.aD.2.2,.int .i64 b.speed.1,.int .i64 b.speed.2.1,.int .i64 b.speed.2.2,.int .i64 b.wd,.int .i64 b.ht,.bool b.ir]
abbrev Er(b:ee):Value:=.agg #[b.aD.1,b.aD.2.1,b.aD.2.2,b.speed.1,b.speed.2.1,b.speed.2.2,b.wd,b.ht,.bool b.ir]
abbrev AV:TypeId:=70
def ee.box(b:ee):Bx:=xJ b.aD b.wd b.ht
def kA(b:ee)(hw:bN b.wd)(w:World):ah 48 #[Er b] w λe w'=>e=(su b.box)/\Ext w w':=by apply H8.vc;intro w0 e0 w1 e1;have x1:Ext w w1:=(aQ e0).bF e1;have z0:=eR e0;have z1:=eR e1;refine (RT b.aD b.wd b.ht hw w1).mono ?_;rintro e w2 ⟨rfl,x2⟩;have z2:=x2.size;exact ⟨_,_,_,_,_,_,rfl,x2.heap ab,x2.heap ab,λw9 e9=>⟨rfl,(x1.tr x2).ag e9 ab⟩⟩
def zI(v:Ce)(w:World):ah 101 #[eE v] w λe w'=>e=(eE (bq v))/\Ext w w':=by
 apply ae6.vc;intro w0 e0 w1 e1;have x0:=aQ e0;have z0:=eR e0;have r0:Row w0 w (eg v) gS:=Row.nw e0;have x1:Ext w0 w1.drew:=(aQ e1).drew;have z1:w1.drew.heap.size=w0.heap.size+1:=by show w1.heap.size=_;rw [e1];simp
 have r1:=r0.ext x1;refine (oS v.1 w1.drew).mono ?_;rintro e w2 ⟨rfl,rfl⟩;refine ⟨_,rfl,rfl,rfl,m7 r1 rfl,m7 r1 rfl,(oS v.2.1 w1.drew).mono ?_⟩;rintro e w4 ⟨rfl,rfl⟩;refine ⟨_,rfl,rfl,rfl,m7 r1 rfl,(oS v.2.2 w1.drew).mono ?_⟩;rintro e w6 ⟨rfl,rfl⟩;exact ⟨_,rfl,rfl,rfl,λw8 e8=>⟨by unfold bq;rfl,(x0.tr x1).ag e8 ab⟩⟩
def Bt(a b c d:Int)(w:World):ah 293 #[a,b,c,d] w λe w'=>e=Value.int .i64 (if a=b then c else d)/\w'=w:=by apply No.vc;exact Br.mk (λh=>⟨by rw [if_pos (by simpa using h)],rfl⟩) (λh=>⟨by rw [if_neg (by simpa using h)],rfl⟩)
def Wk(b:Bx)(w:World):ah 266 #[su b] w λe w'=>∃lo hi:Ce,e=Value.tuple #[eE lo,eE hi,.bool (CY b)]/\(CY b=true->lo=bq b.1/\hi=fA b)/\Ext w w':=by
 apply Wl.vc;intro w0 e0 w1 e1 w2 e2;have x0:=aQ e0;have z0:=eR e0;have r0:Row w0 w (pC b) fJ:=Row.nw e0;have x1:=aQ e1;have z1:=eR e1;have x2:=aQ e2;have z2:=eR e2;refine (zI b.1 w2).mono ?_;rintro e w3 ⟨rfl,x3⟩;have z3:=x3.size;refine ⟨_,_,_,rfl,x3.heap ab,x3.heap ab,x3.heap ab,λw7 e7 w8 e8=>(jr b.2 (-1,-1,-1) w8).mono ?_⟩;have x8:Ext w3 w8:=(aQ e7).ag e8 (aC _);have z8:=AU e7 e8;have r8:Row w8 w3 (eg (bq b.1)) qL:=by rw [e8];exact Row.set (by rw [e7];exact Row.new w3 [_,_,_] _) _
 rintro e w9 ⟨rfl,x9⟩;have z9:=x9.size;refine ⟨_,_,_,rfl,x9.heap ab,x9.heap ab,x9.heap ab,x9.heap ab,(zI (jW b.2 (-1,-1,-1)) w9).mono ?_⟩;rintro e bK ⟨rfl,cn⟩;have z13:=cn.size;refine ⟨_,_,_,rfl,cn.heap ab,cn.heap ab,cn.heap ab,cn.heap ab,λcL AZ dH YX=> ?_⟩;have cA:Ext bK dH:=(aQ AZ).ag YX (aC _);have z18:=AU AZ YX;have r18:Row dH bK (eg (FM b)) qL:=by rw [YX];exact Row.set (by rw [AZ];exact Row.new bK [_,_,_] _) _
 have akG:=x9.tr (cn.tr cA);have Uc:=x0.tr (x1.tr (x2.tr (x3.tr (x8.tr akG))));have rb:=r0.ext (x1.tr (x2.tr (x3.tr (x8.tr akG))));have rl:=r8.ext akG;refine ⟨λn x wr=>∃k:Nat,x=k/\k+n=3/\Ext dH wr/\∀j:Nat,j<k->rC b j=false,⟨3,rfl,rfl,rfl,rfl,rfl,0,rfl,rfl,Ext.cM _,λj hj=>by omega⟩,?_⟩;rintro n us x wr ⟨k,rfl,hk,xr,ht⟩;have zr:=xr.size;have xd:=Ext.dr wr;have zd:=lE wr;have wk:=nS (j:=k);refine Br.mk (λhb=>(dp b.1 k wr.drew).mono ?_) (λhb=>(Bt b.1.1 b.2.1 (bq b.1).1 (FM b).1 wr.drew).mono ?_)
 ·replace hb:=nA hb;rintro e cW ⟨rfl,dY⟩;have z25:=dY.size;have x25d:=xr.tr (xd.tr dY);refine ⟨_,rfl,dY.heap ab,dY.heap ab,dY.heap ab,dY.heap ab,dY.heap ab,sD (rb.ext x25d) rfl rfl rfl,(dp b.2 k cW).mono ?_⟩;rintro e dX ⟨rfl,fO⟩;have z27:=fO.size;have next:rC b k=false->∀j:Nat,j<k+1->rC b j=false:=λh j hj=>by
   by_cases q:j<k
   ·exact ht j q
   ·rw [show j=k from by omega];exact h
  refine ⟨_,rfl,fO.heap ab,fO.heap ab,fO.heap ab,fO.heap ab,fO.heap ab,Br.mk (λh1=>(Bu _ dX).mono ?_) (λh1=> ?_)⟩
  ·rintro e dW ⟨rfl,rfl⟩;have h1:=cU h1;refine ⟨_,rfl,rfl,rfl,rfl,rfl,rfl,Br.mk (λh2=>λgf e31 ni Ud=> ?_) (λh2=> ?_)⟩
   ·have h2:=cU h2;have hth:rC b k=true:=by unfold rC;rw [h1,<-h1,h2];simp [h1]
    have hsp:CY b=false:=by
     have h3:(k:Int)=0\/(k:Int)=1\/(k:Int)=2:=by omega
     unfold CY;rcases h3 with q|q|q<;>(rw [q] at hth;rw [hth];simp)
    refine ⟨(0,0,0),(0,0,0),by rw [hsp],λq=>absurd (hsp.symm.trans q) aF,((Uc.tr (x25d.tr fO)).ag e31 ab).ag Ud ab⟩
   ·have h2:=cU h2;exact ⟨n-1,by omega,rfl,rfl,rfl,rfl,rfl,k+1,wk,by omega,x25d.tr fO,next (by unfold rC;simp [h2])⟩
  ·have h1:=cU h1;exact ⟨n-1,by omega,rfl,rfl,rfl,rfl,rfl,k+1,wk,by omega,x25d.tr fO,next (by unfold rC;simp [h1])⟩
 ·replace hb:=nN hb;have hsp:CY b=true:=by unfold CY;rw [show rC b 0=false from ht 0 ab,show rC b 1=false from ht 1 ab,show rC b 2=false from ht 2 ab];rfl
  have rb':=rb.ext (xr.tr xd);have rl':=rl.ext (xr.tr xd);have rt':=r18.ext (xr.tr xd);rintro e eT ⟨rfl,rfl⟩;refine ⟨_,rfl,rfl,rfl,rfl,rfl,rfl,m7 rt' rfl,m7 rl' rfl,m7 rb' rfl,m7 rb' rfl,m7 rt' rfl,m7 rl' rfl,m7 rb' rfl,m7 rb' rfl,(Bt b.1.2.1 b.2.2.1 (bq b.1).2.1 (FM b).2.1 wr.drew).mono ?_⟩;rintro e kh ⟨rfl,rfl⟩;refine ⟨_,rfl,rfl,rfl,rfl,rfl,rfl,m7 rt' rfl,m7 rl' rfl,m7 rb' rfl,m7 rb' rfl,(Bt b.1.2.2 b.2.2.2 (bq b.1).2.2 (FM b).2.2 wr.drew).mono ?_⟩;rintro e gw ⟨rfl,rfl⟩;refine ⟨_,rfl,rfl,rfl,rfl,rfl,rfl,λkx e39 jP TN jw e41 lj e42=> ?_⟩;have r39:Row kx bK (eg ((fA b).1,(FM b).2.1,(FM b).2.2)) qL:=by rw [e39];exact Row.set rt' [_,_,_]
  have r40:Row jP bK (eg ((fA b).1,(fA b).2.1,(FM b).2.2)) qL:=r39.st TN;have r41:Row jw bK (eg (fA b)) qL:=r40.st e41;have r42:Row lj bK (eg (fA b)) qL:=(r41.ext (Ext.dr jw)).same (by rw [e42];exact setRow_other _ _ _ _ ab);have nj:Ext w lj:=(((((Uc.tr (xr.tr xd)).ag e39 ab).ag TN ab).ag e41 ab).drew).ag e42 ab;exact ⟨Lo.wv r42,λjg e43=>⟨bq b.1,fA b,by rw [hsp];rfl,λ_=>⟨rfl,rfl⟩,nj.ag e43 ab⟩⟩
def RU(b:Bx)(w:World):ah 105 #[su b] w λe w'=>e=(su (gz b))/\Ext w w':=by
 apply Np.vc;intro w0 e0 w1 e1;have x0:=aQ e0;have z0:=eR e0;have r0:Row w0 w (pC b) fJ:=Row.nw e0;have x1:Ext w0 w1.drew:=(aQ e1).drew;have z1:w1.drew.heap.size=w0.heap.size+1:=by show w1.heap.size=_;rw [e1];simp
 have r1:=r0.ext x1;refine (JC b.1.2.1 1 w1.drew).mono ?_;rintro e w2 ⟨rfl,rfl⟩;refine ⟨_,rfl,rfl,rfl,sD r1 rfl rfl rfl,sD r1 rfl rfl rfl,(iV b.1 1 (jV b.1.2.1 1) w1.drew).mono ?_⟩;rintro e w4 ⟨rfl,x4⟩;have z4:=x4.size;refine ⟨_,_,_,rfl,x4.heap ab,x4.heap ab,sD (r1.ext x4) rfl rfl rfl,(iV b.2 1 b.1.2.1 w4).mono ?_⟩;rintro e w8 ⟨rfl,x8⟩;have z8:=x8.size;exact ⟨_,_,_,rfl,x8.heap ab,x8.heap ab,λdj Q9=>⟨rfl,(x0.tr (x1.tr (x4.tr x8))).ag Q9 ab⟩⟩
abbrev nI(b:Bx):List (LV):=(kY b).map λc=> [eE c]
abbrev aaz(g:Nat):Value:=.func (.func 265) #[] #[g]
def Wv(b:Bx)(g:Nat)(W0:World)(hb:Row W0 g (pC b) fJ):Iter Tryz.prog (aaz g) W0 (λi=>i=g) (nI b):=by
 refine ⟨⟨_,_,_,rfl,by kernel_rfl⟩,?_⟩;intro y B J Jx F0 W hB hsJ hsX AK hRd hround h0;refine cX (by kernel_rfl) (by rfl) ?_;apply L3.vc;have hbW:Row W g (pC b) fJ:=hb.same (hRd g rfl).2.2;refine ⟨_,_,_,_,_,_,Lo.wv hbW,(Wk b W).mono ?_⟩;rintro e w6 ⟨lo,hi,rfl,hsp,x6⟩;refine ⟨_,_,_,_,_,_,_,rfl,λbO vH dB pN cF HU cL AZ=> ?_⟩;have bI:=aQ vH;have ZD:=eR vH;have dh:Ext w6 cL:=(((bI.bF pN).ag HU (aC _)).ag AZ ab);have z17:cL.heap.size=w6.heap.size+2:=by rw [AZ,setRow_size,HU,setRow_size,pN];simp [ZD]
 have xW:=x6.tr dh;have zW:=xW.size;obtain ⟨Q,hQ⟩:∃Q:Nat->World->Prop,Q=λk wr=>∃F,J k F wr/\∀i,F i->(F0 i\/cL.heap.size<=i):=⟨_,rfl⟩
 have z6:=x6.size;have hF0:∀i,F0 i->i<w6.heap.size:=λi hi=>kM (AK _ _ _ h0 i hi) z6
 have init:Q 0 cL:=by rw [hQ];exact ⟨F0,hsJ _ _ _ _ h0 (Below.mono xW hB) λi hi=>xW.heap (AK _ _ _ h0 i hi),λi hi=> .inl hi⟩
 have round:∀{k:Nat} {wr:World} {x:LV},cL.heap.size<=wr->(nI b)[k]? =some x->Q k wr->cC Tryz.prog y x wr λe w'=>cL.heap.size<=w'.heap.size/\(∀i,i<cL.heap.size->¬F0 i->w'.heap[i]? =wr.heap[i]?)/\((e=true/\Q (k+1) w')\/(e=false/\∃F',Jx () F' w')):=λ{k wr x} hz hx h=>by
  rw [hQ] at h ⊢;obtain ⟨F,hJ,h2⟩:=h;refine dw (hround _ _ _ _ hx hJ) ?_;have de:∀{w':World} {F2:Nat->Prop},Step F F2 wr w'->cL.heap.size<=w'.heap.size/\(∀i,i<cL.heap.size->¬F0 i->w'.heap[i]? =wr.heap[i]?):=λgM=>⟨by have:=gM.size;omega,λi hi hn=>gM.same i ab λhf=>(h2 i hf).elim hn ab⟩
  rintro e w' (⟨rfl,F2,Ul,gM⟩|⟨rfl,F2,Ul,gM⟩)
  ·refine ⟨(de gM).1,(de gM).2,.inl ⟨rfl,F2,Ul,λi hi=> ?_⟩⟩;rcases gM.sub i hi with hf|hf
   ·exact h2 i hf
   ·exact .inr ab
  ·exact ⟨(de gM).1,(de gM).2,.inr ⟨rfl,F2,Ul⟩⟩
 have fin:∀{wr:World},Q (nI b).length wr->∃F',J (nI b).length F' wr:=λh=>by rw [hQ] at h;obtain ⟨F,hJ,-⟩:=h;exact ⟨F,hJ⟩
 have n6:¬F0 w6:=λq=>by have:=hF0 _ q;omega
 have HT:¬F0 bO:=λq=>by have:=hF0 _ q;omega
 have YQ:cL.heap.size=w6.heap.size+2:=z17
 cases hspan:CY b with
 |false=>
  have D6:nI b=[]:=by unfold nI kY;rw [hspan];rfl
  rw [D6] at fin ⊢;exact ⟨λn x wr=>wr=cL,⟨0,rfl,rfl,rfl⟩,λn us x wr hwr=>by
   subst hwr;exact Br.mk (λh=>by cases h) (λ_=>⟨⟨_,rfl⟩,.inl (fin init)⟩)⟩
 |true=>
  obtain ⟨rfl,rfl⟩:=hsp hspan;have hc:kY b=NI (bq b.1) (fA b):=by unfold kY;rw [hspan];rfl
  have HR:∀{jy jz jx:Nat},jy<cO (bq b.1).2.1 (fA b).2.1->jz<cO (bq b.1).2.2 (fA b).2.2->jx<cO (bq b.1).1 (fA b).1->
    (nI b)[(jy*cO (bq b.1).2.2 (fA b).2.2+jz)*cO (bq b.1).1 (fA b).1+jx]? =some [eE ((bq b.1).1+(jx:Int),(bq b.1).2.1+(jy:Int),(bq b.1).2.2+(jz:Int))]:=λh1 h2 h3=>by
   unfold nI;rw [hc,aR,afb _ _ h1 h2 h3];rfl
  have dN:(nI b).length=cO (bq b.1).2.1 (fA b).2.1*cO (bq b.1).2.2 (fA b).2.2*cO (bq b.1).1 (fA b).1:=by unfold nI;rw [aN,hc,aav]
  obtain ⟨⟨a1,a2⟩,⟨a3,a4⟩,a5,a6⟩:=vu b.1;obtain ⟨⟨b1,b2⟩,⟨b3,b4⟩,b5,b6⟩:=UM b;generalize nI b=xs at*;generalize bq b.1=a at*;generalize fA b=z at*;have hny:∀j:Nat,a.2.1+(j:Int)<=z.2.1 ↔ j<cO a.2.1 z.2.1:=λj=>by unfold cO;omega
  have hnz:∀j:Nat,a.2.2+(j:Int)<=z.2.2 ↔ j<cO a.2.2 z.2.2:=λj=>by unfold cO;omega
  have hnx:∀j:Nat,a.1+(j:Int)<=z.1 ↔ j<cO a.1 z.1:=λj=>by unfold cO;omega
  have hmy:cO a.2.1 z.2.1<=4294967297:=by unfold cO;omega
  have hmz:cO a.2.2 z.2.2<=4294967297:=by unfold cO;omega
  have hmx:cO a.1 z.1<=4294967297:=by unfold cO;omega
  generalize cO a.2.1 z.2.1=ny at*;generalize cO a.2.2 z.2.2=nz at*;generalize cO a.1 z.1=nx at*;refine ⟨λn v wr=>∃jy:Nat,v=a.2.1+jy/\jy+n=ny/\Q (jy*nz*nx) wr/\cL.heap.size<=wr,⟨ny,rfl,rfl,0,by omega,by omega,by rw [Nat.zero_mul,Nat.zero_mul];exact init,aC _⟩,?_⟩;rintro n2 us3 v dP ⟨jy,rfl,hjy,hq,zr⟩;refine Br.mk (λ_=>Br.mk (λhc1=> ?_) (λhc1=> ?_)) (λh=>by cases h)
  ·replace hc1:=nA hc1;have ly:=(hny jy).1 hc1;refine ⟨λn v wr=>∃jz:Nat,v=a.2.2+jz/\jz+n=nz/\Q ((jy*nz+jz)*nx) wr/\cL.heap.size<=wr,⟨nz,rfl,rfl,0,by omega,by omega,by rw [Nat.add_zero];exact hq,zr⟩,?_⟩;rintro n10 aCP v iw ⟨jz,rfl,hjz,hq,zr⟩;apply Br.mk<;>intro oC
   ·replace oC:=nA oC;have lz:=(hnz jz).1 oC;refine ⟨λn v wr=>∃jx:Nat,v=a.1+jx/\jx+n=nx/\Q ((jy*nz+jz)*nx+jx) wr/\cL.heap.size<=wr,⟨nx,rfl,rfl,0,by omega,by omega,by rw [Nat.add_zero];exact hq,zr⟩,?_⟩;rintro n18 aCQ v jf ⟨jx,rfl,hjx,hq,zr⟩;apply Br.mk<;>intro VE
    ·replace VE:=nA VE;have lx:=(hnx jx).1 VE;refine dw (round zr (HR ly lz lx) hq) ?_;have wk:ao (a.1+(jx:Int)+1)=a.1+((jx+1:Nat):Int):=by rw [wI];omega
     rintro e kG ⟨z36,k36,q⟩;have k1:=k36 w6 ab n6;have k2:=k36 bO ab HT;rcases q with ⟨rfl,hq2⟩|⟨rfl,hx2⟩
     ·exact ⟨true,rfl,k1,k2,Br.mk (λh=>by cases h) (λ_=>⟨n18-1,by omega,rfl,rfl,jx+1,wk,by omega,hq2,z36⟩)⟩
     ·exact ⟨false,rfl,k1,k2,Br.mk (λ_=>⟨⟨_,rfl⟩,.inr hx2⟩) (λh=>by cases h)⟩
    ·replace VE:=nN VE;have e:jx=nx:=by have:=mt (hnx jx).2 VE;omega
     subst e;have wk:ao (a.2.2+(jz:Int)+1)=a.2.2+((jz+1:Nat):Int):=by rw [wI];omega
     refine ⟨n10-1,by omega,rfl,rfl,jz+1,wk,by omega,?_,zr⟩;have:(jy*nz+(jz+1))*jx=(jy*nz+jz)*jx+jx:=by rw [<-Nat.add_assoc,oK _ 1,Nat.one_mul]
     rw [this];exact hq
   ·replace oC:=nN oC;have e:jz=nz:=by have:=mt (hnz jz).2 oC;omega
    subst e;have wk:ao (a.2.1+(jy:Int)+1)=a.2.1+((jy+1:Nat):Int):=by rw [wI];omega
    refine ⟨n2-1,by omega,rfl,rfl,jy+1,wk,by omega,?_,zr⟩;rw [oK jy 1,Nat.one_mul];exact hq
  ·replace hc1:=nN hc1;have e:jy=ny:=by have:=mt (hny jy).2 hc1;omega
   subst e;rw [<-dN] at hq;exact ⟨⟨_,rfl⟩,.inl (fin hq)⟩
def R2(b:Bx)(w:World):ah 215 #[su b] w λe w'=>e=(aaz w)/\Row w' w (pC b) fJ/\Ext w w':=by apply R3.vc;intro w0 e0;exact ⟨rfl,by rw [e0];exact Row.new w [_,_,_,_,_,_] _,(aQ e0)⟩
def Ws{b:Bx}{n:Nat}{x y z:Int}(h:(nI b)[n]? =some [.agg #[.int .i64 x,.int .i64 y,.int .i64 z]]):(kY b)[n]? =some (x,y,z):=by
 unfold nI at h;rw [aR] at h
 cases hc:(kY b)[n]? with
 |none=>rw [hc] at h;cases h
 |some c=>
  rw [hc] at h;simp only [nB] at h;injection h with h;injection h with h _;injection h with h;injection h with h;injection h with h1 h;injection h with h2 h;injection h with h3 _;injection h1 with _ h1;injection h2 with _ h2;injection h3 with _ h3;exact congrArg some (Prod.ext h1 (Prod.ext h2 h3))
def aaA{b:Bx}{c:Ce}(h:c ∈ kY b):pW c:=by
 unfold kY at h;split at h
 ·have h1:=NJ h;have h2:=vu b.1;have h3:=UM b;unfold pW bN;omega
 ·cases h
def Wu{v:Value}{V:Ce->Int}{w:World}(hV:Tl v V w)(hv:kP v=[])(b:Bx)(fp:Value)(hfp:kP fp=[])(p:Int->Bool)(hp:∀(x:Int)(w':World),cC Tryz.prog fp [.int .i64 x] w' λe w''=>e=Value.bool (p x)/\Ext w' w''):
  ah 153 #[v,su b,fp] w λe w'=>∃c:Ce,e=Value.tuple #[eE c,.bool (g8 V b p)]/\Ext w w':=by
 apply R4.vc;rw [hv,qS];intro w0 e0 w1 e1;rw [hfp,qS];intro w2 e2 w3 e3 w4 e4;have x0:=aQ e0;have z0:=eR e0;have x1:=aQ e1;have z1:=eR e1;have x2:=aQ e2;have z2:=eR e2;have r2:∃τ,Row w2 w1 [fp] τ:=⟨_,by rw [e2];exact Row.new w1 [_] _⟩;have x3:=aQ e3;have z3:=eR e3;have x4:=aQ e4;have z4:=eR e4;have Dp:=x0.tr (x1.tr (x2.tr (x3.tr x4)));obtain ⟨τ2,r2⟩:=r2;refine (R2 b w4).mono ?_;rintro e w5 ⟨rfl,hb5,x5⟩;have z5:=x5.size;have l5:=hb5.lt;have QL:=Dp.tr x5;have r5:=r2.ext (x3.tr (x4.tr x5));refine ⟨_,rfl,x5.heap ab,x5.heap ab,x5.heap ab,x5.heap ab,x5.heap ab,nI b,λi=>i=w4.heap.size,λ_=>False,
  λn F x y z bb w'=>(∀i,¬F i)/\(∀c ∈(kY b).take n,p (V c)=false)/\Mod (λi=>w5.heap.size<=i) w5 w',
  λo F x y z bb w'=>(∀i,¬F i)/\bb=g8 V b p/\Mod (λi=>i=w2.heap.size\/i=w3.heap.size\/w5.heap.size<=i) w5 w',?_,?_,?_,λn F x y z bb w' h i hi=>(h.1 i hi).elim,λo F x y z bb w' h i hi=>(h.1 i hi).elim,λi hi=> ?_,λCy yD=> ?_,?_,?_,?_⟩
 ·intro x hx;obtain ⟨c,-,rfl⟩:=aW.1 hx;exact ⟨_,_,_,rfl⟩
 ·rintro n F x y z bb eZ dP ⟨h1,h2,h3⟩ lr -;exact ⟨h1,h2,h3.tr ⟨lr.os,lr.tape,lr.output,lr.size,λi hi hn=>lr.block i (JG hn)⟩ λi hi=> .inl hi⟩
 ·rintro o F x y z bb eZ dP ⟨h1,h2,h3⟩ lr -;exact ⟨h1,h2,h3.tr ⟨lr.os,lr.tape,lr.output,lr.size,λi hi hn=>lr.block i (JG hn)⟩ λi hi=> .inl (.inr (.inr hi))⟩
 ·subst hi;exact ⟨by omega,id,by omega,by omega,by omega,by omega,by omega,trivial⟩
 ·exact ⟨Wv b _ Cy (hb5.same (yD.ext.block _ ab)),rfl,rfl,rfl,λi h=>h,λc hc=>by simp at hc,Mod.aH yD.ext⟩
 ·rintro n F us HV tc nk b52 jA qp lY qH hx hI Cx e58 yO ZJ;have qq:Ext qH yO:=(aQ e58).ag ZJ (aC _);have z59:yO.heap.size=qH.heap.size+1:=by rw [ZJ,setRow_size,e58];simp
  have z56:=hI.2.2.size;refine ⟨qq,λmR gJ adv=> ?_⟩;obtain ⟨hF,mO,hM⟩:=adv;have zr:=gJ.size;have hc:=Ws hx;have pk:=aX hc;have z57:=hM.size;have ht:(kY b).take (n+1)=(kY b).take n++ [(jA,qp,lY)]:=by rw [dR,hc];rfl
  obtain ⟨D,hD1,hD2⟩:=hV;refine dw (hD2 mR.drew (λi hi=> ?_) (jA,qp,lY) (aaA pk)) ?_
  ·have:=hD1 i hi;have:=QL.size;exact (hM.same i ab ab).trans (QL.heap ab)
  rintro e mQ ⟨rfl,lX⟩;have zd:=lE mR;have z60:=lX.size;have adw:=hM.trans (Mod.aH ((Ext.dr mR).tr lX));refine ⟨_,rfl,lX.heap ab,lX.heap ab,lX.heap ab,lX.heap ab,lX.heap ab,lX.heap ab,Lo.wv (adw.row r5 ab),dw (hp _ mQ) ?_⟩;rintro e iH ⟨rfl,om⟩;have z62:=om.size;have QM:=adw.trans (Mod.aH om);refine ⟨_,rfl,om.heap ab,om.heap ab,om.heap ab,om.heap ab,om.heap ab,om.heap ab,Br.mk (λhq=>λue Ze EJ Zf=> ?_) (λhq=> ?_)⟩
  ·have hq:p (V (jA,qp,lY))=true:=hq;have akK:g8 V b p=true:=List.any_eq_true.2 ⟨_,pk,hq⟩;have atM:EJ.heap.size=iH.heap.size:=by rw [Zf,setRow_size,Ze,setRow_size]
   have akL:∀i,i≠w2.heap.size->i≠w3.heap.size->EJ.heap[i]? =iH.heap[i]? :=λi h1 h2=>by rw [Zf,setRow_other _ _ _ _ h2,Ze,setRow_other _ _ _ _ h1]
   have adx:Mod (λi=>i=w2.heap.size\/i=w3.heap.size) iH EJ:=⟨by rw [Zf,Ze];rfl,by rw [Zf,Ze];rfl,by rw [Zf,Ze];rfl,by omega,λi _ hn=>akL i (λq=>hn (.inl q)) (λq=>hn (.inr q))⟩;refine ⟨rfl,λ_=>False,⟨rfl,rfl,rfl,λi h=>h,akK.symm,(QM.mono λi _ h=> .inr (.inr h)).trans (adx.mono λi _ h=>h.elim .inl λh=> .inr (.inl h))⟩,?_⟩;have HF:=((Mod.aH (F:=λi=>i=w2.heap.size\/i=w3.heap.size) (((Ext.dr mR).tr lX).tr om))).trans adx;refine Step.late ⟨λi hi=> ?_,HF.size,λi hi hn=>HF.same i hi λq=>hn (.inr ?_)⟩
   ·rcases hi with h|h
    ·exact h.elim
    ·exact .inl (.inr h)
   ·rcases q with rfl|rfl<;>simp
  ·have hq:p (V (jA,qp,lY))=false:=hq;have QN:=((Ext.dr mR).tr lX).tr om;refine ⟨λ_=>False,⟨rfl,rfl,rfl,λi h=>h,λc hc=> ?_,QM⟩,Step.late ⟨λi hi=> ?_,QN.size,λi hi _=>QN.block i hi⟩⟩
   ·rw [ht,cV] at hc;rcases hc with hc|hc
    ·exact mO c hc
    ·rw [iN.1 hc];exact hq
   ·rcases hi with h|h
    ·exact h.elim
    ·exact .inl (.inr h)
 ·rintro F us py oq nL b73 mU ⟨hF,mO,hM⟩ Ue sY Zg j6 e76;have z74:=hM.size;have dN:(nI b).length=(kY b).length:=by unfold nI;simp
  rw [dN,iR] at mO;have akK:g8 V b p=false:=by unfold g8;rw [List.any_eq_false];exact λc hc=>by rw [mO c hc];decide
  refine ⟨by rw [e76,setRow_other _ _ _ _ ab,Zg,setRow_other _ _ _ _ ab];exact Ue,λvf gJ=>⟨(0,0,0),by rw [akK],?_⟩⟩;have vi:Ext w mU:=hM.ext QL λi hi=>by have:=QL.size;omega
  have yB:Ext w j6:=(vi.ag Zg ab).ag e76 ab;exact (Mod.sI gJ).ext yB λi hi=>by have:=QL.size;omega
 ·rintro F us tI rP qt b83 Mc ⟨hF,rfl,hM⟩ Ue;refine ⟨Ue,λw85 gJ=>⟨(tI,rP,qt),rfl,?_⟩⟩;have vJ:Ext w Mc:=hM.ext QL λi hi=>by have:=QL.size;omega
  exact (Mod.sI gJ).ext vJ λi hi=>by have:=QL.size;omega
def FT{v:Value}{V:Ce->Int}{w:World}(hV:Tl v V w)(hv:kP v=[])(b:Bx)(fp:Value)(hfp:kP fp=[])(p:Int->Bool)(hp:∀(x:Int)(w':World),cC Tryz.prog fp [x] w' λe w''=>e=Value.bool (p x)/\Ext w' w''):
  ah 102 #[v,su b,fp] w λe w'=>e=Value.bool (g8 V b p)/\Ext w w':=by
 apply Ww.vc;intro w0 e0;have x0:=aQ e0;have z0:=eR e0;refine (Wu (hV.ext x0) hv b fp hfp p hp).mono ?_;rintro e w1 ⟨c,rfl,x1⟩;have z1:=x1.size;refine ⟨_,_,_,_,rfl,x1.heap ab,λw6 e6 w7 e7=>⟨rfl,(x0.tr x1).tr ((aQ e6).ag e7 (aC _))⟩⟩
def nU{v:Value}{V:Ce->Int}{w:World}(hV:Tl v V w)(hv:kP v=[])(b:Bx):ah 46 #[v,su b] w λe w'=>e=Value.bool (g8 V b aG)/\Ext w w':=by
 apply Ib.vc;intro w0 e0;have x0:=aQ e0;have z0:=eR e0;refine (FT (hV.ext x0) hv b (.func (.func 103) #[] #[]) rfl aG λx w'=>cX (by kernel_rfl) rfl ((rD x w').mono ?_)).mono ?_
 ·rintro e w'' ⟨rfl,rfl⟩;exact ⟨rfl,Ext.cM _⟩
 rintro e w1 ⟨rfl,x1⟩;exact ⟨_,rfl,x1.heap ab,rfl,x0.tr x1⟩
def my{v:Value}{V:Ce->Int}{w:World}(hV:Tl v V w)(hv:kP v=[])(b:Bx):ah 49 #[v,su b] w λe w'=>e=Value.bool (g8 V (gz b) aG)/\Ext w w':=by apply Ll.vc;intro w0 e0;have x0:=aQ e0;have z0:=eR e0;refine (RU b w0).mono ?_;rintro e w1 ⟨rfl,x1⟩;refine ⟨_,_,_,_,_,_,rfl,x1.heap ab,(nU (hV.ext (x0.tr x1)) hv (gz b)).mono ?_⟩;rintro e w8 ⟨rfl,x8⟩;have z1:=x1.size;exact ⟨_,rfl,x8.heap ab,rfl,x0.tr (x1.tr x8)⟩
abbrev tV:TypeId:=56
abbrev lM:TypeId:=111
abbrev dS:=ee ×(Int × Int × Bool)
abbrev Mw(x:dS):LV:=[.int .i64 x.1.aD.1,.int .i64 x.1.aD.2.1,.int .i64 x.1.aD.2.2,.int .i64 x.1.speed.1,.int .i64 x.1.speed.2.1,.int .i64 x.1.speed.2.2,.int .i64 x.1.wd,.int .i64 x.1.ht,.bool x.1.ir,.int .i64 x.2.1,.int .i64 x.2.2.1,.bool x.2.2.2]
abbrev pA(a:Option Nat):Value:=.pointer (a.map λb=>⟨b,0,none⟩)
structure EL(w:World)(av:List (Option Nat))(L:List (Option dS)):Prop where
 n:av.length=16
 m:L.length=16
 s:∀(i a:Nat),av[i]? =some (some a)->∃x,L[i]? =some (some x)/\Row w a (Mw x) lM
 z:∀i:Nat,av[i]? =some none->L[i]? =some none
 d:∀(i j a:Nat),av[i]? =some (some a)->av[j]? =some (some a)->i=j
def EF(F:Nat->Prop)(w:World)(g s o t:Nat)(M:Sm)(occ:Value)(L:List (Option dS)):Prop:=
 ∃(Fs:Nat->Prop)(av:List (Option Nat)),Row w g (.pointer (aB s)::av.map pA) tV/\SF Fs w s o t M occ/\EL w av L/\F=λi=>i=g\/Fs i\/some i ∈ av
abbrev gO(F:Nat->Prop)(w:World)(g s o t:Nat)(M:Sm)(occ:Value)(L:List (Option dS))(w':World):Prop:=∃F',EF F' w' g s o t M occ L/\aM F F' w w'
def pq:(E8 tV/\tV≠sm/\tV≠kR/\tV≠Bp/\tV≠Q.ku/\tV≠Q.cJ/\tV≠qL)/\(E8 lM/\lM≠sm/\lM≠kR/\lM≠Bp/\lM≠Q.ku/\lM≠Q.cJ/\lM≠qL)/\tV≠lM:=by decide
def qy{av:List (Option Nat)}{a:Nat}(h:some a ∈ av):∃i:Nat,av[i]? =some (some a):=Nd.1 h
section
variable {F F':Nat->Prop} {w w':World} {g s o t:Nat} {M M':Sm} {occ:Value} {L:List (Option dS)}
def EL.same{av:List (Option Nat)}(h:EL w av L)(hk:∀a,some a ∈ av->w'.heap[a]? =w.heap[a]?):EL w' av L:=
 ⟨h.n,h.m,λi a hi=>by obtain ⟨x,h1,h2⟩:=h.s i a hi;exact ⟨x,h1,h2.same (hk a (aX hi))⟩,h.z,h.d⟩
def EL.lt{av:List (Option Nat)}(h:EL w av L){a:Nat}(ha:some a ∈ av):a<w:=by obtain ⟨i,hi⟩:=qy ha;obtain ⟨x,-,h2⟩:=h.s i a hi;exact h2.lt
def EF.lt(h:EF F w g s o t M occ L){i:Nat}(hi:F i):i<w:=by
 obtain ⟨Fs,av,h1,h2,h3,rfl⟩:=h;rcases hi with rfl|hi|hi
 ·exact h1.lt
 ·exact h2.lt hi
 ·exact h3.lt hi
def EF.same(h:EF F w g s o t M occ L)(hk:∀i,F i->w'.heap[i]? =w.heap[i]?):EF F w' g s o t M occ L:=by obtain ⟨Fs,av,h1,h2,h3,rfl⟩:=h;exact ⟨Fs,av,h1.same (hk _ (.inl rfl)),h2.same λi hi=>hk i (.inr (.inl hi)),h3.same λa ha=>hk a (.inr (.inr ha)),rfl⟩
def EF.ext(h:EF F w g s o t M occ L)(x:Ext w w'):EF F w' g s o t M occ L:=h.same λ_ hi=>x.heap (h.lt hi)
def EF.ud(h:EF F w g s o t M occ L):∃Fs,SF Fs w s o t M occ/\Vc.ld w (ae (aB g) 0)=some (.pointer (aB s))/\(∀i,Fs i->F i)/\∀{w':World} {M':Sm} {occ':Value},mB Fs w s o t M' occ' w'->gO F w g s o t M' occ' L w':=by
 obtain ⟨Fs,av,h1,h2,h3,rfl⟩:=h;refine ⟨Fs,h2,h1.at 0 rfl,λi hi=> .inr (.inl hi),?_⟩;rintro w' M' occ' ⟨F',h',ht⟩;have ng:¬Fs g:=h2.j9 h1 pq.1.1 pq.1.2.1 pq.1.2.2.1 pq.1.2.2.2.1 pq.1.2.2.2.2.1 pq.1.2.2.2.2.2.1 pq.1.2.2.2.2.2.2;have na:∀a,some a ∈ av->¬Fs a:=λa ha=>by obtain ⟨i,hi⟩:=qy ha;obtain ⟨x,-,hr⟩:=h3.s i a hi;exact h2.j9 hr pq.2.1.1 pq.2.1.2.1 pq.2.1.2.2.1 pq.2.1.2.2.2.1 pq.2.1.2.2.2.2.1 pq.2.1.2.2.2.2.2.1 pq.2.1.2.2.2.2.2.2
 refine ⟨_,⟨F',av,ht.mod.row h1 ng,h',h3.same λa ha=>ht.mod.same a (h3.lt ha) (na a ha),rfl⟩,ht.mod.mono λi _ hi=> .inr (.inl hi),λi hi=> ?_⟩;rcases hi with hi|hi|hi
 ·exact .inl (.inl hi)
 ·exact (ht.sub i hi).imp (λq=> .inr (.inl q)) id
 ·exact .inl (.inr (.inr hi))
def EF.row(h:EF F w g s o t M occ L):∃av,Row w g (.pointer (aB s)::av.map pA) tV/\EL w av L/\F g/\(∀a,some a ∈ av->F a)/\∀{w':World} {av':List (Option Nat)} {L':List (Option dS)},Mod (λi=>i=g\/some i ∈ av) w w'->Row w' g (.pointer (aB s)::av'.map pA) tV->EL w' av' L'->(∀a,some a ∈ av'->some a ∈ av\/w.heap.size<=a)->gO F w g s o t M occ L' w':=by
 obtain ⟨Fs,av,h1,h2,h3,rfl⟩:=h;refine ⟨av,h1,h3,.inl rfl,λa ha=> .inr (.inr ha),?_⟩;intro w' av' L' hm hr he eX;have ng:¬Fs g:=h2.j9 h1 pq.1.1 pq.1.2.1 pq.1.2.2.1 pq.1.2.2.2.1 pq.1.2.2.2.2.1 pq.1.2.2.2.2.2.1 pq.1.2.2.2.2.2.2;have na:∀a,some a ∈ av->¬Fs a:=λa ha=>by obtain ⟨i,hi⟩:=qy ha;obtain ⟨x,-,hr⟩:=h3.s i a hi;exact h2.j9 hr pq.2.1.1 pq.2.1.2.1 pq.2.1.2.2.1 pq.2.1.2.2.2.1 pq.2.1.2.2.2.2.1 pq.2.1.2.2.2.2.2.1 pq.2.1.2.2.2.2.2.2
 refine ⟨_,⟨Fs,av',hr,h2.same λi hi=>hm.same i (h2.lt hi) λq=> ?_,he,rfl⟩,hm.mono λi _ hi=>hi.elim .inl λq=> .inr (.inr q),λi hi=> ?_⟩
 ·rcases q with rfl|q
  ·exact ng hi
  ·exact na i q hi
 ·rcases hi with hi|hi|hi
  ·exact .inl (.inl hi)
  ·exact .inl (.inr (.inl hi))
  ·exact (eX i hi).imp (λq=> .inr (.inr q)) id
def EF.tl(h:EF F w g s o t M occ L):Tl (.func (.func 83) #[t] #[]) (fj M.T.2) w:=by obtain ⟨Fs,h1,-,-⟩:=h.ud;exact h1.tl
def lO(h:EF F w g s o t M occ L):ah 47 #[g] w λe w'=>e=Value.func (.func 83) #[t] #[]/\w'=w:=by obtain ⟨Fs,h1,h2,-,-⟩:=h.ud;obtain ⟨Fw,hW,-,-⟩:=h1.world;apply xS.vc;refine ⟨_,h2,(fY h1).mono ?_⟩;rintro e w1 ⟨rfl,rfl⟩;refine ⟨_,rfl,(fz hW).mono ?_⟩;rintro e w2 ⟨rfl,rfl⟩;exact ⟨_,rfl,rfl,rfl⟩
def WO(h:EF F w g s o t M occ L):ah 41 #[g] w λe w'=>e=Value.pointer (aB s)/\w'=w:=by obtain ⟨Fs,h1,h2,-,-⟩:=h.ud;apply zQ.vc;exact ⟨_,h2,rfl,rfl⟩
def zS(v:Ce):pW (bq v)/\VW (pos (bq v)):=by have h:=vu v;unfold pW bN VW Go.cZ.pos;simp only;omega
abbrev kT(M:Sm)(b:ee):Bool:=mZ M.T.2 (bq b.aD)
def C3(h:EF F w g s o t M occ L)(b:ee):ah 45 #[g,Er b] w λe w'=>e=Value.bool (kT M b)/\Ext w w':=by
 apply vT.vc;intro w0 e0;have x0:Ext w w0.drew:=(aQ e0).drew;have z0:w0.drew.heap.size=w.heap.size+1:=by show w0.heap.size=_;rw [e0];simp
 have r0:Row w0.drew w (jO b) AV:=by rw [e0];exact (Row.new w [_,_,_,_,_,_,_,_,_] _).ext (Ext.dr _)
 obtain ⟨Fs,h1,h2,-,-⟩:=(h.ext x0).ud;refine ⟨_,h2,(fY h1).mono ?_⟩;rintro e w2 ⟨rfl,hw⟩;subst hw;refine ⟨_,rfl,rfl,sD r0 rfl rfl rfl,(zI b.aD w0.drew).mono ?_⟩;rintro e w4 ⟨rfl,x4⟩;obtain ⟨Fw,hW,-,-⟩:=(h1.ext x4).world;refine ⟨_,_,_,rfl,x4.heap ab,(uo hW (bq b.aD) (zS _).1 (zS _).2).mono ?_⟩;rintro e w8 ⟨rfl,x8⟩;have z4:=x4.size;exact ⟨_,rfl,x8.heap ab,rfl,x0.tr (x4.tr x8)⟩
end
def within(v:Ce)(m:Int):Bool:=decide (-m<=min (min v.1 v.2.1) v.2.2) && decide (max (max v.1 v.2.1) v.2.2<=m)
def ee.may(b:ee):Bool:=decide (2<=b.wd) &&(decide (b.wd<=131072) &&(decide (1<=b.ht) &&(decide (b.ht<=262144) &&(within b.aD 70368744177664 && within b.speed 262144))))
def C4(v:Ce)(m:Int)(hm:0<=m/\m<=140737488355328)(w:World):ah 99 #[eE v,m] w λe w'=>e=Value.bool (within v m)/\Ext w w':=by
 apply Of.vc;intro w0 e0;have x0:=aQ e0;have e1:(if v.2.2<(if v.2.1<v.1 then v.2.1 else v.1) then v.2.2 else (if v.2.1<v.1 then v.2.1 else v.1))=min (min v.1 v.2.1) v.2.2:=by
  repeat' split
  all_goals omega
 have e2:(if v.2.2>(if v.2.1>v.1 then v.2.1 else v.1) then v.2.2 else (if v.2.1>v.1 then v.2.1 else v.1))=max (max v.1 v.2.1) v.2.2:=by
  repeat' split
  all_goals omega
 have e3:ao (0-m)= -m:=by rw [wI];omega
 rw [e1,e2,e3];unfold within;apply Br.mk<;>intro h
 ·have h:=cU h;exact ⟨by rw [decide_eq_true h,pU],x0⟩
 ·have h:=cU h;exact ⟨by rw [decide_eq_false h,C5],x0⟩
def aaJ(b:ee)(w:World):ah 44 #[Er b] w λe w'=>e=Value.bool b.may/\Ext w w':=by
 apply aaK.vc;intro w0 e0;have x0:=aQ e0;have z0:=eR e0;unfold ee.may;refine Br.mk (λh1=>Br.mk (λh2=>Br.mk (λh3=>Br.mk (λh4=>(C4 b.aD _ aF w0).mono ?_) (λh4=> ?_)) (λh3=> ?_)) (λh2=> ?_)) (λh1=> ?_)
 ·rintro e w1 ⟨rfl,x1⟩;have z1:=x1.size;have h1:=cU h1;have h2:=cU h2;have h3:=cU h3;have h4:=cU h4;rw [decide_eq_true h1,decide_eq_true h2,decide_eq_true h3,decide_eq_true h4];refine ⟨_,rfl,x1.heap ab,Br.mk (λh5=>(C4 b.speed _ aF w1).mono ?_) (λh5=>⟨by rw [h5];rfl,x0.tr x1⟩)⟩;rintro e w3 ⟨rfl,x3⟩;exact ⟨_,rfl,x3.heap ab,by rw [h5];rfl,x0.tr (x1.tr x3)⟩
 ·have h4:=cU h4;exact ⟨by rw [decide_eq_false h4];simp,x0⟩
 ·have h3:=cU h3;exact ⟨by rw [decide_eq_false h3];simp,x0⟩
 ·have h2:=cU h2;exact ⟨by rw [decide_eq_false h2];simp,x0⟩
 ·have h1:=cU h1;exact ⟨by rw [decide_eq_false h1];simp,x0⟩
def Lh{w:World}{g:Nat}{p:Value}{av:List (Option Nat)}{τ:TypeId}(hr:Row w g (p::av.map pA) τ){k:Nat}{a:Option Nat}(ha:av[k]? =some a):Vc.ld w (ae (ae (aB g) 1) (((k:Nat):Int).toNat*1))=some (pA a):=by rw [dn,dQ,zh];refine hr.at (1+k) ?_;rw [um,C2,aR,ha];rfl
def xA{w:World}{g:Nat}{p:Value}{av:List (Option Nat)}{τ:TypeId}(hr:Row w g (p::av.map pA) τ)(hn:av.length=16):
  ah 43 #[.slice (aJ (ae (some ⟨g,0,none⟩) 1) 0 16 1) (16-0) (16-0),.pointer none] w λe w'=>e=Value.int .i64 (bX (λa:Option Nat=>a.isNone) av)/\w'=w:=by
 apply (Ac.vc (a0:=⟨aJ (ae (some ⟨g,0,none⟩) 1) 0 16 1,16-0,16-0⟩));rw [eF];refine ⟨λn x wr=>∃k:Nat,x=k/\k+n=16/\wr=w/\∀j,j<k->∀y,av[j]? =some y->y.isNone=false,⟨16,0,rfl,rfl,rfl,λj hj=>by omega⟩,?_⟩;rintro n us x wr ⟨k,rfl,hk,rfl,mO⟩;apply Br.mk<;>intro hb
 ·have hb:(k:Int)<((16-0:Nat):Int):=by simpa using hb
  obtain ⟨a,ha⟩:=bE (l:=av) (i:=k) ab;refine ⟨⟨rfl,by omega,hb⟩,_,Lh hr ha,?_⟩
  cases a with
  |none=>exact ⟨congrArg (λn=>Ending.returned (.int .i64 n)) (oy ha rfl mO).symm,rfl⟩
  |some b=>
   refine bB.2 ⟨λp hp=>by rw [List.mem_singleton.1 hp],?_⟩;have wk:=nS (j:=k);refine fP rfl ⟨n-1,by omega,k+1,wk,by omega,rfl,λj hj y hy=> ?_⟩;by_cases q:j<k
   ·exact mO j q y hy
   ·rw [show j=k from by omega,ha] at hy;rw [<-Option.some.inj hy];rfl
 ·have hb:¬(k:Int)<((16-0:Nat):Int):=by simpa using hb
  refine ⟨congrArg (λn=>Ending.returned (.int .i64 n)) (iT λy hy=> ?_).symm,rfl⟩;obtain ⟨j,hj⟩:=List.mem_iff_getElem?.1 hy;have:=(cG.1 hj).1;exact mO j ab y hj
abbrev qb(L:List (Option dS)):Int:=bX (λx:Option dS=>x.isNone) L
section
variable {F F':Nat->Prop} {w w':World} {g s o t:Nat} {M M':Sm} {occ:Value} {L:List (Option dS)}
def EL.Ae{av:List (Option Nat)}(h:EL w av L)(i:Nat):(av[i]? =some none ↔ L[i]? =some none):=by
 refine ⟨h.z i,λhl=> ?_⟩;have hi:i<16:=by rw [<-h.m];exact (cG.1 hl).1
 obtain ⟨a,ha⟩:=bE (l:=av) (i:=i) (by rw [h.n];exact hi)
 cases a with
 |none=>exact ha
 |some a=>
  obtain ⟨x,hx,-⟩:=h.s i a ha;rw [hx] at hl
  cases hl
def EL.free{av:List (Option Nat)}(h:EL w av L):bX (λa:Option Nat=>a.isNone) av=qb L:=by
 rcases dD (λa:Option Nat=>a.isNone) av with ⟨e,mO⟩|⟨k,x,hx,hq,e,iC⟩
 ·rw [e];refine (iT λy hy=> ?_).symm;obtain ⟨i,hi⟩:=Nd.1 hy
  cases y with
  |some y=>rfl
  |none=>
   have:=mO none (aX ((h.Ae i).2 hi))
   cases this
 ·rw [e]
  cases x with
  |some x=>cases hq
  |none=>
   refine (oy ((h.Ae k).1 hx) rfl λj hj y hy=> ?_).symm
   cases y with
   |some y=>rfl
   |none=>exact absurd (iC j hj none ((h.Ae j).2 hy)) cp
def cR(M:Sm)(L:List (Option dS))(b:ee):Int × Int × List (Option dS):=
 if b.may=false then (-1,1,L) else if qb L<0 then (-1,8,L) else if kT M b=false then (-1,11,L) else if g8 (fj M.T.2) b.box aG=true then (-1,12,L)
 else (qb L,0,L.set (qb L).toNat (some ({b with ir:=g8 (fj M.T.2) (gz b.box) aG},(0,0,false))))
abbrev ft(aD:Ce)(wd ht:Int):ee:=⟨aD,(0,0,0),wd,ht,false⟩
def EF.res(h:EF F w g s o t M occ L)(x:Ext w w'):gO F w g s o t M occ L w':=⟨F,h.ext x,aM.aH x⟩
set_option maxHeartbeats 1000000 in
def xm(h:EF F w g s o t M occ L)(aD:Ce)(wd ht:Int)(hw:bN wd):ah 11 #[.pointer (some ⟨g,0,none⟩),eE aD,wd,ht] w λe w'=>
  e=Value.tuple #[.int .i64 (cR M L (ft aD wd ht)).1,.int .i64 (cR M L (ft aD wd ht)).2.1]/\gO F w g s o t M occ (cR M L (ft aD wd ht)).2.2 w':=by
 apply vY.vc;intro w0 e0 w1 e1 w2 e2;have x0:=aQ e0;have z0:=eR e0;have x2:Ext w0 w2:=(aQ e1).ag e2 (aC _);have z2:=AU e1 e2;have r2:Row w2 w0 (jO (ft aD wd ht)) AV:=by rw [e2];exact Row.set (by rw [e1];exact Row.new w0 [_,_,_,_,_,_,_,_,_] _) _
 have AI:=x0.tr x2;obtain ⟨av,dy,kH,-⟩:=(h.ext AI).row;refine (xA dy kH.n).mono ?_;rintro e w3 ⟨rfl,Re⟩;subst Re;rw [kH.free];refine ⟨_,rfl,rfl,rfl,(aaJ (ft aD wd ht) w3).mono ?_⟩;rintro e w5 ⟨rfl,x5⟩;have z5:=x5.size;refine ⟨_,rfl,x5.k,x5.k,Br.mk (λq=> ?_) (λq=>Br.mk (λq2=> ?_) (λq2=>(C3 (h.ext (AI.tr x5)) (ft aD wd ht)).mono ?_))⟩
 ·have q:(ft aD wd ht).may=false:=by simpa using q
  unfold cR;rw [if_pos q];exact ⟨rfl,h.res (AI.tr x5)⟩
 ·have q:¬(ft aD wd ht).may=false:=by simpa using q
  have q2:qb L<0:=by simpa using q2
  unfold cR;rw [if_neg q,if_pos q2];exact ⟨rfl,h.res (AI.tr x5)⟩
 have q:¬(ft aD wd ht).may=false:=by simpa using q
 have q2:¬qb L<0:=by simpa using q2
 unfold cR;rw [if_neg q,if_neg q2];rintro e w7 ⟨rfl,x7⟩;have z7:=x7.size;have zd7:=lE w7;have x07:=AI.tr (x5.tr x7);refine ⟨_,rfl,x7.k,x7.k,Br.mk (λq3=> ?_) (λq3=>(lO (h.ext (x07.drew))).mono ?_)⟩
 ·have q3:kT M (ft aD wd ht)=false:=by simpa using q3
  rw [if_pos q3];exact ⟨rfl,h.res x07⟩
 have q3:¬kT M (ft aD wd ht)=false:=by simpa using q3
 rw [if_neg q3];rintro e w9 ⟨rfl,hw9⟩;subst hw9;have r9:=r2.ext ((x5.tr x7).drew);have h9:=h.ext x07.drew;refine ⟨_,rfl,rfl,rfl,Lo.wv r9,(kA (ft aD wd ht) hw w7.drew).mono ?_⟩;rintro e bg ⟨rfl,bu⟩;have z11:=bu.size;refine ⟨_,_,_,_,_,_,rfl,bu.k,bu.k,(nU (h9.ext bu).tl rfl (ft aD wd ht).box).mono ?_⟩;rintro e dH ⟨rfl,cA⟩;have z18:=cA.size;have Uc:=x07.drew.tr (bu.tr cA);refine ⟨_,rfl,cA.k,cA.k,Br.mk (λq4=> ?_) (λq4=>(lO (h.ext Uc.drew)).mono ?_)⟩
 ·rw [if_pos q4];exact ⟨rfl,h.res Uc⟩
 rw [if_neg (by rw [q4];decide)];rintro e eW ⟨rfl,auk⟩;subst auk;have r20:=r9.ext ((bu.tr cA).drew);have h20:=h.ext Uc.drew;have aBo:=lE dH;refine ⟨_,rfl,rfl,rfl,Lo.wv r20,(kA (ft aD wd ht) hw dH.drew).mono ?_⟩;rintro e dP ⟨rfl,ef⟩;have z22:=ef.size;refine ⟨_,_,_,_,_,_,rfl,ef.k,ef.k,(my (h20.ext ef).tl rfl (ft aD wd ht).box).mono ?_⟩;rintro e dW ⟨rfl,gn⟩;have z29:=gn.size;have aoD:=Uc.drew.tr (ef.tr gn);refine ⟨_,rfl,gn.k,gn.k,λgf e31 ni Ud=> ?_⟩;generalize gM:g8 (fj M.T.2) (gz (ft aD wd ht).box) aG=st at*;have iD:Ext w gf.drew:=(aoD.ag e31 (by omega)).drew;have z31:gf.drew.heap.size=dW.heap.size:=by show gf.heap.size=_;rw [e31,setRow_size]
 have ic:Ext w ni:=iD.bF Ud;have z32:ni.heap.size=dW.heap.size+1:=by rw [Ud];simp [z31]
 have r32:Row ni gf.drew.heap.size (Mw ({ft aD wd ht with ir:=st},(0,0,false))) lM:=Row.nw Ud;obtain ⟨av,hrow0,hel0,hFg,hFa,bk⟩:=h.row;have dy:=hrow0.ext ic;have kH:=hel0.same (w':=ni) λa ha=>ic.heap (hel0.lt ha)
 have hgl:=h.lt hFg;have MJ:=kH.free;obtain ⟨k,hk,hkL,hka⟩:∃k:Nat,qb L=k/\L[k]? =some none/\av[k]? =some none:=by
  rcases dD (λx:Option dS=>x.isNone) L with ⟨e,-⟩|⟨k,x,hx,hq,e,-⟩
  ·exact absurd (show qb L= -1 from e) (by omega)
  ·cases x with
   |some x=>cases hq
   |none=>exact ⟨k,e,hx,(kH.Ae k).2 hx⟩
 have wg:k<16:=by rw [<-kH.m];exact (cG.1 hkL).1
 rw [hk];have hpb:bz (ae (ae (some ⟨g,0,none⟩) 1) (((k:Nat):Int).toNat*1))=some g:=by rw [c5,c5];rfl
 obtain ⟨p1,p2⟩:=dy.kl (j:=1+k) (v:=.pointer (some ⟨gf.drew.heap.size,0,none⟩)) (by simp [kH.n];omega) rfl;have hpp:ae (ae (some ⟨g,0,none⟩) 1) (((k:Nat):Int).toNat*1)=ae (some ⟨g,0,none⟩) (1+k):=by rw [dn,dQ,Nat.mul_one]
 have hgn:g<w:=hgl;rw [hpb];refine ⟨by omega,by omega,⟨rfl,by rw [hpp];exact p1⟩,λq=>by have:=Option.some.inj q;omega,λq=>by have:=Option.some.inj q;omega,λq=>by have:=Option.some.inj q;omega,λeT YY=>⟨rfl,?_⟩⟩;rw [hpp] at YY;obtain ⟨q1,q2⟩:=p2 eT YY;have q1:Row eT g (.pointer (some ⟨s,0,none⟩)::(av.set k (some gf.drew.heap.size)).map pA) tV:=by
  have e:aS (Value.pointer (some ⟨s,0,none⟩)::av.map pA) (1+k) [.pointer (some ⟨gf.drew.heap.size,0,none⟩)]=.pointer (some ⟨s,0,none⟩)::(av.set k (some gf.drew.heap.size)).map pA:=by show (Value.pointer (some ⟨s,0,none⟩)::av.map pA).set (1+k) _=_;rw [Nat.add_comm,List.set_cons_succ,List.map_set];rfl
  rw [<-e];exact q1
 have halt:∀a,some a ∈ av->a<w.heap.size:=λa ha=>h.lt (hFa a ha)
 have jh:∀a,some a ∈ av->a≠g:=λa ha q=>by subst q;obtain ⟨i,hi⟩:=qy ha;obtain ⟨x,-,hr⟩:=kH.s i a hi;exact dy.ne hr pq.2.2 rfl
 have pH:∀(i a:Nat),(av.set k (some gf.drew.heap.size))[i]? =some (some a)->(i=k/\a=gf.drew.heap.size)\/(i≠k/\av[i]? =some (some a)):=λi a hi=>by
  by_cases q:i=k
  ·subst q;rw [pR (by rw [kH.n];exact wg)] at hi;exact .inl ⟨rfl,(Option.some.inj (Option.some.inj hi)).symm⟩
  ·rw [List.getElem?_set_ne (Ne.symm q)] at hi;exact .inr ⟨q,hi⟩
 have hE:EL eT (av.set k (some gf.drew.heap.size)) (L.set k (some ({ft aD wd ht with ir:=st},(0,0,false)))):=by
  refine ⟨by rw [gW];exact kH.n,by rw [gW];exact kH.m,λi a hi=> ?_,λi hi=> ?_,λi j a hi hj=> ?_⟩
  ·rcases pH i a hi with ⟨rfl,rfl⟩|⟨q,hi'⟩
   ·refine ⟨_,pR (by rw [kH.m];exact wg),r32.same (q2.same _ (by omega) (by omega))⟩
   ·obtain ⟨x,hx,hr⟩:=kH.s i a hi';exact ⟨x,by rw [List.getElem?_set_ne (Ne.symm q)];exact hx,hr.same (q2.same _ hr.lt (jh a (aX hi')))⟩
  ·by_cases q:i=k
   ·subst q;rw [pR (by rw [kH.n];exact wg)] at hi
    cases hi
   ·rw [List.getElem?_set_ne (Ne.symm q)] at hi ⊢;exact kH.z i hi
  ·rcases pH i a hi with ⟨rfl,rfl⟩|⟨q,hi'⟩
   ·rcases pH j _ hj with ⟨rfl,-⟩|⟨q',hj'⟩
    ·rfl
    ·have:=halt _ (aX hj');omega
   ·rcases pH j a hj with ⟨rfl,rfl⟩|⟨q',hj'⟩
    ·have:=halt _ (aX hi');omega
    ·exact kH.d i j a hi' hj'
 exact bk ((Mod.aH ic).trans (q2.mono λi _ hi=> .inl hi)) q1 hE λa ha=>by
  obtain ⟨i,hi⟩:=qy ha;rcases pH i a hi with ⟨-,rfl⟩|⟨-,hi'⟩
  ·have:=aoD.size;exact .inr (by omega)
  ·exact .inl (aX hi')
end
section
variable {F F':Nat->Prop} {w w':World} {g s o t:Nat} {M M':Sm} {occ:Value} {L:List (Option dS)}
def LA{p:Value}{av:List (Option Nat)}{τ:TypeId}(hr:Row w g (p::av.map pA) τ)(hn:av.length=16)(n:Int):
  ah 50 #[g,n] w λe w'=>∃a:Option Nat,e=(pA a)/\w'=w/\((∃k:Nat,n=k/\k<16/\av[k]? =some a)\/¬(0<=n/\n<16)/\a=none):=by
 apply BY.vc;refine Br.mk (λh=>⟨none,rfl,rfl,.inr ⟨?_,rfl⟩⟩) (λh=>Br.mk (λh2=>⟨none,rfl,rfl,.inr ⟨?_,rfl⟩⟩) (λh2=> ?_))
 ·have h:=cU h;omega
 ·have h2:=cU h2;omega
 ·have h:=cU h;have h2:=cU h2;obtain ⟨k,rfl⟩:∃k:Nat,n=k:=⟨n.toNat,by omega⟩;obtain ⟨a,ha⟩:=bE (l:=av) (i:=k) ab;exact ⟨by omega,by omega,_,Lh hr ha,a,rfl,rfl,.inl ⟨k,rfl,by omega,ha⟩⟩
def cj(L:List (Option dS))(n:Int):Option dS:=if 0<=n then (L[n.toNat]?).join else none
def nv(L:List (Option dS))(n:Int):Int × List (Option dS):=if (cj L n).isNone then (6,L) else (0,L.set n.toNat none)
def EL.amK{av:List (Option Nat)}(h:EL w av L){k:Nat}{a:Option Nat}(ha:av[k]? =some a):(cj L k).isNone=a.isNone:=by
 unfold cj;rw [if_pos ab,dQ]
 cases a with
 |none=>rw [h.z k ha];rfl
 |some a=>
  obtain ⟨x,hx,-⟩:=h.s k a ha;rw [hx];rfl
def vz(hL:L.length=16){n:Int}(h:¬(0<=n/\n<16)):cj L n=none:=by
 unfold cj;split
 ·rw [jS ab];rfl
 ·rfl
def I9(h:EF F w g s o t M occ L)(n:Int):ah 13 #[g,n] w λe w'=>e=Value.int .i64 (nv L n).1/\gO F w g s o t M occ (nv L n).2 w':=by
 obtain ⟨av,dy,kH,hFg,hFa,bk⟩:=h.row;apply yh.vc;refine (LA dy kH.n n).mono ?_;rintro e w0 ⟨a,rfl,rfl,hc⟩;refine ⟨_,rfl,?_⟩;unfold nv;rcases hc with ⟨k,rfl,hk,ha⟩|⟨AT,rfl⟩
 ·rw [kH.amK ha]
  cases a with
  |none=>exact yes rfl ⟨rfl,h.res (Ext.cM _)⟩
  |some a=>
   refine fP rfl ?_;have hpp:ae (ae (aB g) 1) (((k:Nat):Int).toNat*1)=ae (aB g) (1+k):=by rw [dn,dQ,zh]
   obtain ⟨p1,p2⟩:=dy.kl (j:=1+k) (v:=.pointer none) (by simp [kH.n];omega) rfl;refine ⟨by omega,by omega,⟨rfl,by rw [hpp];exact p1⟩,λw2 e2=>⟨rfl,?_⟩⟩;rw [hpp] at e2;obtain ⟨q1,q2⟩:=p2 w2 e2;have q1:Row w2 g (.pointer (aB s)::(av.set k none).map pA) tV:=by
    have e:aS (Value.pointer (aB s)::av.map pA) (1+k) [.pointer none]=.pointer (aB s)::(av.set k none).map pA:=by show (Value.pointer (aB s)::av.map pA).set (1+k) _=_;rw [um,aaI,jC];rfl
    rw [<-e];exact q1
   have jh:∀a,some a ∈ av->a≠g:=λa ha q=>by subst q;obtain ⟨i,hi⟩:=qy ha;obtain ⟨x,-,hr⟩:=kH.s i a hi;exact dy.ne hr pq.2.2 rfl
   have pH:∀(i a:Nat),(av.set k none)[i]? =some (some a)->i≠k/\av[i]? =some (some a):=λi a hi=>by
    by_cases q:i=k
    ·subst q;rw [pR (by rw [kH.n];exact hk)] at hi
     cases hi
    ·rw [Aa (Ne.symm q)] at hi;exact ⟨q,hi⟩
   show gO F w0 g s o t M occ (L.set ((k:Nat):Int).toNat none) w2;refine bk (q2.mono λi _ hi=> .inl hi) q1 ⟨by rw [gW];exact kH.n,by rw [gW];exact kH.m,λi a hi=> ?_,λi hi=> ?_,λi j a hi hj=> ?_⟩ λa ha=> ?_
   ·obtain ⟨q,hi'⟩:=pH i a hi;obtain ⟨x,hx,hr⟩:=kH.s i a hi';exact ⟨x,by rw [dQ,Aa (Ne.symm q)];exact hx,hr.same (q2.same _ hr.lt (jh a (aX hi')))⟩
   ·rw [dQ];by_cases q:i=k
    ·subst q;exact pR (by rw [kH.m];exact hk)
    ·rw [Aa (Ne.symm q)] at hi ⊢;exact kH.z i hi
   ·exact kH.d i j a (pH i a hi).2 (pH j a hj).2
   ·obtain ⟨i,hi⟩:=qy ha;exact .inl (aX (pH i a hi).2)
 ·rw [vz kH.m AT];exact yes rfl ⟨rfl,h.res (Ext.cM _)⟩
def cQ(L:List (Option dS)):List Int:=((List.range 16).filter λi=>(cj L (i:Nat)).isSome).map λi:Nat=>(i:Int)
def UR{α:Type}{l:List α}(h:l.length=16):∃a b c d e f g h i j k m n o p q,l=[a,b,c,d,e,f,g,h,i,j,k,m,n,o,p,q]:=by
 match l,h with
 | [a,b,c,d,e,f,g,h,i,j,k,m,n,o,p,q],_=>exact ⟨a,b,c,d,e,f,g,h,i,j,k,m,n,o,p,q,rfl⟩
set_option maxHeartbeats 1000000 in
def Xw(h:EF F w g s o t M occ L):ah 12 #[g] w λe w'=>∃sl:Sl,e=Value.slice sl.a sl.n sl.c/\aE w 3 1 w' sl ((cQ L).map λi=> [.int .i64 i])/\Ext w w':=by
 obtain ⟨av,dy,kH,-⟩:=h.row;apply yi.vc;have kf:af w (ae (aB g) 1) 0 (av.map pA):=by rw [bh];exact dy.bY λj hj=>by rw [show 0+1+j=j+1 from by omega,C2]
 have gu:∀k:Nat,k<16->∃a:Option Nat,(av.map pA)[((k:Nat):Int).toNat*1]? =some (pA a)/\(cj L k).isNone=a.isNone:=λk hk=>by obtain ⟨a,ha⟩:=bE (l:=av) (i:=k) (by rw [kH.n];exact hk);exact ⟨a,by rw [dQ,zh,aR,ha];rfl,kH.amK ha⟩
 obtain ⟨b0,b1,b2,b3,b4,b5,b6,b7,b8,b9,b10,ZH,b12,Hn,b14,Vu,rfl⟩:=UR kH.n;refine ⟨_,_,_,_,_,_,_,_,_,_,_,_,_,_,_,_,kf,λn x sl wr=>∃k:Nat,x=k/\k+n=16/\aE w 3 1 wr sl ((((List.range k).filter λi=>(cj L (i:Nat)).isSome).map λi:Nat=>(i:Int)).map λi=> [.int .i64 i])/\Ext w wr,⟨16,0,rfl,rfl,aE.nil,Ext.cM _⟩,?_⟩;rintro n us x sl wr ⟨k,rfl,hk,ho,xr⟩;have zr:=xr.size;apply Br.mk<;>intro hb
 ·replace hb:=nA hb;obtain ⟨a,ha,hl⟩:=gu k ab;have wk:=nS (j:=k);have dN:sl.n<=16:=by have h1:=(ho.rd (show 0<1 by decide)).n;have h2:=wM (λi=>(cj L (i:Nat)).isSome) (List.range k);rw [aN,aN] at h1;rw [C1] at h2;omega
  refine ⟨⟨by omega,by omega⟩,_,ha,Br.mk (λhq=>λgl IB=> ?_) (λhq=> ?_)⟩
  ·subst IB;have hsome:(cj L (k:Nat)).isSome=true:=by
    cases a with
    |none=>exact absurd hq cp
    |some a=>
     cases hL:cj L k with
     |none=>rw [hL] at hl;cases hl
     |some y=>rfl
   obtain ⟨D7,hres8⟩:=ho.jk (bytes:=8) (news:=[.int .i64 (k:Int)]) (.cells #[.int .i64 (k:Int)] 3) ab rfl (uu _ _) ab ab;refine ⟨D7,λs25 fx au1=> ?_⟩;obtain ⟨f8,yM,hn8,x8,Hj,-⟩:=hres8 s25 fx au1;refine ⟨f8,n-1,by omega,k+1,wk,by omega,?_,(Below.trans xr x8:Below w w fx)⟩;rw [wQ,qc,bW,bW,Jw (by simpa using hsome)];exact yM
  ·have hnone:(cj L (k:Nat)).isSome=false:=by
    cases a with
    |some a=>exact absurd hq cp
    |none=>
     cases hL:cj L k with
     |none=>rfl
     |some y=>rw [hL] at hl;cases hl
   refine ⟨n-1,by omega,k+1,wk,by omega,?_,xr⟩;rw [wQ,qc,bW,bW,Jy (by rw [hnone];decide)];simpa using ho
 ·replace hb:=nN hb;have wg:k=16:=by omega
  subst wg;exact ⟨sl,rfl,ho,xr⟩
end
abbrev M0e(ak cap room bud:Int):Sm:=⟨ak,min (max cap 1) 16,(Mu room,[]),[],⟨4096,0,[]⟩,min (max bud 1) 64,0,[]⟩
abbrev noL:List (Option dS):=List.replicate 16 none
def JZ(ak cap room bud:Int)(w:World):ah 38 #[.agg #[ak,cap,room,bud]] w λe w'=>
  ∃(g s o t:Nat)(F:Nat->Prop),e=Value.pointer (aB g)/\EF F w' g s o t (M0e ak cap room bud) (.func (.func 98) #[] #[]) noL/\Ext w w'/\∀i,F i->w.heap.size<=i:=by
 apply SY.vc;intro w0 e0;have x0:Ext w w0.drew:=(aQ e0).drew;have z0:w0.drew.heap.size=w.heap.size+1:=by show w0.heap.size=_;rw [e0];simp
 have r0:∃τ,Row w0.drew w [ak,cap,room,bud] τ:=⟨_,by rw [e0];exact (Row.new w [_,_,_,_] _).ext (Ext.dr _)⟩;obtain ⟨τ,r0⟩:=r0;refine (Jl ak cap room w0.drew).mono ?_;rintro e w1 ⟨o,t,Fw,rfl,hW,x1,fW⟩;have z1:=x1.size;refine ⟨_,rfl,x1.heap ab,m7 (r0.ext x1) rfl,(Da hW bud).mono ?_⟩;rintro e w3 ⟨s,F,rfl,hS,x3,fS⟩;have z3:=x3.size;refine ⟨_,rfl,x3.heap ab,λw5 e5=> ?_⟩;have x5:=aQ e5;have r5:Row w5 w3 (.pointer (aB s)::(List.replicate 16 none).map pA) tV:=Row.nw e5;have mO:∀(i a:Nat),(List.replicate 16 (none:Option Nat))[i]? =some (some a)->False:=λi a hi=>by
  have:=List.eq_of_mem_replicate (aX hi)
  cases this
 have kH:EL w5 (List.replicate 16 none) noL:=⟨rfl,rfl,λi a hi=>(mO i a hi).elim,λi hi=>List.getElem?_replicate_of_lt (by
  have HH:=(cG.1 hi).1;rw [Gt] at HH;exact HH),λi j a hi=>(mO i a hi).elim⟩
 refine ⟨w3.heap.size,s,o,t,_,rfl,⟨F,_,r5,hS.ext x5,kH,rfl⟩,x0.tr (x1.tr (x3.tr x5)),λi hi=> ?_⟩;rcases hi with rfl|hi|hi
 ·omega
 ·rcases fS i hi with q|q
  ·have:=fW i q;omega
  ·omega
 ·cases List.eq_of_mem_replicate hi
def ajU(ak limit room:Int){l:List En}(hl:(l.length:Int)<limit){p:Po}(hp:tp p)(hn:∀e ∈ l,e.1≠p):DK ak limit (Mu room) l p=((Mu room,l++ [(p,made ak p,false,0)]),0):=by
 have hr:fo limit (Mu room) l=((Mu room,l),0):=by unfold fo;rw [if_pos hl]
 have hd:(Jo (Mu room) (Du p)).1=[]:=by unfold Mu;rw [afm]
 have hf:bX (λe:En=>e.1==p) l= -1:=iT λy hy=>by simpa using hn y hy
 unfold DK;rw [if_neg (by simpa using hp),if_neg (by rw [hf];decide),hr,if_neg cp];simp only [hd,Tt]
def uA:List Po:=[(-1,-1),(-1,0),(-1,1),(0,-1),(0,0),(0,1),(1,-1),(1,0),(1,1)]
def l9(ak:Int)(k:Nat):List En:=(uA.take k).map λp=>(p,made ak p,false,0)
def ajV(ak:Int){k:Nat}(hk:k<=9):(l9 ak k).length=k:=by unfold l9;rw [aN,dK];have:uA.length=9:=rfl;omega
def KY{k:Nat}{p:Po}(hp:uA[k]? =some p):tp p/\p ∉ uA.take k:=by
 have hk:k<9:=(cG.1 hp).1;have:k=0\/k=1\/k=2\/k=3\/k=4\/k=5\/k=6\/k=7\/k=8:=by omega
 rcases this with rfl|rfl|rfl|rfl|rfl|rfl|rfl|rfl|rfl<;>(cases hp;decide)
def af9(ak:Int){k:Nat}{p:Po}(hp:uA[k]? =some p):l9 ak (k+1)=l9 ak k++ [(p,made ak p,false,0)]:=by unfold l9;rw [dR,hp,bW];rfl
def am1(ak cap room:Int)(hc:9<=cap){k:Nat}{p:Po}(hp:uA[k]? =some p):DK ak cap (Mu room) (l9 ak k) p=((Mu room,l9 ak (k+1)),0):=by
 have hk:k<9:=(cG.1 hp).1;rw [ajU ak cap room (by rw [ajV ak ab];omega) (KY hp).1 (λe he q=>by obtain ⟨x,hx,rfl⟩:=aW.1 he;exact (KY hp).2 (q▸hx)),af9 ak hp]
def aga{i j:Nat}(hi:i<3)(hj:j<3):uA[3*i+j]? =some (-1+(i:Int),-1+(j:Int)):=by
 have h1:i=0\/i=1\/i=2:=by omega
 have h2:j=0\/j=1\/j=2:=by omega
 rcases h1 with rfl|rfl|rfl<;>rcases h2 with rfl|rfl|rfl<;>rfl
def Hf{F:Nat->Prop}{w:World}{o t:Nat}{ak cap room:Int}(h:WF F w o t ak cap (Mu room,l9 ak 0) [])(hc:9<=cap):
  ah 42 #[o] w λe w'=>e=true/\HY F w o t ak cap (Mu room,l9 ak 9) [] w':=by
 apply TJ.vc;refine (pV h).mono ?_;rintro e w0 ⟨rfl,rfl⟩;refine ⟨_,rfl,fP rfl ⟨λn x wr=>∃(i:Nat)(F':Nat->Prop),x= -1+i/\i+n=3/\WF F' wr o t ak cap (Mu room,l9 ak (3*i)) []/\aM F F' w0 wr,⟨3,0,F,rfl,rfl,h,aM.refl _ _⟩,?_⟩⟩;rintro n us x wr ⟨i,F1,rfl,hi,h1,t1⟩;apply Br.mk<;>intro hb
 ·have hb:=cU hb;refine ⟨λm y wr=>∃(j:Nat)(F':Nat->Prop),y= -1+j/\j+m=3/\WF F' wr o t ak cap (Mu room,l9 ak (3*i+j)) []/\aM F F' w0 wr,⟨3,0,F1,rfl,rfl,h1,t1⟩,?_⟩;rintro m yI y TM ⟨j,F2,rfl,hj,h2,t2⟩;apply Br.mk<;>intro kE
  ·have kE:=cU kE;have hp:=aga (i:=i) (j:=j) ab ab;have kf:=am1 ak cap room hc hp;refine (pO h2 (g7 _) (-1+(i:Int),-1+(j:Int))).mono ?_;rintro e bO ⟨rfl,hr⟩;rw [kf] at hr;obtain ⟨F3,h3,t3⟩:=hr;refine ⟨_,rfl,?_⟩;have wk:ao (-1+(j:Int)+1)= -1+((j+1:Nat):Int):=by rw [wI];omega
   refine fP (by rw [kf];rfl) ⟨m-1,by omega,j+1,F3,wk,by omega,h3,t2.trans t3⟩
  ·have kE:=cU kE;have hj3:j=3:=by omega
   subst hj3;have wk:ao (-1+(i:Int)+1)= -1+((i+1:Nat):Int):=by rw [wI];omega
   exact ⟨n-1,by omega,i+1,F2,wk,by omega,by rw [show 3*(i+1)=3*i+3 from by omega];exact h2,t2⟩
 ·have hb:=cU hb;have hi3:i=3:=by omega
  subst hi3;exact ⟨rfl,F1,h1,t1⟩
abbrev UF(ak cap bud:Int):Sm:=⟨ak,min (max cap 1) 16,(Mu 1000000,l9 ak 9),[],⟨4096,0,[]⟩,min (max bud 1) 64,0,[]⟩
abbrev uz:TypeId:=101
abbrev CR:TypeId:=117
abbrev zl:LV:=[.bool false,.int .i64 0,.int .i64 0,.int .i64 0,.int .i64 0,.int .i64 0,.int .i64 0,.int .i64 0,.int .i64 0,.bool false,.int .i64 0,.int .i64 0,.bool false]
abbrev YK:Value:=.func (.func 98) #[] #[]
set_option maxHeartbeats 1000000 in
def KZ(ak bud cap:Int)(hc:9<=cap)(w:World):ah 9 #[ak,bud,cap] w λe w'=>
  ∃(g s o t:Nat)(F:Nat->Prop)(m b s' o' t':Nat)(F':Nat->Prop),e=Value.tuple #[g,m]/\EF F w' g s o t (UF ak cap bud) YK noL/\
   SF F' w' s' o' t' (UF ak cap bud) YK/\Row w' m [o',s',.slice (aB b) 16 16] uz/\Row w' b (bo zl 16) CR/\
   (∀i,F i->¬F' i)/\(∀i,F i->w.heap.size<=i)/\(∀i,F' i->w.heap.size<=i)/\w.heap.size<=m/\w.heap.size<=b/\Ext w w':=by
 have YV:9<=min (max cap 1) 16:=by omega
 apply Qh.vc;refine (JZ ak cap 1000000 bud w).mono ?_;rintro e w0 ⟨g,s,o,t,F,rfl,hE,x0,fF⟩;have z0:=x0.size;refine ⟨_,rfl,(Jl ak cap 1000000 w0).mono ?_⟩;rintro e w2 ⟨o',t',Fw,rfl,hW,x2,fW⟩;have z2:=x2.size;refine ⟨_,rfl,fP rfl (fP rfl ((Da hW bud).mono ?_))⟩;rintro e w4 ⟨s',Fm,rfl,hS,x4,fS⟩;have z4:=x4.size;have Dp:=x0.tr (x2.tr x4);have hE4:=hE.ext (x2.tr x4);have hdj:∀i,F i->¬Fm i:=λi hi hm=>by
  have:=hE.lt hi;rcases fS i hm with q|q
  ·have:=fW i q;omega
  ·omega
 have fM:∀i,Fm i->w.heap.size<=i:=λi hi=>by
  rcases fS i hi with q|q
  ·have:=fW i q;omega
  ·omega
 refine ⟨_,rfl,fP rfl (fT rfl (fT rfl ?_))⟩;obtain ⟨Fs,hs,kf,-,-⟩:=hE4.ud;obtain ⟨Fv,hV,-,-⟩:=hs.world;refine ⟨_,kf,(fY hs).mono ?_⟩;rintro e w7 ⟨rfl,hw7⟩;subst hw7;refine ⟨_,rfl,fP rfl ((WO hE4).mono ?_)⟩;rintro e w9 ⟨rfl,hw9⟩;subst hw9;obtain ⟨Fu,hU,-,bk⟩:=hS.world;refine ⟨_,rfl,fP rfl ((fz hU).mono ?_)⟩;rintro e bg ⟨rfl,Ug⟩;subst Ug;refine ⟨_,rfl,?_⟩;rw [O9,Dc,qS];refine fP rfl (fT rfl (fT rfl ⟨_,kf,(fY hs).mono ?_⟩));rintro e bO ⟨rfl,aly⟩;subst aly;refine ⟨_,rfl,(fz hV).mono ?_⟩;rintro e cF ⟨rfl,aw7⟩;subst aw7;refine ⟨_,rfl,?_⟩;rw [O9,Dc,qS];refine fP rfl ((Hf (room:=1000000) hU YV).mono ?_);rintro e dH ⟨rfl,hr⟩;obtain ⟨F2,Uj,t2⟩:=bk hr;have aw8:EF F dH g s o t _ YK noL:=hE4.same λi hi=>t2.mod.same i (hE4.lt hi) (hdj i hi)
 have hdj2:∀i,F i->¬F2 i:=λi hi hm=>by
  rcases t2.sub i hm with q|q
  ·exact hdj i hi q
  ·have:=hE4.lt hi;omega
 obtain ⟨aw9,fM2⟩:=t2.fresh Dp fM;refine ⟨_,rfl,fP rfl (fT rfl (fT rfl ?_))⟩;obtain ⟨Fs,hs,kf,-,hresE⟩:=aw8.ud;obtain ⟨Fv,hV,-,hresS⟩:=hs.world;refine ⟨_,kf,(fY hs).mono ?_⟩;rintro e eZ ⟨rfl,axa⟩;subst axa;refine ⟨_,rfl,(Hf (room:=1000000) hV YV).mono ?_⟩;rintro e eP ⟨rfl,hr⟩;obtain ⟨F3,hE3,t3⟩:=hresE (hresS hr);have axb:SF F2 eP s' o' t' (UF ak cap bud) YK:=Uj.same λi hi=>t3.mod.same i (Uj.lt hi) λq=>hdj2 i q hi
 have hdj3:∀i,F3 i->¬F2 i:=λi hi hm=>by
  rcases t3.sub i hi with q|q
  ·exact hdj2 i q hm
  ·have:=Uj.lt hm;omega
 obtain ⟨ap0,fF3⟩:=t3.fresh aw9 fF;have z23:=ap0.size;refine ⟨_,rfl,fP rfl ?_⟩;have last:∀cW:World,cW=eP.drew.alloc (.cells (bo zl (16:Int).toNat).toArray CR)->∀fx:World,fx=cW.alloc (.cells #[o',s',.slice (aB eP.drew.heap.size) (16:Int).toNat (16:Int).toNat] uz)->
   ∃(g2 s2 o2 t2:Nat)(F:Nat->Prop)(m b s' o' t':Nat)(F':Nat->Prop),Ending.returned (.tuple #[g,.pointer (aB cW.heap.size)])=Value.tuple #[g2,m]/\EF F fx g2 s2 o2 t2 (UF ak cap bud) YK noL/\
   SF F' fx s' o' t' (UF ak cap bud) YK/\Row fx m [o',s',.slice (aB b) 16 16] uz/\Row fx b (bo zl 16) CR/\
   (∀i,F i->¬F' i)/\(∀i,F i->w.heap.size<=i)/\(∀i,F' i->w.heap.size<=i)/\w.heap.size<=m/\w.heap.size<=b/\Ext w fx:=by
  intro cW yA fx A1;have dY:Ext eP cW:=(Ext.dr eP).bF yA;have fg:=aQ A1;have z25:=dY.size;have rb:Row cW eP.drew.heap.size (bo zl 16) CR:=by rw [yA];exact Row.new eP.drew (bo zl 16) _
  have rm:Row fx cW [o',s',.slice (aB eP.drew.heap.size) 16 16] uz:=Row.nw A1;exact ⟨g,s,o,t,F3,_,_,_,_,_,F2,rfl,hE3.ext (dY.tr fg),axb.ext (dY.tr fg),rm,rb.ext fg,hdj3,fF3,fM2,by omega,z23,ap0.tr (dY.tr fg)⟩
 exact ⟨⟨by decide,λcW yA=>⟨⟨λfx A1=>last cW yA fx A1,λfx A1=>last cW yA fx A1⟩,λfx A1=>last cW yA fx A1⟩⟩,⟨by decide,λcW yA fx A1=>last cW yA fx A1⟩⟩
def LU(w:World):ah 14 #[] w λe w'=>e=true/\Ext w w':=by
 apply Qi.vc;refine (JZ 0 1 0 0 w).mono ?_;rintro e w0 ⟨g,s,o,t,F,rfl,hE,x0,fF⟩;refine ⟨_,rfl,fP rfl ((xm hE (0,0,0) 100 100 (by unfold bN;omega)).mono ?_)⟩;have hsp:cR (M0e 0 1 0 0) noL (ft (0,0,0) 100 100)=(-1,11,noL):=by unfold cR;rw [if_neg aF,if_neg aF,if_pos aF]
 rw [hsp];rintro e w2 ⟨rfl,F2,-,t2⟩;exact ⟨_,_,rfl,yes rfl ⟨rfl,(t2.fresh x0 fF).1⟩⟩
end Go.Proofs.YtkkkfkopcfdmaaaGreatDoor
