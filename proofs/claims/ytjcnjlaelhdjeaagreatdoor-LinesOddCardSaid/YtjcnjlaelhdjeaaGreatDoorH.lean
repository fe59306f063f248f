import Derived.Test.YtjcnjlaelhdjeaaGreatDoorG
import Derived.Test.YtjcnjlaelhdjeaaGreatDoorE
import Derived.Test.YtjcnjlaelhdjeaaGreatDoorD
set_option linter.all false
namespace Go.Proofs.YtjcnjlaelhdjeaaGreatDoor
open Go Go.Vc Go.RowKit Go.Proofs Go.bW Go.aN Go.Code Go.dS Go.ej Go.fY
set_option maxRecDepth 100000
set_option maxHeartbeats 8000000
abbrev iq:aB:=73
abbrev xB(b:Bx):aC:=.agg #[b.1.1,b.1.2.1,b.1.2.2,b.2.1,b.2.2.1,b.2.2.2]
def awC(n:Int):(if 140737488355328<(if(-140737488355328)>n then(-140737488355328)else n)then 140737488355328 else(if(-140737488355328)>n then(-140737488355328)else n))=dD n:=by
 unfold dD
 repeat' split
 all_goals omega
def gV(n:Int)(w:au):kh 257 #[n] w (S (dD n)):=by apply aa6.B;exact⟨by rw[awC],rfl⟩
def aa7(a b:Int)(w:au):kh 268 #[a,b] w (vc .i64 (dU a b)):=by apply aa8.B;refine(gV a w).mono ?_;rintro e w1 ⟨rfl,rfl⟩;refine⟨_,rfl,(gV b w1).mono ?_⟩;rintro e w2 ⟨rfl,rfl⟩;have h1:=sw a;have h2:=sw b;refine⟨_,rfl,?_⟩;rw[wI];refine(gV _ w2).mono ?_;rintro e w3 ⟨rfl,rfl⟩;exact⟨_,rfl,rfl,rfl⟩
def JZ(a b:Int)(w:au):kh 270 #[a,b] w (vc .i64 (nh a b)):=by apply aa9.B;refine(gV a w).mono ?_;rintro e w1 ⟨rfl,rfl⟩;refine⟨_,rfl,(gV b w1).mono ?_⟩;rintro e w2 ⟨rfl,rfl⟩;have h1:=sw a;have h2:=sw b;refine⟨_,rfl,?_⟩;rw[wI];refine(gV _ w2).mono ?_;rintro e w3 ⟨rfl,rfl⟩;exact⟨_,rfl,rfl,rfl⟩
def q_:(2^(min (16:Int).toNat 64):Int)=65536:=by decide
def pd(n:Int)(w:au):kh 198 #[n] w (S (bY n)):=by apply Sr.B;refine(gV n w).V ?_;rw[q_];exact⟨_,rfl,by rw[tj _ X];rfl,rfl⟩
def aba{x:Int}(h: -140737488355328<=x/\x<=140737488355328):tI .i64 x 65535=x%65536:=by
 unfold tI;have e:(Ok IntKind.i64.bits x &&&Ok IntKind.i64.bits 65535).toNat=(x%65536).toNat:=by
  show(Ok 64 x &&&Ok 64 65535).toNat=_;rw[zL];have h1:(Ok 64 65535).toNat=2^16-1:=by decide
  rw[h1,Nat.and_two_pow_sub_one_eq_mod,zg];omega
 rw[e,Int.toNat_of_nonneg U];exact wI
def BH(n:Int)(w:au):kh 355 #[n] w (S (uL n)):=by apply VW.B;refine(gV n w).V ?_;exact⟨_,rfl,by rw[aba (sw n)];rfl,rfl⟩
def sB(n:Int)(w:au):kh 213 #[n] w (S (uM n)):=by
 apply afp.B;rw[q_];have e:(if 2147483648<(if(-2147483648)>n then(-2147483648)else n)then 2147483648 else(if(-2147483648)>n then(-2147483648)else n))=min (max n (-2147483648)) 2147483648:=by
  repeat' split
  all_goals omega
 rw[e,wI];exact⟨rfl,rfl⟩
def ane(p q r:ai):One [.pointer p,q,r]:=a0l
def HO(a:Addr)(w:au):ed 271 #[a] w (vI #[.pointer (N (some a) 0),.pointer (N (some a) 1),.pointer (N (some a) 2)]):=by
 apply abb.B;intro w0 e0;have x0:Ext w w0.drew:=(aU e0).drew;have hr:Row w0.drew w [i_,i_,i_] 311:=by rw[e0];exact(Row.new w [_,_,_] _).ext (Ext.K _)
 refine⟨⟨rfl,hr.wr bo⟩,λw1 e1=>?_⟩;rw[hr.bB (vs:=[.pointer (N (some a) 0),.pointer (N (some a) 1),.pointer (N (some a) 2)]) bo (ane _ _ _),dC bo]at e1;have hr1:Row w1 w [.pointer (N (some a) 0),.pointer (N (some a) 1),.pointer (N (some a) 2)] 311:=hr.st e1;exact⟨_,_,_,Lo.wv hr1,rfl,x0.L e1 (ak _)⟩
def VX(f:Int->Int->Int)(v:Ce)(k:Nat):LV:=[S (if 0<k then f 0 v.1 else v.1),S (if 1<k then f 1 v.2.1 else v.2.1),S (if 2<k then f 2 v.2.2 else v.2.2)]
def vO(f:Int->Int->Int)(v:Ce)(fv:aC)(w:au)(hf:∀w',Ext w w'->∀i x:Int,0<=i->i<3->bu Tryz.prog fv [S i,S x] w' λe w''=>e=S (f i x)/\Ext w' w''): ed 266 #[fQ v,fv] w ((fQ (Gl f v))):=by
 apply afq.B;intro w0 e0 w1 e1;have x0:=aU e0;have z0:=fD e0;have r0:Row w0 w (VX f v 0) iq:=Row.nw e0;have x1:=aU e1;have z1:=fD e1;refine(HO ⟨w.heap.size,0,none⟩ w1).F λw2 x2=>?_
 have z2:=x2.size;refine⟨_,_,_,rfl,x2.k,λn x wr=>∃k:Nat,x=k/\k+n=3/\Row wr w (VX f v k) iq/\Ext w wr/\w2.heap.size<=wr,⟨3,rfl,0,rfl,rfl,r0.ext (x1.A x2),x0.A (x1.A x2),ak _⟩,?_⟩;rintro n us x wr ⟨k,rfl,hk,hr,xr,zr⟩;have hl:∀k,(VX f v k).length=3:=λ_=>rfl
 have wk:=nE (j:=k);apply Z.mk<;>intro hb
 ·replace hb:=lM hb;have H6:k=0\/k=1\/k=2:=by omega
  have step:∀(j:Nat)(y:Int),k=j->j<3->(VX f v j)[j]? =some (S y)->putCells (VX f v j) j [(f j y)]=VX f v (j+1)->
    aO (eE (N (O w.heap.size) j)) (∃(cJ:Int),ld wr (N (O w.heap.size) j)=some (S cJ)/\
     bu Tryz.prog fv [S (k:Int),cJ] wr (λe cp=>∃(dn:Int),e=dn/\cp.heap[w0.heap.size]? =wr.heap[w0.heap.size]?/\
     aO (eE (N (O w.heap.size) j)) (((N (O w.heap.size) j).isSome=true/\Wr cp (N (O w.heap.size) j) 1)/\bM (N (O w.heap.size) j)≠some w0.heap.size/\(∀bZ:au,bZ=bB cp (N (O w.heap.size) j) [dn]->
     ∃n11,n11<n/\aR [J,J,J]/\∃k':Nat,I ((k:Int)+1)=k'/\k'+n11=3/\Row bZ w (VX f v k') iq/\Ext w bZ/\w2.heap.size<=bZ)))):=by
   intro j y hj h3 h1 h2;subst hj;refine lC rfl ⟨y,hr.at k h1,dY (hf wr xr k y U U) ?_⟩;rintro e cp ⟨rfl,cY⟩;have z14:=cY.size;have aBi:=hr.ext cY;obtain⟨p1,p2⟩:=aBi.ft (j:=k) (v:=S (f k y)) (by rw[hl];exact h3) rfl;refine⟨_,rfl,cY.k,lC rfl ⟨⟨rfl,p1⟩,?_,λbZ CH=>?_⟩⟩
   ·rw[cB];intro q;have q:w.heap.size=w0.heap.size:=by simpa[bM]using q
    omega
   obtain⟨q1,q2⟩:=p2 bZ CH;rw[h2]at q1;have z16:=q2.size;exact⟨n-1,U,rfl,k+1,wk,U,q1,q2.ext (xr.A cY) λi hi=>by omega,U⟩
  refine⟨⟨U,U⟩,?_⟩;rcases H6 with h|h|h
  ·exact⟨_,by rw[h];rfl,step 0 v.1 h X rfl rfl⟩
  ·exact⟨_,by rw[h];rfl,step 1 v.2.1 h X rfl rfl⟩
  ·exact⟨_,by rw[h];rfl,step 2 v.2.2 h X rfl rfl⟩
 ·replace hb:=lW hb;have H6:k=3:=by omega
  subst H6;exact⟨_,_,_,Lo.wv hr,λeQ wx=>⟨rfl,xr.L wx U⟩⟩
def cW(v:Ce)(i:Int)(w:au):ed 210 #[fQ v,i] w (S (dj v i)):=by
 apply afr.B;intro w0 e0;have x0:=aU e0;have r0:Row w0 w (eV v) iq:=Row.nw e0;refine Z.mk (λh=>?_) (λh=>Z.mk (λh2=>?_) (λh2=>(HO ⟨w,0,none⟩ w0).mono ?_))
 ·replace h:=lM h;exact⟨by unfold dj;rw[if_neg U,if_neg U,if_neg U],x0⟩
 ·simp only[cC,ge_iff_le]at h2;exact⟨by unfold dj;rw[if_neg U,if_neg U,if_neg U],x0⟩
 ·simp only[fg,ge_iff_le]at h h2;rintro e w1 ⟨rfl,x1⟩;have hr:=r0.ext x1;refine⟨_,_,_,rfl,⟨U,U⟩,?_⟩;have h3:i=0\/i=1\/i=2:=by omega
  rcases h3 with rfl|rfl|rfl
  ·exact⟨_,rfl,lC rfl ⟨_,hr.at 0 rfl,rfl,x0.A x1⟩⟩
  ·exact⟨_,rfl,lC rfl ⟨_,hr.at 1 rfl,rfl,x0.A x1⟩⟩
  ·exact⟨_,rfl,lC rfl ⟨_,hr.at 2 rfl,rfl,x0.A x1⟩⟩
def abc(b:Ce)(i n:Int){g:Nat}{w:au}(hr:Row w g (eV b) iq):ed 267 #[i,n,g] w (S (dU n (dj b i))):=by apply abd.B;refine⟨_,_,_,Lo.wv hr,(cW b i w).F λw1 x1=>?_⟩;refine⟨_,rfl,(aa7 n _ w1).V ?_⟩;exact⟨_,rfl,rfl,x1⟩
def abe(b:Ce)(i n:Int){g:Nat}{w:au}(hr:Row w g (eV b) iq):ed 269 #[i,n,g] w (S (nh n (dj b i))):=by apply abf.B;refine⟨_,_,_,Lo.wv hr,(cW b i w).F λw1 x1=>?_⟩;refine⟨_,rfl,(JZ n _ w1).V ?_⟩;exact⟨_,rfl,rfl,x1⟩
def jw(a b:Ce)(w:au):ed 206 #[fQ a,fQ b] w ((fQ (iY a b))):=by
 apply ajc.B;intro w0 e0 w1 e1 w2 e2;have x0:=aU e0;have z0:=fD e0;have x1:=aU e1;have z1:=fD e1;have r1:Row w1 w0 (eV b) iq:=Row.nw e1;have x2:=aU e2;have z2:=fD e2;have yz:=x0.A (x1.A x2);refine(vO (λi n=>dU n (dj b i)) a (.func (.func 267) #[] #[w0]) w2 λw' x' i x _ _=>bR (by kernel_rfl) rfl (abc b i x ((r1.ext x2).ext x'))).F λw3 x3=>?_
 have z3:=x3.size;exact⟨_,_,_,rfl,x3.k,x3.k,λw7 e7=>⟨rfl,(yz.A x3).L e7 U⟩⟩
def vD(a b:Ce)(w:au):ed 207 #[fQ a,fQ b] w ((fQ (uJ a b))):=by
 apply ajd.B;intro w0 e0 w1 e1 w2 e2;have x0:=aU e0;have z0:=fD e0;have x1:=aU e1;have z1:=fD e1;have r1:Row w1 w0 (eV b) iq:=Row.nw e1;have x2:=aU e2;have z2:=fD e2;have yz:=x0.A (x1.A x2);refine(vO (λi n=>nh n (dj b i)) a (.func (.func 269) #[] #[w0]) w2 λw' x' i x _ _=>bR (by kernel_rfl) rfl (abe b i x ((r1.ext x2).ext x'))).F λw3 x3=>?_
 have z3:=x3.size;exact⟨_,_,_,rfl,x3.k,x3.k,λw7 e7=>⟨rfl,(yz.A x3).L e7 U⟩⟩
def VY(ax m i n:Int){g h:Nat}{w:au}{τ:aB}(hr:Row w g [ax] τ)(hh:Row w h [m] τ):ed 272 #[i,n,g,h] w (S (if i=ax then dD m else n)):=by
 apply VZ.B;refine⟨ax,hr.at 0 rfl,Z.mk (λq=>⟨m,hh.at 0 rfl,(gV m w).mono ?_⟩) (λq=>?_)⟩
 ·rintro e w1 ⟨rfl,rfl⟩;exact⟨_,rfl,by rw[if_pos (ds q)],Ext.M _⟩
 ·exact⟨by rw[if_neg (ds q)],Ext.M _⟩
def jh(v:Ce)(ax m:Int)(w:au):ed 211 #[fQ v,ax,m] w ((fQ (fV v ax m))):=by
 apply afs.B;intro w0 e0 w1 e1 w2 e2 w3 e3;have x0:=aU e0;have z0:=fD e0;have x1:=aU e1;have z1:=fD e1;have r1:Row w1 w0 [ax] 3:=Row.nw e1;have x2:=aU e2;have z2:=fD e2;have r2:Row w2 w1 [m] 3:=Row.nw e2;have x3:=aU e3;have z3:=fD e3;have OL:=x0.A (x1.A (x2.A x3));refine(vO (λi own=>if i=ax then dD m else own) v (.func (.func 272) #[] #[w0,w1]) w3 λw' x' i x _ _=>bR (by kernel_rfl) rfl (VY ax m i x ((r1.ext (x2.A x3)).ext x') ((r2.ext x3).ext x'))).F λw4 x4=>?_
 have z4:=x4.size;exact⟨_,_,_,rfl,x4.k,x4.k,λw8 e8=>⟨rfl,(OL.A x4).L e8 U⟩⟩
abbrev fR:aB:=202
abbrev pE(b:Bx):LV:=[S b.1.1,S b.1.2.1,S b.1.2.2,S b.2.1,S b.2.2.1,S b.2.2.2]
section
variable{w:au}{g o:Nat}{cs:LV}{τ:aB}(hr:Row w g cs τ)
def xG{v:aC}(h:cs[o]? =some v):ah w (jM g o) 0 [v]:=hr.y (o:=o) (λj hj=>by
 match j,hj with
 |0,_=>exact h)
def tP{x y z:aC}(h:cs[o]? =some x)(h1:cs[o+1]? =some y)(h2:cs[o+2]? =some z):ah w (jM g o) 0 [x,y,z]:=hr.y (o:=o) (λj hj=>by
 match j,hj with
 |0,_=>exact h
 |1,_=>exact h1
 |2,_=>exact h2)
def aqP{a:Int}(h:cH a):I (Int.tdiv (if 0>a then 0 else a) 2)=max a 0/2:=by
 have e:(if 0>a then 0 else a)=max a 0:=by split<;>omega
 unfold cH at h;rw[e,uI U,wI]
def awa(a:Int):(if 0>a then 0 else a)=max a 0:=by split<;>omega
def UC(aw:Ce)(wd h:Int)(hw:cH wd)(w:au):ed 217 #[fQ aw,wd,h] w ((xB (F8 aw wd h))):=by
 apply Zc.B;rw[aqP hw,awa h];intro w0 e0 w1 e1 w2 e2 w3 e3;have x0:=aU e0;have z0:=fD e0;have r0:Row w0 w (eV aw) iq:=Row.nw e0;have x1:=aU e1;have z1:=fD e1;have x3:Ext w1 w3:=(aU e2).L e3 (ak _);have z3:=yL e2 e3;have cJ:=x1.A (x3.A (Ext.K w3));have zd:=nV w3;constructor
 all_goals
  refine(vD aw (max wd 0/2,0,max wd 0/2) w3.drew).F λw4 x4=>?_
  have z4:=x4.size
  refine⟨_,_,_,rfl,x4.k,x4.k,x4.k,Lo.wv (r0.ext (cJ.A x4)),(jw aw (max wd 0/2,max h 0,max wd 0/2) w4).F λw8 x8=>?_⟩
  have z8:=x8.size
  exact⟨_,_,_,rfl,x8.k,x8.k,x8.k,λbN ui=>⟨rfl,(x0.A (cJ.A (x4.A x8))).L ui U⟩⟩
structure eJ where
 aw:Ce
 speed:Ce
 wd:Int
 ht:Int
 fG:aX
abbrev pc(b:eJ):LV:=[S b.aw.1,S b.aw.2.1,S b.aw.2.2,S b.speed.1,S b.speed.2.1,S b.speed.2.2,S b.wd,S b.ht,.bool b.fG]
abbrev Ip(b:eJ):aC:=.agg #[b.aw.1,b.aw.2.1,b.aw.2.2,b.speed.1,b.speed.2.1,b.speed.2.2,b.wd,b.ht,.bool b.fG]
abbrev DR:aB:=75
def eJ.box(b:eJ):Bx:=F8 b.aw b.wd b.ht
def kC(b:eJ)(hw:cH b.wd)(w:au):ed 149 #[Ip b] w ((xB b.box)):=by
 apply IP.B;intro w0 e0 w1 e1;have x1:Ext w w1:=(aU e0).aZ e1;have z0:=fD e0;have z1:=fD e1;refine(UC b.aw b.wd b.ht hw w1).F λw2 x2=>?_
 have z2:=x2.size;exact⟨_,_,_,_,_,_,rfl,x2.k,x2.k,λw9 e9=>⟨rfl,(x1.A x2).L e9 U⟩⟩
def zH(v:Ce)(w:au):ed 138 #[fQ v] w ((fQ (ba v))):=by
 apply ah5.B;intro w0 e0 w1 e1;have x0:=aU e0;have z0:=fD e0;have r0:Row w0 w (eV v) iq:=Row.nw e0;have x1:Ext w0 w1.drew:=(aU e1).drew;have z1:w1.drew.heap.size=w0.heap.size+1:=by show w1.heap.size=_;rw[e1];simp
 have r1:=r0.ext x1;refine(pd v.1 w1.drew).V ?_;refine⟨_,rfl,rfl,rfl,xG r1 rfl,xG r1 rfl,(pd v.2.1 w1.drew).V ?_⟩;refine⟨_,rfl,rfl,rfl,xG r1 rfl,(pd v.2.2 w1.drew).V ?_⟩;exact⟨_,rfl,rfl,rfl,λw8 e8=>⟨by unfold ba;rfl,(x0.A x1).L e8 U⟩⟩
def BG(a b c d:Int)(w:au):kh 390 #[a,b,c,d] w (S (if a=b then c else d)):=by apply P3.B;exact Z.mk (λh=>⟨by rw[if_pos (ds h)],rfl⟩) (λh=>⟨by rw[if_neg (ds h)],rfl⟩)
def Zd(b:Bx)(w:au):Y 378 #[xB b] w λe w'=>∃lo hi:Ce,e=bT #[fQ lo,fQ hi,.bool (wN b)]/\(wN b=true->lo=ba b.1/\hi=fj b)/\Ext w w':=by
 apply Ze.B;intro w0 e0 w1 e1 w2 e2;have x0:=aU e0;have z0:=fD e0;have r0:Row w0 w (pE b) fR:=Row.nw e0;have x1:=aU e1;have z1:=fD e1;have x2:=aU e2;have z2:=fD e2;refine(zH b.1 w2).F λw3 x3=>?_
 have z3:=x3.size;refine⟨_,_,_,rfl,x3.k,x3.k,x3.k,λw7 e7 w8 e8=>(jw b.2 (-1,-1,-1) w8).mono ?_⟩;have x8:Ext w3 w8:=(aU e7).L e8 (ak _);have z8:=yL e7 e8;have r8:Row w8 w3 (eV (ba b.1)) rV:=by rw[e8];exact Row.set (by rw[e7];exact Row.new w3 [_,_,_] _) _
 rintro e w9 ⟨rfl,x9⟩;have z9:=x9.size;refine⟨_,_,_,rfl,x9.k,x9.k,x9.k,x9.k,(zH (iY b.2 (-1,-1,-1)) w9).F λbw cJ=>?_⟩;have z13:=cJ.size;refine⟨_,_,_,rfl,cJ.k,cJ.k,cJ.k,cJ.k,λcP ug dA Ot=>?_⟩;have dc:Ext bw dA:=(aU ug).L Ot (ak _);have z18:=yL ug Ot;have r18:Row dA bw (eV (zI b)) rV:=by rw[Ot];exact Row.set (by rw[ug];exact Row.new bw [_,_,_] _) _
 have aoE:=x9.A (cJ.A dc);have Wz:=x0.A (x1.A (x2.A (x3.A (x8.A aoE))));have rb:=r0.ext (x1.A (x2.A (x3.A (x8.A aoE))));have rl:=r8.ext aoE;refine⟨λn x wr=>∃k:Nat,x=k/\k+n=3/\Ext dA wr/\∀j:Nat,j<k->iV b j=false,⟨3,rfl,rfl,rfl,rfl,rfl,0,rfl,rfl,Ext.M _,λj hj=>by omega⟩,?_⟩;rintro n us x wr ⟨k,rfl,hk,xr,ht⟩;have zr:=xr.size;have xd:=Ext.K wr;have zd:=nV wr;have wk:=nE (j:=k);refine Z.mk (λhb=>(cW b.1 k wr.drew).mono ?_) (λhb=>(BG b.1.1 b.2.1 (ba b.1).1 (zI b).1 wr.drew).mono ?_)
 ·replace hb:=lM hb;rintro e dL ⟨rfl,gG⟩;have z25:=gG.size;have x25d:=xr.A (xd.A gG);refine⟨_,rfl,gG.k,gG.k,gG.k,gG.k,gG.k,tP (rb.ext x25d) rfl rfl rfl,(cW b.2 k dL).F λgO jl=>?_⟩;have z27:=jl.size;have next:iV b k=false->∀j:Nat,j<k+1->iV b j=false:=λh j hj=>by
   by_cases q:j<k
   ·exact ht j q
   ·rw[show j=k from by omega];exact h
  refine⟨_,rfl,jl.k,jl.k,jl.k,jl.k,jl.k,Z.mk (λh1=>(BH _ gO).mono ?_) (λh1=>?_)⟩
  ·rintro e gI ⟨rfl,rfl⟩;have h1:=eK h1;refine⟨_,rfl,rfl,rfl,rfl,rfl,rfl,Z.mk (λh2=>λia e31 sY e32=>?_) (λh2=>?_)⟩
   ·have h2:=eK h2;have hth:iV b k=true:=by unfold iV;rw[h1,<-h1,h2];simp[h1]
    have hsp:wN b=false:=by
     have h3:(k:Int)=0\/(k:Int)=1\/(k:Int)=2:=by omega
     unfold wN;rcases h3 with q|q|q<;>(rw[q]at hth;rw[hth];simp)
    refine⟨(0,0,0),(0,0,0),by rw[hsp],λq=>absurd (hsp.symm.trans q) X,((Wz.A (x25d.A jl)).L e31 U).L e32 U⟩
   ·have h2:=eK h2;exact⟨n-1,U,rfl,rfl,rfl,rfl,rfl,k+1,wk,U,x25d.A jl,next (by unfold iV;simp[h2])⟩
  ·have h1:=eK h1;exact⟨n-1,U,rfl,rfl,rfl,rfl,rfl,k+1,wk,U,x25d.A jl,next (by unfold iV;simp[h1])⟩
 ·replace hb:=lW hb;have hsp:wN b=true:=by unfold wN;rw[show iV b 0=false from ht 0 U,show iV b 1=false from ht 1 U,show iV b 2=false from ht 2 U];rfl
  have rb':=rb.ext (xr.A xd);have rl':=rl.ext (xr.A xd);have rt':=r18.ext (xr.A xd);rintro e jV ⟨rfl,rfl⟩;refine⟨_,rfl,rfl,rfl,rfl,rfl,rfl,xG rt' rfl,xG rl' rfl,xG rb' rfl,xG rb' rfl,xG rt' rfl,xG rl' rfl,xG rb' rfl,xG rb' rfl,(BG b.1.2.1 b.2.2.1 (ba b.1).2.1 (zI b).2.1 wr.drew).V ?_⟩;refine⟨_,rfl,rfl,rfl,rfl,rfl,rfl,xG rt' rfl,xG rl' rfl,xG rb' rfl,xG rb' rfl,(BG b.1.2.2 b.2.2.2 (ba b.1).2.2 (zI b).2.2 wr.drew).V ?_⟩;refine⟨_,rfl,rfl,rfl,rfl,rfl,rfl,λlG e39 nT e40 kO e41 nS e42=>?_⟩;have r39:Row lG bw (eV ((fj b).1,(zI b).2.1,(zI b).2.2)) rV:=by rw[e39];exact Row.set rt' [_,_,_]
  have r40:Row nT bw (eV ((fj b).1,(fj b).2.1,(zI b).2.2)) rV:=r39.st e40;have r41:Row kO bw (eV (fj b)) rV:=r40.st e41;have r42:Row nS bw (eV (fj b)) rV:=(r41.ext (Ext.K kO)).same (by rw[e42];exact setRow_other _ _ _ _ U);have yT:Ext w nS:=(((((Wz.A (xr.A xd)).L e39 U).L e40 U).L e41 U).drew).L e42 U;exact⟨Lo.wv r42,λiO Yn=>⟨ba b.1,fj b,by rw[hsp];rfl,λ_=>⟨rfl,rfl⟩,yT.L Yn U⟩⟩
def UD(b:Bx)(w:au):ed 255 #[xB b] w ((xB (nL b))):=by
 apply P4.B;intro w0 e0 w1 e1;have x0:=aU e0;have z0:=fD e0;have r0:Row w0 w (pE b) fR:=Row.nw e0;have x1:Ext w0 w1.drew:=(aU e1).drew;have z1:w1.drew.heap.size=w0.heap.size+1:=by show w1.heap.size=_;rw[e1];simp
 have r1:=r0.ext x1;refine(JZ b.1.2.1 1 w1.drew).V ?_;refine⟨_,rfl,rfl,rfl,tP r1 rfl rfl rfl,tP r1 rfl rfl rfl,(jh b.1 1 (nh b.1.2.1 1) w1.drew).F λw4 x4=>?_⟩;have z4:=x4.size;refine⟨_,_,_,rfl,x4.k,x4.k,tP (r1.ext x4) rfl rfl rfl,(jh b.2 1 b.1.2.1 w4).F λw8 x8=>?_⟩;have z8:=x8.size;exact⟨_,_,_,rfl,x8.k,x8.k,λbN ui=>⟨rfl,(x0.A (x1.A (x4.A x8))).L ui U⟩⟩
end
abbrev oe(b:Bx):List (LV):=(ky b).map λc=>[fQ c]
abbrev adG(g:Nat):aC:=.func (.func 377) #[] #[g]
def Zn(b:Bx)(g:Nat)(W0:au)(hb:Row W0 g (pE b) fR):Iter ka5 (adG g) W0 (λi=>i=g) (oe b):=by
 refine⟨⟨_,_,_,rfl,by kernel_rfl⟩,?_⟩;intro y B a_ Jx F0 W hB hsJ hsX yQ hRd hround h0;refine bR (by kernel_rfl) (by rfl) ?_;apply Og.B;have hbW:Row W g (pE b) fR:=hb.same (hRd g rfl).2.2;refine⟨_,_,_,_,_,_,Lo.wv hbW,(Zd b W).mono ?_⟩;rintro e w6 ⟨lo,hi,rfl,hsp,x6⟩;refine⟨_,_,_,_,_,_,_,rfl,λcp yF c9 pC bZ CH cP ug=>?_⟩;have cY:=aU yF;have z14:=fD yF;have dO:Ext w6 cP:=(((cY.aZ pC).L CH (ak _)).L ug U);have z17:cP.heap.size=w6.heap.size+2:=by rw[ug,setRow_size,CH,setRow_size,pC];simp[z14]
 have xW:=x6.A dO;have zW:=xW.size;obtain⟨Q,hQ⟩:∃Q:Nat->k_,Q=λk wr=>∃F,a_ k F wr/\∀i,F i->(F0 i\/cP.heap.size<=i):=⟨_,rfl⟩
 have z6:=x6.size;have hF0:∀i,F0 i->i<w6.heap.size:=λi hi=>gK (yQ _ _ _ h0 i hi) z6
 have init:Q 0 cP:=by rw[hQ];exact⟨F0,hsJ _ _ _ _ h0 (Below.mono xW hB) λi hi=>xW.heap (yQ _ _ _ h0 i hi),λi hi=>.inl hi⟩
 have round:∀{k:Nat}{wr:au}{x:LV},cP.heap.size<=wr->(oe b)[k]? =some x->Q k wr->bu ka5 y x wr λe w'=>cP.heap.size<=w'.heap.size/\(∀i,i<cP.heap.size->¬F0 i->w'.heap[i]? =wr.heap[i]?)/\((e=true/\Q (k+1) w')\/(e=false/\∃F',Jx () F' w')):=λ{k wr x} hz hx h=>by
  rw[hQ]at h⊢;have⟨F,hJ,h2⟩:=h;refine bJ (hround _ _ _ _ hx hJ) ?_;have aV:∀{w':au}{F2:Nat->Prop},Step F F2 wr w'->cP.heap.size<=w'.heap.size/\(∀i,i<cP.heap.size->¬F0 i->w'.heap[i]? =wr.heap[i]?):=λgm=>⟨a0F,λi hi hn=>gm.same i U λhf=>(h2 i hf).elim hn U⟩
  rintro e w' (⟨rfl,F2,WH,gm⟩|⟨rfl,F2,WH,gm⟩)
  ·refine⟨(aV gm).1,(aV gm).2,.inl ⟨rfl,F2,WH,λi hi=>?_⟩⟩;rcases gm.sub i hi with hf|hf
   ·exact h2 i hf
   ·exact .inr U
  ·exact⟨(aV gm).1,(aV gm).2,.inr ⟨rfl,F2,WH⟩⟩
 have fin:∀{wr:au},Q (oe b).length wr->∃F',a_ (oe b).length F' wr:=λh=>a1G
 have n6:¬F0 w6:=λq=>a1N (hF0 _ q)
 have n14:¬F0 cp:=λq=>a1N (hF0 _ q)
 have nR:cP.heap.size=w6.heap.size+2:=z17
 cases hspan:wN b with
 |false=>
  have Et:oe b=[]:=by unfold oe ky;rw[hspan];rfl
  rw[Et]at fin⊢;exact⟨λn x wr=>wr=cP,⟨0,rfl,rfl,rfl⟩,λn us x wr hwr=>by
   subst hwr;exact Z.mk (λh=>by cases h) (λ_=>⟨⟨_,rfl⟩,.inl (fin init)⟩)⟩
 |true=>
  obtain⟨rfl,rfl⟩:=hsp hspan;have hc:ky b=My (ba b.1) (fj b):=by unfold ky;rw[hspan];rfl
  have Ir:∀{jy jz jx:Nat},jy<cg (ba b.1).2.1 (fj b).2.1->jz<cg (ba b.1).2.2 (fj b).2.2->jx<cg (ba b.1).1 (fj b).1->
    (oe b)[(jy*cg (ba b.1).2.2 (fj b).2.2+jz)*cg (ba b.1).1 (fj b).1+jx]? =some [fQ ((ba b.1).1+(jx:Int),(ba b.1).2.1+(jy:Int),(ba b.1).2.2+(jz:Int))]:=λh1 h2 h3=>by
   unfold oe;rw[hc,aW,Xo _ _ h1 h2 h3];rfl
  have cX:(oe b).length=cg (ba b.1).2.1 (fj b).2.1*cg (ba b.1).2.2 (fj b).2.2*cg (ba b.1).1 (fj b).1:=by unfold oe;rw[aK,hc,adD]
  have⟨⟨a1,a2⟩,⟨a3,a4⟩,a5,a6⟩:=vF b.1;have⟨⟨b1,b2⟩,⟨b3,b4⟩,b5,b6⟩:=Xl b;generalize oe b=xs at*;generalize ba b.1=a at*;generalize fj b=z at*;have hny:∀j:Nat,a.2.1+(j:Int)<=z.2.1↔j<cg a.2.1 z.2.1:=λj=>a0e
  have hnz:∀j:Nat,a.2.2+(j:Int)<=z.2.2↔j<cg a.2.2 z.2.2:=λj=>a0e
  have hnx:∀j:Nat,a.1+(j:Int)<=z.1↔j<cg a.1 z.1:=λj=>a0e
  have hmy:cg a.2.1 z.2.1<=4294967297:=a0e
  have hmz:cg a.2.2 z.2.2<=4294967297:=a0e
  have hmx:cg a.1 z.1<=4294967297:=a0e
  generalize cg a.2.1 z.2.1=ny at*;generalize cg a.2.2 z.2.2=nz at*;generalize cg a.1 z.1=nx at*;refine⟨λn v wr=>∃jy:Nat,v=a.2.1+jy/\jy+n=ny/\Q (jy*nz*nx) wr/\cP.heap.size<=wr,⟨ny,rfl,rfl,0,U,U,by rw[Nat.zero_mul,Nat.zero_mul];exact init,ak _⟩,?_⟩;rintro n2 us3 v dh ⟨jy,rfl,hjy,hq,zr⟩;refine Z.mk (λ_=>Z.mk (λhc1=>?_) (λhc1=>?_)) (λh=>by cases h)
  ·replace hc1:=lM hc1;have ly:=(hny jy).1 hc1;refine⟨λn v wr=>∃jz:Nat,v=a.2.2+jz/\jz+n=nz/\Q ((jy*nz+jz)*nx) wr/\cP.heap.size<=wr,⟨nz,rfl,rfl,0,U,U,by rw[Nat.add_zero];exact hq,zr⟩,?_⟩;rintro n10 azN v iZ ⟨jz,rfl,hjz,hq,zr⟩;apply Z.mk<;>intro nA
   ·replace nA:=lM nA;have lz:=(hnz jz).1 nA;refine⟨λn v wr=>∃jx:Nat,v=a.1+jx/\jx+n=nx/\Q ((jy*nz+jz)*nx+jx) wr/\cP.heap.size<=wr,⟨nx,rfl,rfl,0,U,U,by rw[Nat.add_zero];exact hq,zr⟩,?_⟩;rintro n18 azQ v ke ⟨jx,rfl,hjx,hq,zr⟩;apply Z.mk<;>intro Lf
    ·replace Lf:=lM Lf;have lx:=(hnx jx).1 Lf;refine bJ (round zr (Ir ly lz lx) hq) ?_;have wk:I (a.1+(jx:Int)+1)=a.1+((jx+1:Nat):Int):=by rw[wI];omega
     rintro e mG ⟨z36,k36,q⟩;have k1:=k36 w6 U n6;have k2:=k36 cp U n14;rcases q with⟨rfl,hq2⟩|⟨rfl,hx2⟩
     ·exact⟨true,rfl,k1,k2,Z.mk (λh=>by cases h) (λ_=>⟨n18-1,U,rfl,rfl,jx+1,wk,U,hq2,z36⟩)⟩
     ·exact⟨false,rfl,k1,k2,Z.mk (λ_=>⟨⟨_,rfl⟩,.inr hx2⟩) (λh=>by cases h)⟩
    ·replace Lf:=lW Lf;have e:jx=nx:=by have:=mt (hnx jx).2 Lf;omega
     subst e;have wk:I (a.2.2+(jz:Int)+1)=a.2.2+((jz+1:Nat):Int):=by rw[wI];omega
     refine⟨n10-1,U,rfl,rfl,jz+1,wk,U,?_,zr⟩;have:(jy*nz+(jz+1))*jx=(jy*nz+jz)*jx+jx:=by rw[<-Nat.add_assoc,pP _ 1,Nat.one_mul]
     rw[this];exact hq
   ·replace nA:=lW nA;have e:jz=nz:=by have:=mt (hnz jz).2 nA;omega
    subst e;have wk:I (a.2.1+(jy:Int)+1)=a.2.1+((jy+1:Nat):Int):=by rw[wI];omega
    refine⟨n2-1,U,rfl,rfl,jy+1,wk,U,?_,zr⟩;rw[pP jy 1,Nat.one_mul];exact hq
  ·replace hc1:=lW hc1;have e:jy=ny:=by have:=mt (hny jy).2 hc1;omega
   subst e;rw[<-cX]at hq;exact⟨⟨_,rfl⟩,.inl (fin hq)⟩
def UO(b:Bx)(w:au):Y 357 #[xB b] w λe w'=>e=(adG w)/\Row w' w (pE b) fR/\Ext w w':=by apply UP.B;intro w0 e0;exact⟨rfl,by rw[e0];exact Row.new w [_,_,_,_,_,_] _,(aU e0)⟩
section
variable{b:Bx}
def Zl{n:Nat}{x y z:Int}(h:(oe b)[n]? =some [.agg #[S x,S y,S z]]):(ky b)[n]? =some (x,y,z):=by
 unfold oe at h;rw[aW]at h
 cases hc:(ky b)[n]? with
 |none=>rw[hc]at h;cases h
 |some c=>
  rw[hc]at h;simp only[mT]at h;injection h with h;injection h with h _;injection h with h;injection h with h;injection h with h1 h;injection h with h2 h;injection h with h3 _;injection h1 with _ h1;injection h2 with _ h2;injection h3 with _ h3;exact congrArg some (Prod.ext h1 (Prod.ext h2 h3))
def adH{c:Ce}(h:c∈ky b):pQ c:=by
 unfold ky at h;split at h
 ·have h1:=Qg h;have h2:=vF b.1;have h3:=Xl b;unfold pQ cH;omega
 ·cases h
variable{v:aC}{V:Ce->Int}{w:au}(hV:Tl v V w)
def Zm(hv:kq v=[])(b:Bx)(fp:aC)(hfp:kq fp=[])(p:Int->aX)(hp:∀(x:Int)(w':au),bu ka5 fp [S x] w' λe w''=>e=eL (p x)/\Ext w' w''): Y 317 #[v,xB b,fp] w λe w'=>∃c:Ce,e=bT #[fQ c,.bool (j8 V b p)]/\Ext w w':=by
 apply UQ.B;rw[hv,uj];intro w0 e0 w1 e1;rw[hfp,uj];intro w2 e2 w3 e3 w4 e4;have x0:=aU e0;have z0:=fD e0;have x1:=aU e1;have z1:=fD e1;have x2:=aU e2;have z2:=fD e2;have r2:∃τ,Row w2 w1 [fp] τ:=⟨_,a1b⟩;have x3:=aU e3;have z3:=fD e3;have x4:=aU e4;have z4:=fD e4;have E9:=x0.A (x1.A (x2.A (x3.A x4)));have⟨τ2,r2⟩:=r2;refine(UO b w4).mono ?_;rintro e w5 ⟨rfl,hb5,x5⟩;have z5:=x5.size;have l5:=hb5.lt;have Yt:=E9.A x5;have r5:=r2.ext (x3.A (x4.A x5));refine⟨_,rfl,x5.k,x5.k,x5.k,x5.k,x5.k,oe b,λi=>i=w4.heap.size,λ_=>False,
  λn F x y z bb w'=>(∀i,¬F i)/\(∀c∈(ky b).take n,p (V c)=false)/\Mod (λi=>w5.heap.size<=i) w5 w',
  λo F x y z bb w'=>(∀i,¬F i)/\bb=j8 V b p/\Mod (λi=>i=w2.heap.size\/i=w3.heap.size\/w5.heap.size<=i) w5 w',?_,?_,?_,λn F x y z bb w' h i hi=>(h.1 i hi).elim,λo F x y z bb w' h i hi=>(h.1 i hi).elim,λi hi=>?_,λue vt=>?_,?_,?_,?_⟩
 ·intro x hx;obtain⟨c,-,rfl⟩:=bc.1 hx;exact⟨_,_,_,rfl⟩
 ·rintro n F x y z bb di dh ⟨h1,h2,h3⟩ kQ -;exact⟨h1,h2,h3.A ⟨kQ.os,kQ.tape,kQ.output,kQ.size,λi hi hn=>kQ.block i (C6 hn)⟩ λi hi=>.inl hi⟩
 ·rintro o F x y z bb di dh ⟨h1,h2,h3⟩ kQ -;exact⟨h1,h2,h3.A ⟨kQ.os,kQ.tape,kQ.output,kQ.size,λi hi hn=>kQ.block i (C6 hn)⟩ λi hi=>.inl (.inr (.inr hi))⟩
 ·subst hi;exact⟨U,id,U,U,U,U,U,trivial⟩
 ·exact⟨Zn b _ ue (hb5.same (vt.ext.block _ U)),rfl,rfl,rfl,λi h=>h,λc hc=>by simp at hc,Mod.P vt.ext⟩
 ·rintro n F us Jp Ba vp b52 lU CI vS yC hx hI vQ e58 pH TX;have Iv:Ext yC pH:=(aU e58).L TX (ak _);have z59:pH.heap.size=yC.heap.size+1:=by rw[TX,setRow_size,e58];simp
  have z56:=hI.2.2.size;refine⟨Iv,λnv fL agC=>?_⟩;have⟨hF,lp,hM⟩:=agC;have zr:=fL.size;have hc:=Zl hx;have pL:=aQ hc;have z57:=hM.size;have ht:(ky b).take (n+1)=(ky b).take n++[(lU,CI,vS)]:=by rw[dq,hc];rfl
  have⟨D,hD1,hD2⟩:=hV;refine bJ (hD2 nv.drew (λi hi=>?_) (lU,CI,vS) (adH pL)) ?_
  ·exact a1M
  rintro e lV ⟨rfl,qF⟩;have zd:=nV nv;have z60:=qF.size;have agD:=hM.trans (Mod.P ((Ext.K nv).A qF));refine⟨_,rfl,qF.k,qF.k,qF.k,qF.k,qF.k,qF.k,Lo.wv (agD.row r5 U),bJ (hp _ lV) ?_⟩;rintro e jU ⟨rfl,rD⟩;have z62:=rD.size;have Tu:=agD.trans (Mod.P rD);refine⟨_,rfl,rD.k,rD.k,rD.k,rD.k,rD.k,rD.k,Z.mk (λhq=>λH4 e64 O3 e65=>?_) (λhq=>?_)⟩
  ·have hq:p (V (lU,CI,vS))=true:=hq;have aoI:j8 V b p=true:=List.any_eq_true.2 ⟨_,pL,hq⟩;have ayv:O3.heap.size=jU.heap.size:=by rw[e65,setRow_size,e64,setRow_size]
   have aoJ:∀i,i≠w2.heap.size->i≠w3.heap.size->O3.heap[i]? =jU.heap[i]? :=λi h1 h2=>a19
   have agE:Mod (λi=>i=w2.heap.size\/i=w3.heap.size) jU O3:=⟨a0H,a0H,a0H,U,λi _ hn=>aoJ i (λq=>hn (.inl q)) (λq=>hn (.inr q))⟩;refine⟨rfl,λ_=>False,⟨rfl,rfl,rfl,λi h=>h,aoI.symm,(Tu.mono λi _ h=>.inr (.inr h)).trans (agE.mono λi _ h=>h.elim .inl λh=>.inr (.inl h))⟩,?_⟩;have Ic:=((Mod.P (F:=λi=>i=w2.heap.size\/i=w3.heap.size) (((Ext.K nv).A qF).A rD))).trans agE;refine Step.late ⟨λi hi=>?_,Ic.size,λi hi hn=>Ic.same i hi λq=>hn (.inr ?_)⟩
   ·rcases hi with h|h
    ·exact h.elim
    ·exact .inl (.inr h)
   ·rcases q with rfl|rfl<;>simp
  ·have hq:p (V (lU,CI,vS))=false:=hq;have Tv:=((Ext.K nv).A qF).A rD;refine⟨λ_=>False,⟨rfl,rfl,rfl,λi h=>h,λc hc=>?_,Tu⟩,Step.late ⟨λi hi=>?_,Tv.size,λi hi _=>Tv.block i hi⟩⟩
   ·rw[ht,dp]at hc;rcases hc with hc|hc
    ·exact lp c hc
    ·rw[ig.1 hc];exact hq
   ·rcases hi with h|h
    ·exact h.elim
    ·exact .inl (.inr h)
 ·rintro F us CJ Bf DB b73 CE ⟨hF,lp,hM⟩ WB uh e75 pB e76;have z74:=hM.size;have cX:(oe b).length=(ky b).length:=by unfold oe;simp
  rw[cX,kB]at lp;have aoI:j8 V b p=false:=by unfold j8;rw[List.any_eq_false];exactλc hc=>by rw[lp c hc];decide
  refine⟨a0S,λuc fL=>⟨(0,0,0),by rw[aoI],?_⟩⟩;have O1:Ext w CE:=hM.ext Yt λi hi=>a1k
  have O2:Ext w pB:=(O1.L e75 U).L e76 U;exact(Mod.oX fL).ext O2 λi hi=>by have:=Yt.size;omega
 ·rintro F us Oy H9 Ev b83 w84 ⟨hF,rfl,hM⟩ WB;refine⟨WB,λw85 fL=>⟨(Oy,H9,Ev),rfl,?_⟩⟩;have TV:Ext w w84:=hM.ext Yt λi hi=>by have:=Yt.size;omega
  exact(Mod.oX fL).ext TV λi hi=>a1k
def Gm(hv:kq v=[])(b:Bx)(fp:aC)(hfp:kq fp=[])(p:Int->aX)(hp:∀(x:Int)(w':au),bu ka5 fp [x] w' λe w''=>e=eL (p x)/\Ext w' w''): ed 254 #[v,xB b,fp] w (eL (j8 V b p)):=by
 apply Zo.B;intro w0 e0;have x0:=aU e0;have z0:=fD e0;refine(Zm (hV.ext x0) hv b fp hfp p hp).mono ?_;rintro e w1 ⟨c,rfl,x1⟩;have z1:=x1.size;refine⟨_,_,_,_,rfl,x1.k,λw6 e6 w7 e7=>⟨rfl,(x0.A x1).A ((aU e6).L e7 (ak _))⟩⟩
def sC(hv:kq v=[])(b:Bx):ed 194 #[v,xB b] w (eL (j8 V b aD)):=by
 apply IT.B;intro w0 e0;have x0:=aU e0;have z0:=fD e0;refine(Gm (hV.ext x0) hv b (.func (.func 187) #[] #[]) rfl aD λx w'=>bR (by kernel_rfl) rfl ((qV x w').mono ?_)).mono ?_
 ·rintro e w'' ⟨rfl,rfl⟩;exact⟨rfl,Ext.M _⟩
 rintro e w1 ⟨rfl,x1⟩;exact⟨_,rfl,x1.k,rfl,x0.A x1⟩
def qd(hv:kq v=[])(b:Bx):ed 195 #[v,xB b] w (eL (j8 V (nL b) aD)):=by
 apply Mz.B;intro w0 e0;have x0:=aU e0;have z0:=fD e0;refine(UD b w0).F λw1 x1=>?_
 refine⟨_,_,_,_,_,_,rfl,x1.k,(sC (hV.ext (x0.A x1)) hv (nL b)).F λw8 x8=>?_⟩;have z1:=x1.size;exact⟨_,rfl,x8.k,rfl,x0.A (x1.A x8)⟩
end
open Tryz
variable{R:l_}{w:au}{a0 a1 a2 a3 aM aI aP cO cR da gJ gC fB aG aH aS eU ja jb Wf Wg Ox gg gj fq:Int}
def Ml.B{a0:aC}(h:(λA=>G w A 202 λw0=>Y 254 #[a0,.agg A,.func (.func 261) #[] #[]] w0 (Rb λb2 w1=>Kp w w0 w1/\R b2 w1)) #[aG,aH,aS,eU,ja,jb]):Y 202 #[a0,.agg #[aG,aH,aS,eU,ja,jb]] w R:= cq bz func202 h
def Y8.B{a0:aC}(h:(λA=>G w A 202 λw0=>Y 254 #[a0,.agg A,.func (.func 262) #[] #[]] w0 (Rb λb2 w1=>Kp w w0 w1/\R b2 w1)) #[aG,aH,aS,eU,ja,jb]):Y 203 #[a0,.agg #[aG,aH,aS,eU,ja,jb]] w R:= cq bz func203 h
def Mm.B(h: R (Ga (a0==4)) w):Y 261 #[a0] w R:= cq bz func261 h
def Mn.B(h: G w #[aM,aI,aP,cO,cR,da] 202 λw0=>G w0 #[a1] 3 λw1=>G w1 #[a2] 3 λw2=>R (Value.func (.func 379) #[] #[w,.pointer (O w0),.pointer (O w1)]) w2):Y 358 #[.agg #[aM,aI,aP,cO,cR,da],a1,a2] w R:= cq bz func358 h
section
variable{c0 c1:Addr}
def Gb.B{a0:aC}{c2:Addr}(h:(λA B C=>gU w.drew (N (some c0) 0) λx0 x1 x2=>jr w.drew C λx3=>gU w.drew B λx4 x5 x6=>jr w.drew C λx7=>Y 210 #[.agg #[x0,x1,x2],x3] w.drew (λe w8=>∃(x9:Int),e=x9/\ah w8 C 0 [x7]/\ah w8 B 0 [x4,x5,x6]/\Y 210 #[.agg #[x4,x5,x6],x7] w8 (λe br=>∃(bS:Int),e=bS/\jr br A λcr=>Z (cr>0) (Y 198 #[(I ((I (bS+65536))-1))] br (λe bw=>∃(cY:Int),e=cY/\rP (λI15 n16=>I15 n16 cY bw) λI15 n16 axl dc fm=>jr fm.drew A λfk=>Y 213 #[dc] fm.drew (λe dh=>∃(iB:Int),e=iB/\ah dh A 0 [fk]/\Z (decide (iB<(I (bS+fk)))) (Y 213 #[dc] dh (λe ie=>∃(gG:Int),e=gG/\bu ka5 a0 [dc,(I (gG-bS))] ie (λe kN=>∃(Yp:aX),e=Yp/\Z (!Yp) (R pz kN) (∃n20,n20<n16/\I15 n20 ((I (dc+1))) kN)))) (R pz dh)))) (Y 198 #[x9] br (λe iZ=>∃(kz:Int),e=kz/\rP (λI30 n31=>I30 n31 ((I (kz-1))) iZ) λI30 n31 axm gA ke=>jr ke.drew A λoP=>Y 213 #[(I (gA+1))] ke.drew (λe jD=>∃(nC:Int),e=nC/\ah jD A 0 [oP]/\Z (decide (nC>(I (x9+oP)))) (Y 213 #[(I (gA+1))] jD (λe lG=>∃(rE:Int),e=rE/\bu ka5 a0 [gA,(I (rE-x9))] lG (λe kO=>∃(b42:aX),e=b42/\Z (!b42) (R pz kO) (∃n35,n35<n31/\I30 n35 ((I (gA-1))) kO)))) (R pz jD))))))) (some c2) (N (some c0) 3) (some c1)):Y 379 #[a0,c0,c1,c2] w R:= cq ⟨[(3,⟨[(7,.int .i64)],[],[]⟩),(7,⟨[(8,.int .i64)],[],[]⟩)],[],[]⟩ func379 h
def PV.B(h:(λA B=>G w #[aM,aI,aP,cO,cR,da] 202 λw0=>G w0 #[J,J,J,J,J,J] 202 λw1=>Y 213 #[a2] w1.drew (Ri λx3 w2=>K2 w w0 w1.drew w2 (ah w2 B 0 A/\ah w2 w 0 [aM,aI,aP]/\Y 211 #[.agg #[aM,aI,aP],a1,x3] w2 (mg λx5 x6 x7 w4=>K2 w w0 w2 w4 (ah w4 B 0 A/\Y 213 #[(I (a2+1))] w4 (Ri λx9 w8=>K2 w w0 w4 w8 (ah w8 B 0 A/\Y 211 #[.agg #[cO,cR,da],a1,x9] w8 (mg λbS cr cJ br=>K2 w w0 w8 br (Sw br w0 #[x5,x6,x7,bS,cr,cJ] λcp=>R (tO #[x5,x6,x7,bS,cr,cJ]) cp))))))))) [cO,cR,da] (jM w 3)):Y 359 #[.agg #[aM,aI,aP,cO,cR,da],a1,a2] w R:= cq bz func359 h
def Uv.B{a0:aC}(h:(λA B C D E g_=>aO (kq a0) (G w #[a0] 95 λw0=>G w0 C 202 λw1=>G w1 #[a2] 3 λw2=>G w2 #[J] 3 λw3=>(λAa Ab=>G w3 g_ 4 λw4=>Z (a2<0) (Sw w4 w2 #[J] λw5=>Sw w5 w3 g_ λw6=>R E w6) (Z (a2>=3) (Sw w4 w2 #[J] λw7=>Sw w7 w3 g_ λw8=>R E w8) (Y 358 #[.agg C,a2,S A] w4 (Rv λv10 w9=>Ab w4 w9 (∃(ajH:List (LV))(arO F13:Nat->Prop)(I14:Nat->(Nat->Prop)->Int->aX->k_)(X15:Option Nat->(Nat->Prop)->Int->aX->k_),(∀x∈ajH,∃(dw dO:Int),x=[S dw,S dO])/\(∀(n18:Nat)(F19:Nat->Prop)(fe:Int)(b21:aX)(dh jE:au),I14 n18 F19 fe b21 dh->Below w9 dh jE->(∀i,F19 i->jE.heap[i]? =dh.heap[i]?)->I14 n18 F19 fe b21 jE)/\(∀(n24:Option Nat)(F25:Nat->Prop)(nU:Int)(Yp:aX)(iZ gI:au),X15 n24 F25 nU Yp iZ->Below w9 iZ gI->(∀i,F25 i->gI.heap[i]? =iZ.heap[i]?)->X15 n24 F25 nU Yp gI)/\(∀(n30:Nat)(F31:Nat->Prop)(mP:Int)(b33:aX)(ke:au),I14 n30 F31 mP b33 ke->∀i,F31 i->i<ke.heap.size/\i≠w9.heap.size/\i≠w9.heap.size+1)/\(∀(n35:Option Nat)(F36:Nat->Prop)(mO:Int)(b38:aX)(lG:au),X15 n35 F36 mO b38 lG->∀i,F36 i->i<lG.heap.size/\i≠w9.heap.size/\i≠w9.heap.size+1)/\(∀i,arO i->i<w9.heap.size/\¬F13 i/\i≠w.heap.size/\i≠w0.heap.size/\i≠w1.heap.size/\i≠w2.heap.size/\i≠w3.heap.size/\True)/\(∀nT:au,PW w9 w9 nT->Iter ka5 (v10) nT arO ajH/\aR [a0]/\aR D/\aR [a2]/\I14 0 F13 (0) false nT)/\(∀(n41:Nat)(F42:Nat->Prop)(aFw:Nat->aC)(qE:Int)(b45:aX)(oq A9:Int)(lI:au),ajH[n41]? =some [S oq,S A9]->I14 n41 F42 qE b45 lI->Below lI lI lI/\∀nB:au,Rec (w9.heap.size+1) lI nB->I14 n41 F42 qE b45 nB->Y 359 #[.agg C,a2,oq] nB.drew (C2 λvp tG lU CI vS OY yR=>Ab nB.drew yR (ah yR w 0 [a0]/\Y 194 #[a0,.agg #[vp,tG,lU,CI,vS,OY]] yR (Rb λb58 nv=>Ab yR nv (Z b58 (Sw nv w2 #[A9] λpH=>Sw pH w3 #[true] λlV=>true=true/\∃F61:Nat->Prop,(aR [a0]/\aR D/\aR [a2]/\X15 none F61 A9 true lV)/\Step (λi=>(F42 i\/i∈Aa)\/lI.heap.size<=i) (λi=>F61 i\/i∈Aa) nB lV) (∃F62:Nat->Prop,(aR [a0]/\aR D/\aR [a2]/\I14 (n41+1) F62 qE b45 nv)/\Step (λi=>(F42 i\/i∈Aa)\/lI.heap.size<=i) (λi=>F62 i\/i∈Aa) nB nv))))))/\(∀(F63:Nat->Prop)(axo:Nat->aC)(Be:Int)(b66:aX)(pI:au),I14 ajH.length F63 Be b66 pI->pI.heap[w9.heap.size]? =some B->Sw pI w2 #[S A] λE8=>Sw E8 w3 g_ λOZ=>OZ.heap[w9.heap.size]? =some B/\∀wu:au,Rec w9 OZ wu->R (eP #[S A,false]) wu)/\(∀(F71:Nat->Prop)(aFA:Nat->aC)(K0:Int)(b74:aX)(uh:au),X15 none F71 K0 b74 uh->uh.heap[w9.heap.size]? =some B->uh.heap[w9.heap.size]? =some B/\∀pB:au,Rec w9 uh pB->R (eP #[K0,b74]) pB)))))) ([w.heap.size,w0.heap.size,w1.heap.size,w2.heap.size,w3.heap.size]:bf) (K5 w w0 w1 w2 w3))) (if 4194304<(if(-4194304)>a3 then(-4194304)else a3)then 4194304 else(if(-4194304)>a3 then(-4194304)else a3)) (.deferred (some [])) #[aG,aH,aS,eU,ja,jb] [aG,aH,aS,eU,ja,jb] (bT #[J,false]) #[false]):Y 319 #[a0,.agg #[aG,aH,aS,eU,ja,jb],a2,a3] w R:= cq ⟨[],[],[(7,⟨[],[(3,[.int .i64]),(4,[.bool])],[]⟩,[.sc (.int .i64),.sc (.int .i64)])]⟩ func319 h
def adp.B(h:(λA=>G w #[aM,aI,aP,cO,cR,da] 202 λw0=>G w0 A 73 λw1=>G w1 #[J,J,J,J,J,J] 202 λw2=>Y 206 #[.agg #[aM,aI,aP],.agg A] w2.drew (mg λx4 x5 x6 w3=>K3 w w0 w1 w2.drew w3 (ah w3 (O w0) 0 [aG,aH,aS]/\ah w3 (jM w 3) 0 [cO,cR,da]/\Y 206 #[.agg #[cO,cR,da],.agg A] w3 (mg λx8 x9 bL w7=>K3 w w0 w1 w3 w7 (Sw w7 w1 #[x4,x5,x6,x8,x9,bL] λbE=>R (tO #[x4,x5,x6,x8,x9,bL]) bE))))) #[aG,aH,aS]):Y 320 #[.agg #[aM,aI,aP,cO,cR,da],.agg #[aG,aH,aS]] w R:= cq bz func320 h
def PX.B{a0:aC}(h:(λA=>G w A 202 λw0=>G w0 #[J,J,J,J,J,J] 202 λw1=>Y 319 #[a0,.agg A,a2,a3] w1 (Xf λx3 b4 w2=>K2 w w0 w1 w2 (Y 211 #[.agg #[J,J,J],a2,x3] w2.drew (mg λx6 x7 x8 w5=>K2 w w0 w2.drew w5 (ah w5 w 0 [aG,aH,aS,eU,ja,jb]/\Y 320 #[.agg A,.agg #[x6,x7,x8]] w5 (C2 λbL bS cr cJ cY dn w9=>K2 w w0 w5 w9 (Sw w9 w0 #[bL,bS,cr,cJ,cY,dn] λbZ=>R (eP #[.agg #[bL,bS,cr,cJ,cY,dn],b4]) bZ))))))) #[aG,aH,aS,eU,ja,jb]):Y 263 #[a0,.agg #[aG,aH,aS,eU,ja,jb],a2,a3] w R:= cq bz func263 h
def Ud.B{a0:aC}(h:(λA B=>G w #[aG,aH,aS,eU,ja,jb] 202 λw0=>G w0 #[gg,gj,fq] 73 λw1=>G w1 #[J,J,J,J,J,J] 202 λw2=>G w2 B 253 λw3=>(λAa=>G w3 B 253 λw4=>∃I5:Nat->Int->Int->Int->Int->Int->Int->Int->k_,(∃n6,aR [gg,gj,fq]/\aR A/\I5 n6 (0) aG aH aS eU ja jb w4)/\∀(n6:Nat)(us7:Nat->aC)(x8 x9 bL bS cr cJ cY:Int)(c9:au),I5 n6 x8 x9 bL bS cr cJ cY c9->Z (x8<3) (((0:Int)<=x8/\x8<((3:Nat):Int))/\∃(dO:Int),([(1:Int),J,(2:Int)]:LV)[(x8:Int).toNat*1]? =some (S dO)/\Y 210 #[.agg #[gg,gj,fq],dO] c9.drew (Ri λdQ dA=>K3 w w0 w1 c9.drew dA (ah dA w 0 [x9,bL,bS,cr,cJ,cY]/\Y 263 #[a0,.agg #[x9,bL,bS,cr,cJ,cY],dO,dQ] dA (Mo λfk fX iB jn gG nU Yp eQ=>K3 w w0 w1 dA eQ (Sw eQ w #[fk,fX,iB,jn,gG,nU] λiZ=>(0:Int)<=dO/\dO<((3:Nat):Int)/\(true=true/\Wr iZ (N Aa ((dO:Int).toNat*1)) 1)/\bM (N Aa ((dO:Int).toNat*1))≠some w/\bM (N Aa ((dO:Int).toNat*1))≠some w0/\bM (N Aa ((dO:Int).toNat*1))≠some w1/\(Pw iZ (N Aa ((dO:Int).toNat*1)) [.bool Yp] λgI=>∃n16,n16<n6/\aR [gg,gj,fq]/\aR A/\I5 n16 ((I (x8+1))) fk fX iB jn gG nU gI)))))) (lQ c9.drew Aa λb30 b31 b32=>Sw c9.drew w1 #[x9,bL,bS,cr,cJ,cY] λjV=>ah jV Aa 0 [.bool b30,b31,b32]/\Wt jV ⟨w2,0,none⟩ 3/\Nb w2 w/\Nb w2 w0/\Nb w2 w1/\(Pw jV (O w2) [.bool b30,b31,b32] λke=>lQ ke (O w2) λb35 b36 b37=>R (eP #[.agg #[x9,bL,bS,cr,cJ,cY],.agg #[b35,b36,b37]]) ke))) (O w3)) [J,J,J,J,J,J] #[false,false,false]):Y 212 #[a0,.agg #[aG,aH,aS,eU,ja,jb],.agg #[gg,gj,fq]] w R:= cq ⟨[(3,⟨[(12,.int .i64)],[(0,[.int .i64,.int .i64,.int .i64,.int .i64,.int .i64,.int .i64])],[]⟩)],[],[]⟩ func212 h
def Uw.B(h:(λA B=>G w #[aM,aI,aP,cO,cR,da] 202 λw0=>G w0 #[aG,aH,aS,eU,ja,jb] 202 λw1=>R ((I ((if(I (0-A))>A then(I (0-A))else A)+(if(I (0-B))>B then(I (0-B))else B)))) w1.drew) (I (aG-aM)) (I (aS-aP))):Y 264 #[.agg #[aM,aI,aP,cO,cR,da],.agg #[aG,aH,aS,eU,ja,jb]] w R:= cq bz func264 h
def Ux.B{a0:aC}(h:(λ(A:ae)(B:ae)(C:ae) D (E:LV) (g_:LV) d_ L=>G w A 202 λw0=>G w0 #[gg,gj,fq] 73 λw1=>G w1 B 202 λw2=>(λAa=>G w2 C 253 λw3=>Y 212 #[a0,.agg A,.agg #[gg,gj,fq]] w3 (pa λx5 x6 x7 x8 x9 bL b11 b12 KX w4=>(λ(Ab:ae)(Ac:LV) Ad=>K3 w w0 w1 w3 w4 (G w4 B 202 λcp=>(λAe=>G cp C 253 λc9=>Sw c9 w4 Ab λbZ=>Wt bZ ⟨cp,0,none⟩ 3/\Nb cp w/\Nb cp w0/\Nb cp w1/\Nb cp w4/\(Pw bZ Ae [.bool b11,b12,KX] λcP=>∃J18:k_,((0:Int)<=0/\(0:Int)<D/\Mp cP (N Ae d_) λb19=>Z (!b19) ((0:Int)<=2/\(2:Int)<D/\Mp cP (N Ae L) λb20=>Z (!b20) (lQ cP.drew Ae λb21 b22 b23=>Sw cP.drew w1 Ab λie=>ah ie Ae 0 [.bool b21,b22,b23]/\Wt ie ⟨w2,0,none⟩ 3/\Nb w2 w/\Nb w2 w0/\Nb w2 w1/\Nb w2 w4/\(Pw ie Aa [.bool b21,b22,b23] λdL=>lQ dL Aa λWh Yp Yq=>R (eP #[.agg Ab,.agg #[Wh,Yp,Yq]]) dL)) (Z (a3<=0) (lQ cP.drew Ae λb29 b30 b31=>Sw cP.drew w1 Ab λsY=>ah sY Ae 0 [.bool b29,b30,b31]/\Wt sY ⟨w2,0,none⟩ 3/\Nb w2 w/\Nb w2 w0/\Nb w2 w1/\Nb w2 w4/\(Pw sY Aa [.bool b29,b30,b31] λjV=>lQ jV Aa λb34 b35 b36=>R (eP #[.agg Ab,.agg #[b34,b35,b36]]) jV)) (Y 195 #[a0,.agg A] cP (Rb λb38 jD=>Ad cP jD (Z (!b38) (lQ jD.drew Ae λb39 b40 b41=>Sw jD.drew w1 Ab λnS=>ah nS Ae 0 [.bool b39,b40,b41]/\Wt nS ⟨w2,0,none⟩ 3/\Nb w2 w/\Nb w2 w0/\Nb w2 w1/\Nb w2 w4/\(Pw nS Aa [.bool b39,b40,b41] λiO=>lQ iO Aa λb44 b45 b46=>R (eP #[.agg Ab,.agg #[b44,b45,b46]]) iO)) (aR E/\aR [gg,gj,fq]/\aR g_/\aR Ac/\J18 jD)))))) (Z (a3<=0) (lQ cP.drew Ae λb47 b48 b49=>Sw cP.drew w1 Ab λyR=>ah yR Ae 0 [.bool b47,b48,b49]/\Wt yR ⟨w2,0,none⟩ 3/\Nb w2 w/\Nb w2 w0/\Nb w2 w1/\Nb w2 w4/\(Pw yR Aa [.bool b47,b48,b49] λw51=>lQ w51 Aa λb52 b53 b54=>R (eP #[.agg Ab,.agg #[b52,b53,b54]]) w51)) (Y 195 #[a0,.agg A] cP (Rb λb56 yS=>Ad cP yS (Z (!b56) (lQ yS.drew Ae λb57 b58 b59=>Sw yS.drew w1 Ab λlV=>ah lV Ae 0 [.bool b57,b58,b59]/\Wt lV ⟨w2,0,none⟩ 3/\Nb w2 w/\Nb w2 w0/\Nb w2 w1/\Nb w2 w4/\(Pw lV Aa [.bool b57,b58,b59] λvr=>lQ vr Aa λb62 b63 b64=>R (eP #[.agg Ab,.agg #[b62,b63,b64]]) vr)) (aR E/\aR [gg,gj,fq]/\aR g_/\aR Ac/\J18 yS))))))/\∀axw:Nat->aC,∀(vR:au),J18 vR->Y 263 #[a0,.agg A,(1:Int),S (if 65536<a3 then 65536 else a3)] vR (Mo λvT yD CJ Bf DB K0 b74 pI=>(λ(Af:ae)=>Ad vR pI (G pI B 202 λuh=>Sw uh pI Af λpB=>(λAg Ah Ai=>G pB C 253 λuc=>Wt uc ⟨pB,0,none⟩ 3/\Nb pB w/\Nb pB w0/\Nb pB w1/\Nb pB w4/\Nb pB pI/\(Pw uc Ai [.bool false,true,false] λuf=>(λAj=>G uf B 202 λK9=>Sw K9 uf Af λH5=>Y 263 #[a0,.agg Af,(0:Int),gg] H5 (Mo λEv O0 TV x85 x86 xl b88 wA=>Aj H5 wA (Sw wA uf #[Ev,O0,TV,x85,x86,xl] λwB=>(0:Int)<=0/\(0:Int)<D/\(true=true/\Wr wB Ag 1)/\bM Ag≠some w/\bM Ag≠some w0/\bM Ag≠some w1/\bM Ag≠some w4/\bM Ag≠some pI/\bM Ag≠some uf/\(Pw wB Ag [.bool b88] λrF=>Y 263 #[a0,.agg #[Ev,O0,TV,x85,x86,xl],(2:Int),fq] rF (Mo λTf Wi x94 Wj Wk La b98 w91=>Aj rF w91 (Sw w91 uf #[Tf,Wi,x94,Wj,Wk,La] λIu=>(0:Int)<=2/\(2:Int)<D/\(true=true/\Wr Iu Ah 1)/\bM Ah≠some w/\bM Ah≠some w0/\bM Ah≠some w1/\bM Ah≠some w4/\bM Ah≠some pI/\bM Ah≠some uf/\(Pw Iu Ah [.bool b98] λsZ=>Y 263 #[a0,.agg #[Tf,Wi,x94,Wj,Wk,La],(1:Int),(I (0-(I (yD-aH))))] sZ (Mo λBg Ew Wl Ex Js Ey anM Jt=>(λ(Ak:ae)=>Aj sZ Jt (Sw Jt uf Ak λud=>Y 264 #[.agg A,.agg Ak] ud.drew (Ri λyH Wm=>Aj ud.drew Wm (ah Wm (O w4) 0 Ac/\ah Wm w 0 E/\Y 264 #[.agg A,.agg Ab] Wm (Ri λWn Bh=>Aj Wm Bh (Z (yH<=Wn) (lQ Bh.drew Ae λarT abN Tg=>Sw Bh.drew w1 Ab λWo=>ah Wo Ae 0 [.bool arT,abN,Tg]/\Wt Wo ⟨w2,0,none⟩ 3/\Nb w2 w/\Nb w2 w0/\Nb w2 w1/\Nb w2 w4/\Nb w2 pI/\Nb w2 uf/\(Pw Wo Aa [.bool arT,abN,Tg] λoF=>lQ oF Aa λaxy axz axA=>R (eP #[.agg Ab,.agg #[axy,axz,axA]]) oF)) (lQ Bh.drew Ai λarU arV arW=>Sw Bh.drew w1 Ak λoG=>ah oG Ai 0 [.bool arU,arV,arW]/\Wt oG ⟨w2,0,none⟩ 3/\Nb w2 w/\Nb w2 w0/\Nb w2 w1/\Nb w2 w4/\Nb w2 pI/\Nb w2 uf/\(Pw oG Aa [.bool arU,arV,arW] λarX=>lQ arX Aa λaxB anN axC=>R (eP #[.agg Ak,.agg #[axB,anN,axC]]) arX)))))))) #[Bg,Ew,Wl,Ex,Js,Ey])))))))) (K6 w w0 w1 w4 pI uf))) (N (O pB) d_) (N (O pB) L) (O pB))) #[vT,yD,CJ,Bf,DB,K0]))) (O cp))) #[x5,x6,x7,x8,x9,bL] [x5,x6,x7,x8,x9,bL] (K4 w w0 w1 w4))) (O w2)) #[aG,aH,aS,eU,ja,jb] #[J,J,J,J,J,J] #[false,false,false] ((3:Nat):Int) [aG,aH,aS,eU,ja,jb] [J,J,J,J,J,J] ((0:Int).toNat*1) ((2:Int).toNat*1)):Y 204 #[a0,.agg #[aG,aH,aS,eU,ja,jb],.agg #[gg,gj,fq],a3] w R:= cq ⟨[],[(4,⟨[],[],[]⟩)],[]⟩ func204 h
def DK.B{aM:aX}{aI:aX}{aP:aX}(h:(λA=>G w #[aM,aI,aP] 253 λw0=>G w0 #[aG,aH,aS] 73 λw1=>G w1 #[J,J,J] 73 λw2=>lQ w2 w λb3 b4 b5=>∃I6:Nat->Int->Int->Int->Int->k_,(∃n7,aR A/\I6 n7 (0) aG aH aS w2)/\∀(n7:Nat)(us8:Nat->aC)(x9 bL bS cr:Int)(bw:au),I6 n7 x9 bL bS cr bw->Z (x9<3) (((0:Int)<=x9/\x9<((3:Nat):Int))/\∃(Ym:aX),([.bool b3,b4,b5]:LV)[(x9:Int).toNat*1]? =some (.bool Ym)/\Z Ym (Y 211 #[.agg #[bL,bS,cr],x9,(0:Int)] bw (mg λdO dc dQ bZ=>K2 w0 w1 bw bZ (Sw bZ w0 #[dO,dc,dQ] λeQ=>∃n14,n14<n7/\aR A/\I6 n14 ((I (x9+1))) dO dc dQ eQ))) (∃n14,n14<n7/\aR A/\I6 n14 ((I (x9+1))) bL bS cr bw)) (Sw bw w1 #[bL,bS,cr] λdi=>R (tO #[bL,bS,cr]) di)) [J,J,J]):Y 208 #[.agg #[aM,aI,aP],.agg #[aG,aH,aS]] w R:= cq ⟨[(2,⟨[(8,.int .i64)],[(0,[.int .i64,.int .i64,.int .i64])],[]⟩)],[],[]⟩ func208 h
def IL.B{fB:aX}(h:(λ(A:LV)=>G w #[aM,aI,aP,cO,cR,da,gJ,gC,fB] 75 λw0=>G w0 #[aG,aH,aS] 73 λw1=>G w1 #[J,J,J] 73 λw2=>Y 206 #[.agg #[aM,aI,aP],.agg #[aG,aH,aS]] w2 (mg λx4 x5 x6 w3=>(λAa=>K3 w w0 w1 w2 w3 (G w3 #[J,J,J] 73 λw7=>Sw w7 w3 #[x4,x5,x6] λw8=>Y 265 #[x4] w8.drew (Ri λbL w9=>Aa w8.drew w9 (ah w9 w 0 A/\ah w9 (jM w3 2) 0 [x6]/\ah w9 (jM w3 1) 0 [x5]/\Y 265 #[x5] w9 (Ri λcr bE=>Aa w9 bE (ah bE w 0 A/\ah bE (jM w3 2) 0 [x6]/\Y 265 #[x6] bE (Ri λcY bw=>Aa bE bw (ah bw w 0 A/\Y 207 #[.agg #[bL,cr,cY],.agg #[aM,aI,aP]] bw (mg λdw dO dc c9=>Aa bw c9 (Sw c9 w1 #[dw,dO,dc] λfm=>R (tO #[dw,dO,dc]) fm)))))))))) (K4 w w0 w1 w3))) [aM,aI,aP]):Y 205 #[.agg #[aM,aI,aP,cO,cR,da,gJ,gC,fB],.agg #[aG,aH,aS]] w R:= cq bz func205 h
def DL.B(h:(λA=>R (S (if 70368744177664<A then 70368744177664 else A)) w) (if(-70368744177664)>a0 then(-70368744177664)else a0)):Y 265 #[a0] w R:= cq bz func265 h
def Uy.B(h: Y 257 #[a0] w (fw λx1 w0=>Z (x1<0) (R (eP #[.int .u64 (fC (I (0-x1))),true]) w0) (R (eP #[.int .u64 (fC x1),false]) w0))):Y 258 #[a0] w R:= cq bz func258 h
def PY.B{a1:aX}{a2:aX}(h: G w #[a1] 4 λw0=>G w0 #[a2] 4 λw1=>Z (a0>=140737488355328) (Wr w1 w 1/\(Pw w1 w [.bool false] λw2=>Mp w2 (O w0) λb3=>Z b3 (Y 318 #[.int .u64 140737488355328,.pointer (O w0),w] w2 (λe w4=>∃(x5:Int),e=vc .u64 x5/\R ((I (0-(I x5)))) w4)) (R ((I 140737488355328)) w2))) (Mp w1 (O w0) λb6=>Z b6 (Y 318 #[.int .u64 a0,.pointer (O w0),w] w1 (λe w7=>∃(x8:Int),e=vc .u64 x8/\R ((I (0-(I x8)))) w7)) (R ((I a0)) w1))):Y 260 #[.int .u64 a0,a1,a2] w R:= cq bz func260 h
def IM.B(h:(λA=>Mp w (some c0) λb0=>Z b0 (Mp w (some c1) λb1=>Z b1 (R (vc .u64 (fC (a0+1))) w) A) A) (R (vc .u64 a0) w)):Y 318 #[.int .u64 a0,c0,c1] w R:= cq bz func318 h
def DM.B(h:(λA B C D=>R (eP #[.int .u64 (fC ((fC ((fC ((D.fdiv A)*((a1:Int).fdiv A)))+(((fC ((fC ((D.fdiv A)*B))+(((fC (C*B)):Int).fdiv A))):Int).fdiv A)))+(((fC ((tI .u64 (fC ((fC ((D.fdiv A)*B))+(((fC (C*B)):Int).fdiv A))) 4294967295)+(fC (C*((a1:Int).fdiv A))))):Int).fdiv A))),.int .u64 (fC (a0*a1))]) w) (2^(min (32:Int).toNat 64)) (tI .u64 a1 4294967295) (tI .u64 a0 4294967295) (a0:Int)):Y 259 #[.int .u64 a0,.int .u64 a1] w R:= cq bz func259 h
def Y9.B(h: Y 258 #[a0] w (ah0 λx1 b2 w0=>Y 258 #[a1] w0 (ah0 λx4 b5 w3=>Y 259 #[.int .u64 x1,.int .u64 x4] w3 (λe w6=>∃(x7 x8:Int),e=bT #[.int .u64 x7,.int .u64 x8]/\Z (x7>0) (Y 260 #[.int .u64 140737488355328,.bool (((Int.tmod x8 65536):Int) !=0),.bool (!(b2==b5))] w6 (fw λbL w9=>R bL w9)) (Y 260 #[.int .u64 ((x8:Int).fdiv (2^(min (16:Int).toNat 64))),.bool (((Int.tmod x8 65536):Int) !=0),.bool (!(b2==b5))] w6 (fw λcr bE=>R cr bE)))))):Y 200 #[a0,a1] w R:= cq bz func200 h
def zD.B(h:(λA=>Y 200 #[S (if 65536<A then 65536 else A),(16384:Int)] w (fw λx1 w0=>R x1 w0)) (if(-65536)>a0 then(-65536)else a0)):Y 199 #[a0] w R:= cq bz func199 h
def DN.B{fB:aX}{a1:aC}{fq:aX}(h: G w #[aM,aI,aP,cO,cR,da,gJ,gC,fB] 75 λw0=>G w0 #[gg,gj,fq] 101 λw1=>G w1 #[J,J,J,J,J,J,J,J,false] 75 λw2=>Y 199 #[gg] w2.drew (Ri λx4 w3=>K3 w w0 w1 w2.drew w3 (ah w3 (jM w0 1) 0 [gj]/\Y 199 #[gj] w3 (Ri λx6 w5=>(λAa=>K3 w w0 w1 w3 w5 (Sw w5 w #[aM,aI,aP,x4,cR,da,gJ,gC,fB] λw7=>Sw w7 w Aa λw8=>Sw w8 w1 Aa λw9=>R (vI Aa) w9)) #[aM,aI,aP,x4,cR,x6,gJ,gC,fB])))):Y 139 #[.agg #[aM,aI,aP,cO,cR,da,gJ,gC,fB],a1,.agg #[gg,gj,fq]] w R:= cq bz func139 h
def zE.B(h:(λA=>eO w.drew A λp0=>eO w.drew A λp1=>aO (eE p1) (jr w.drew p1 λx2=>aO (eE p0) (((p0).isSome=true/\Wr w.drew p0 1)/\(Pw w.drew p0 [S (if(I (0-a2))>(I (x2-a1))then(I (0-a2))else(I (x2-a1)))] λw3=>Mp w3 (N (some c1) 2) λb4=>Z b4 (eO w3 A λp5=>aO (eE p5) (((p5).isSome=true/\Wr w3 p5 1)/\(Pw w3 p5 [a0] λw6=>R pz w6))) (R pz w3))))) (some c0)):Y 201 #[a0,a1,a2,c0,c1] w R:= cq bz func201 h
def DP.B{fB:aX}{a1:aC}{fq:aX}(h:(λ(A:ae) B=>G w A 75 λw0=>(λAa Ab=>G w0 #[gg,gj,fq] 101 λw1=>G w1 #[J,J,J,J,J,J,J,J,false] 75 λw2=>Y 149 #[.agg A] w2 (C2 λx4 x5 x6 x7 x8 x9 w3=>(λ(Ac:ae) Ad=>K3 w w0 w1 w2 w3 (G w3 #[J,J,J,J,J,J] 202 λbr=>(λ(Ae:ae)=>G br #[i_] 250 λbE=>Sw bE w3 #[x4,x5,x6,x7,x8,x9] λbN=>Sw bN br #[.pointer (jM w 4)] λbw=>Y 202 Ac bw (Rb λYm cp=>Ad bw cp (Z Ym (Y 201 #[B,(4096:Int),B,.pointer (O br),.pointer Ab] cp (Rt λbZ=>Ad cp bZ (jR bZ w λdO dc dQ fe fk fX iB jn b25=>(λ(Af:ae)=>Sw bZ w1 Af λkN=>R (vI Af) kN) #[dO,dc,dQ,fe,fk,fX,iB,jn,b25]))) (Y 203 Ac cp (Rb λYq gO=>Ad cp gO (Z Yq (Y 201 #[(6144:Int),(1024:Int),B,.pointer (O br),.pointer Ab] gO (Rt λgI=>Ad gO gI (jR gI w λtF oO mP gA jW py oP mO b38=>(λ(Ag:ae)=>Sw gI w1 Ag λlG=>R (vI Ag) lG) #[tF,oO,mP,gA,jW,py,oP,mO,b38]))) (Mp gO Aa λb40=>Z b40 (Y 195 Ac gO (Rb λb42 kO=>Ad gO kO (Wr kO Aa 1/\Nq Aa w1/\Nq Aa w3/\(Pw kO Aa [.bool b42] λiO=>Y 201 Ae iO (Rt λkf=>Ad iO kf (jR kf w λxm oq A9 Es Jp Ba vp tG b53=>(λ(Ah:ae)=>Sw kf w1 Ah λw54=>R (vI Ah) w54) #[xm,oq,A9,Es,Jp,Ba,vp,tG,b53])))))) (Wr gO Aa 1/\Nq Aa w1/\Nq Aa w3/\(Pw gO Aa [.bool false] λyS=>Y 201 Ae yS (Rt λyC=>Ad yS yC (jR yC w λH8 Fa Iv qF KY rD Bo Lb b65=>(λ(Ai:ae)=>Sw yC w1 Ai λvR=>R (vI Ai) vR) #[H8,Fa,Iv,qF,KY,rD,Bo,Lb,b65]))))))))))) #[(28672:Int),(4096:Int),(262144:Int),.pointer (O br),.pointer Ab])) #[a1,.agg #[x4,x5,x6,x7,x8,x9]] (K2 w1 w3))) (jM w0 2) (O w0)) #[aM,aI,aP,cO,cR,da,gJ,gC,fB] (8192:Int)):Y 140 #[.agg #[aM,aI,aP,cO,cR,da,gJ,gC,fB],a1,.agg #[gg,gj,fq]] w R:= cq bz func140 h
def Gc.B{fB:aX}{a1:aC}{fq:aX}(h:(λA B C D E g_ d_ L=>G w L 75 λw0=>G w0 #[gg,gj,fq] 101 λw1=>G w1 #[J,J,J,J,J,J,J,J,false] 75 λw2=>Y 149 #[.agg L] w2 (C2 λx4 x5 x6 x7 x8 x9 w3=>(λAa Ab Ac Ad=>K3 w w0 w1 w2 w3 (G w3 C 202 λbr=>Sw br w3 Ab λbE=>(λAe=>∃CK:ai->ai->k_,((Y 205 D bE.drew (mg λcY dn dw bw=>(λAf Ag Ah=>Ac bE.drew bw (ah bw Ad 0 Aa/\(Y 204 Af bw (pa λdc dQ fe fk fX iB b24 b25 Wh cP=>Ac bw cP ((G cP C 202 λgO=>G gO E 253 λiZ=>Sw iZ cP #[dc,dQ,fe,fk,fX,iB] λgI=>Wt gI ⟨gO,0,none⟩ 3/\Nb gO w/\Nb gO w0/\Nb gO w1/\Nb gO w3/\Nb gO cP/\(Pw gI (O gO) [.bool b24,b25,Wh] λpw=>aR B/\aR g_/\aR A/\aR Aa/\CK (O cP) (O gO) pw))/\(G cP E 253 λia=>G ia C 202 λsY=>Sw sY ia #[dc,dQ,fe,fk,fX,iB] λjV=>Wt jV ⟨cP,0,none⟩ 3/\Nb cP w/\Nb cP w0/\Nb cP w1/\Nb cP w3/\Nb cP ia/\(Pw jV (O cP) [.bool b24,b25,Wh] λke=>aR B/\aR g_/\aR A/\aR Aa/\CK (O ia) (O cP) ke)))))/\(G bw C 202 λiD=>(Y 204 Af iD (pa λmO nC rq rE kA yT b43 b44 b45 mG=>Ah iD mG (G mG E 253 λIw=>Sw Iw bw #[mO,nC,rq,rE,kA,yT] λoE=>Wt oE ⟨mG,0,none⟩ 3/\Nb mG w/\Nb mG w0/\Nb mG w1/\Nb mG w3/\Nb mG bw/\(Pw oE (O mG) [.bool b43,b44,b45] λlI=>aR B/\aR g_/\aR A/\aR Aa/\CK Ag (O mG) lI))))/\(G iD E 253 λnB=>Y 204 Af nB (pa λvp tG lU CI vS OY b57 b58 b59 yR=>Ah nB yR (Sw yR bw #[vp,tG,lU,CI,vS,OY] λlV=>Wt lV ⟨iD,0,none⟩ 3/\Nb iD w/\Nb iD w0/\Nb iD w1/\Nb iD w3/\Nb iD bw/\(Pw lV (O iD) [.bool b57,b58,b59] λvr=>aR B/\aR g_/\aR A/\aR Aa/\CK Ag (O iD) vr)))))/\(G bw E 253 λjU=>(Y 204 Af jU (pa λLb Be rG yB vT yD b70 b71 b72 Ov=>Ac jU Ov (G Ov C 202 λJu=>Sw Ju Ov #[Lb,Be,rG,yB,vT,yD] λCE=>Wt CE ⟨bw,0,none⟩ 3/\Nb bw w/\Nb bw w0/\Nb bw w1/\Nb bw w3/\Nb bw Ov/\(Pw CE Ag [.bool b70,b71,b72] λuh=>aR B/\aR g_/\aR A/\aR Aa/\CK (O Ov) Ag uh))))/\(G jU C 202 λpB=>Y 204 Af pB (pa λx78 Yl Oy H9 Ev O0 b84 b85 b86 uc=>K5 w w0 w1 w3 jU pB uc (Sw uc jU #[x78,Yl,Oy,H9,Ev,O0] λIx=>Wt Ix ⟨bw,0,none⟩ 3/\Nb bw w/\Nb bw w0/\Nb bw w1/\Nb bw w3/\Nb bw jU/\(Pw Ix Ag [.bool b84,b85,b86] λTW=>aR B/\aR g_/\aR A/\aR Aa/\CK (O jU) Ag TW))))))) #[a1,.agg Ab,.agg #[cY,dn,dw],d_] (O bw) (K5 w w0 w1 w3 bw)))/\(G bE.drew C 202 λwB=>(Y 205 D wB (mg λOz Tf Wi rF=>(λAi Aj=>Ac wB rF (ox bE wB rF/\ah rF Ad 0 Aa/\(Y 204 Ai rF (pa λWj Wk La x98 Yr Bi anO anP af3 Iy=>Ac rF Iy (ox bE rF Iy/\G Iy E 253 λabP=>Sw abP bE.drew.heap.size #[Wj,Wk,La,x98,Yr,Bi] λBj=>Wt Bj ⟨Iy,0,none⟩ 3/\Nb Iy w/\Nb Iy w0/\Nb Iy w1/\Nb Iy w3/\bM (O Iy)≠some bE.drew.heap.size/\(Pw Bj (O Iy) [.bool anO,anP,af3] λyI=>aR B/\aR g_/\aR A/\aR Aa/\CK Ae (O Iy) yI))))/\(G rF E 253 λIa=>Y 204 Ai Ia (pa λru lJ yH lK Wn af4 abN Tg anQ Wp=>Ac Ia Wp (ox bE Ia Wp/\Sw Wp bE.drew.heap.size #[ru,lJ,yH,lK,Wn,af4] λoF=>Wt oF ⟨rF,0,none⟩ 3/\Nb rF w/\Nb rF w0/\Nb rF w1/\Nb rF w3/\bM Aj≠some bE.drew.heap.size/\(Pw oF Aj [.bool abN,Tg,anQ] λJv=>aR B/\aR g_/\aR A/\aR Aa/\CK Ae Aj Jv)))))) #[a1,.agg Ab,.agg #[Oz,Tf,Wi],d_] (O rF)))/\(G wB E 253 λEz=>Y 205 D Ez (mg λaf5 Wq Ws CL=>Ac Ez CL (ox bE Ez CL/\ah CL Ad 0 Aa/\Y 204 #[a1,.agg Ab,.agg #[af5,Wq,Ws],d_] CL (pa λIb Wu af6 af7 af8 af9 anR anT anU oG=>Ac CL oG (ox bE CL oG/\Sw oG bE.drew.heap.size #[Ib,Wu,af6,af7,af8,af9] λaga=>Wt aga ⟨wB,0,none⟩ 3/\Nb wB w/\Nb wB w0/\Nb wB w1/\Nb wB w3/\bM (O wB)≠some bE.drew.heap.size/\(Pw aga (O wB) [.bool anR,anT,anU] λanV=>aR B/\aR g_/\aR A/\aR Aa/\CK Ae (O wB) anV)))))))/\(G bE.drew E 253 λvu=>(Y 205 D vu (mg λWv agb anW ta=>(λAk=>Ac vu ta (ah ta Ad 0 Aa/\(Y 204 Ak ta (pa λanX agc agd age Th agf anY anZ an1 rz=>Ac ta rz (G rz C 202 λan2=>Sw an2 rz #[anX,agc,agd,age,Th,agf] λagh=>Wt agh ⟨bE.drew.heap.size,0,none⟩ 3/\Nq Ae w/\Nq Ae w0/\Nq Ae w1/\Nq Ae w3/\Nq Ae rz/\(Pw agh Ae [.bool anY,anZ,an1] λan3=>aR B/\aR g_/\aR A/\aR Aa/\CK (O rz) Ae an3))))/\(G ta C 202 λagi=>Y 204 Ak agi (pa λan4 an5 an6 an7 an8 an9 aoa aob aoc agj=>K5 w w0 w1 w3 ta agi agj (Sw agj ta #[an4,an5,an6,an7,an8,an9] λagk=>Wt agk ⟨bE.drew.heap.size,0,none⟩ 3/\Nq Ae w/\Nq Ae w0/\Nq Ae w1/\Nq Ae w3/\Nq Ae ta/\(Pw agk Ae [.bool aoa,aob,aoc] λaod=>aR B/\aR g_/\aR A/\aR Aa/\CK (O ta) Ae aod)))))) #[a1,.agg Ab,.agg #[Wv,agb,anW],d_]))/\(G vu C 202 λagl=>Y 205 D agl (mg λagm agn ago OJ=>K5 w w0 w1 w3 vu agl OJ (ah OJ Ad 0 Aa/\Y 204 #[a1,.agg Ab,.agg #[agm,agn,ago],d_] OJ (pa λagp CM aoe aof aog aoh aoi aoj aok agq=>K5 w w0 w1 w3 vu OJ agq (Sw agq vu #[agp,CM,aoe,aof,aog,aoh] λagr=>Wt agr ⟨bE.drew.heap.size,0,none⟩ 3/\Nq Ae w/\Nq Ae w0/\Nq Ae w1/\Nq Ae w3/\Nq Ae vu/\(Pw agr Ae [.bool aoi,aoj,aok] λaol=>aR B/\aR g_/\aR A/\aR Aa/\CK (O vu) Ae aol))))))))/\∀arZ:Nat->aC,∀(Jw aom:ai)(Ti:au),CK Jw aom Ti->aO (eE Jw) (gU Ti.drew (N Jw 0) λabQ aon EA=>Y 207 #[.agg #[abQ,aon,EA],.agg #[x4,x5,x6]] Ti.drew (mg λaoo EB Jy Jz=>Ac Ti.drew Jz (ah Jz w 0 [aM,aI,aP]/\Y 206 #[.agg #[aM,aI,aP],.agg #[aoo,EB,Jy]] Jz (mg λWw ags Wx Tj=>Ac Jz Tj (Sw Tj w #[Ww,ags,Wx,cO,cR,da,gJ,gC,fB] λyJ=>lQ yJ aom λaxF axG axH=>Y 208 #[.agg #[axF,axG,axH],.agg #[cO,cR,da]] yJ (mg λOK agt agu aop=>Ac yJ aop (Sw aop w #[Ww,ags,Wx,OK,agt,agu,gJ,gC,fB] λabR=>C3 abR Jw λaxI axJ axL axM axN axO=>Y 195 #[a1,.agg #[axI,axJ,axL,axM,axN,axO]] abR (Rb λaxQ aoq=>(λAl=>Ac abR aoq (Sw aoq w Al λar0=>Sw ar0 w1 Al λar1=>R (vI Al) ar1)) #[Ww,ags,Wx,OK,agt,agu,gJ,gC,axQ]))))))))) (O bE.drew.heap.size))) [x4,x5,x6,x7,x8,x9] #[x4,x5,x6,x7,x8,x9] (K4 w w0 w1 w3) (O w3))) [J,J,J,J,J,J,J,J,false] [aM,aI,aP,cO,cR,da,gJ,gC,fB] #[J,J,J,J,J,J] #[.agg #[aM,aI,aP,cO,cR,da,gJ,gC,fB],.agg #[cO,cR,da]] #[false,false,false] [gg,gj,fq] (32768:Int) #[aM,aI,aP,cO,cR,da,gJ,gC,fB]):Y 141 #[.agg #[aM,aI,aP,cO,cR,da,gJ,gC,fB],a1,.agg #[gg,gj,fq]] w R:= cq ⟨[],[(3,⟨[(8,.ptr),(9,.ptr)],[],[]⟩)],[]⟩ func141 h
def Gd.B{fB:aX}{a1:aC}{fq:aX}(h:(λA=>G w #[aM,aI,aP,cO,cR,da,gJ,gC,fB] 75 λw0=>G w0 #[gg,gj,fq] 101 λw1=>G w1 #[J,J,J,J,J,J,J,J,false] 75 λw2=>∃I3:Nat->Int->Int->Int->Int->Int->Int->Int->Int->Int->aX->k_,(∃n4,aR [gg,gj,fq]/\aR A/\I3 n4 (0) aM aI aP cO cR da gJ gC fB w2)/\∀(n4:Nat)(us5:Nat->aC)(x6 x7 x8 x9 bL bS cr cJ cY:Int)(Ym:aX)(bZ:au),I3 n4 x6 x7 x8 x9 bL bS cr cJ cY Ym bZ->Z (x6<3) (((0:Int)<=x6/\x6<((3:Nat):Int))/\∃(v18:aC),([.func (.func 139) #[] #[],.func (.func 140) #[] #[],.func (.func 141) #[] #[]]:LV)[(x6:Int).toNat*1]? =some (v18)/\bu ka5 v18 [.agg #[x7,x8,x9,bL,bS,cr,cJ,cY,Ym],a1,.agg #[gg,gj,fq]] bZ (ah1 λfe fk fX iB jn gG nU jl Yq fm=>K3 w w0 w1 bZ fm (Sw fm w #[fe,fk,fX,iB,jn,gG,nU,jl,Yq] λgI=>∃n17,n17<n4/\aR [gg,gj,fq]/\aR A/\I3 n17 ((I (x6+1))) fe fk fX iB jn gG nU jl Yq gI))) (Sw bZ w1 #[x7,x8,x9,bL,bS,cr,cJ,cY,Ym] λpw=>R (tO #[x7,x8,x9,bL,bS,cr,cJ,cY,Ym]) pw)) [J,J,J,J,J,J,J,J,false]):Y 80 #[.agg #[aM,aI,aP,cO,cR,da,gJ,gC,fB],a1,.agg #[gg,gj,fq]] w R:= cq ⟨[(2,⟨[(10,.int .i64)],[(0,[.int .i64,.int .i64,.int .i64,.int .i64,.int .i64,.int .i64,.int .i64,.int .i64,.bool])],[]⟩)],[],[]⟩ func80 h
def DQ.B{fB:aX}{a1:aC}(h:(λA B C D E g_ d_=>G w d_ 75 λw0=>G w0 #[gg,gj,fq] 73 λw1=>G w1 #[J,J,J,J,J,J,J,J,false] 75 λw2=>Y 149 #[.agg d_] w2 (C2 λx4 x5 x6 x7 x8 x9 w3=>(λAa Ab Ac Ad=>K3 w w0 w1 w2 w3 (G w3 C 202 λbr=>Sw br w3 Ab λbE=>(λAe=>∃CK:ai->k_,((Y 205 D bE.drew (mg λcY dn dw bw=>(λAf Ag Ah=>Ac bE.drew bw (ah bw Ad 0 Aa/\(Y 212 Af bw (pa λdc dQ fe fk fX iB b24 b25 Wh cP=>Ac bw cP ((G cP C 202 λgO=>G gO E 253 λiZ=>Sw iZ cP #[dc,dQ,fe,fk,fX,iB] λgI=>Wt gI ⟨gO,0,none⟩ 3/\Nb gO w/\Nb gO w0/\Nb gO w1/\Nb gO w3/\Nb gO cP/\(Pw gI (O gO) [.bool b24,b25,Wh] λpw=>aR B/\aR g_/\aR A/\aR Aa/\CK (O cP) pw))/\(G cP E 253 λia=>G ia C 202 λsY=>Sw sY ia #[dc,dQ,fe,fk,fX,iB] λjV=>Wt jV ⟨cP,0,none⟩ 3/\Nb cP w/\Nb cP w0/\Nb cP w1/\Nb cP w3/\Nb cP ia/\(Pw jV (O cP) [.bool b24,b25,Wh] λke=>aR B/\aR g_/\aR A/\aR Aa/\CK (O ia) ke)))))/\(G bw C 202 λiD=>(Y 212 Af iD (pa λmO nC rq rE kA yT b43 b44 b45 mG=>Ah iD mG (G mG E 253 λIw=>Sw Iw bw #[mO,nC,rq,rE,kA,yT] λoE=>Wt oE ⟨mG,0,none⟩ 3/\Nb mG w/\Nb mG w0/\Nb mG w1/\Nb mG w3/\Nb mG bw/\(Pw oE (O mG) [.bool b43,b44,b45] λlI=>aR B/\aR g_/\aR A/\aR Aa/\CK Ag lI))))/\(G iD E 253 λnB=>Y 212 Af nB (pa λvp tG lU CI vS OY b57 b58 b59 yR=>Ah nB yR (Sw yR bw #[vp,tG,lU,CI,vS,OY] λlV=>Wt lV ⟨iD,0,none⟩ 3/\Nb iD w/\Nb iD w0/\Nb iD w1/\Nb iD w3/\Nb iD bw/\(Pw lV (O iD) [.bool b57,b58,b59] λvr=>aR B/\aR g_/\aR A/\aR Aa/\CK Ag vr)))))/\(G bw E 253 λjU=>(Y 212 Af jU (pa λLb Be rG yB vT yD b70 b71 b72 Ov=>Ac jU Ov (G Ov C 202 λJu=>Sw Ju Ov #[Lb,Be,rG,yB,vT,yD] λCE=>Wt CE ⟨bw,0,none⟩ 3/\Nb bw w/\Nb bw w0/\Nb bw w1/\Nb bw w3/\Nb bw Ov/\(Pw CE Ag [.bool b70,b71,b72] λuh=>aR B/\aR g_/\aR A/\aR Aa/\CK (O Ov) uh))))/\(G jU C 202 λpB=>Y 212 Af pB (pa λx78 Yl Oy H9 Ev O0 b84 b85 b86 uc=>K5 w w0 w1 w3 jU pB uc (Sw uc jU #[x78,Yl,Oy,H9,Ev,O0] λIx=>Wt Ix ⟨bw,0,none⟩ 3/\Nb bw w/\Nb bw w0/\Nb bw w1/\Nb bw w3/\Nb bw jU/\(Pw Ix Ag [.bool b84,b85,b86] λTW=>aR B/\aR g_/\aR A/\aR Aa/\CK (O jU) TW))))))) #[a1,.agg Ab,.agg #[cY,dn,dw]] (O bw) (K5 w w0 w1 w3 bw)))/\(G bE.drew C 202 λwB=>(Y 205 D wB (mg λOz Tf Wi rF=>(λAi=>Ac wB rF (ox bE wB rF/\ah rF Ad 0 Aa/\(Y 212 Ai rF (pa λWj Wk La x98 Yr Bi anO anP af3 Iy=>Ac rF Iy (ox bE rF Iy/\G Iy E 253 λabP=>Sw abP bE.drew.heap.size #[Wj,Wk,La,x98,Yr,Bi] λBj=>Wt Bj ⟨Iy,0,none⟩ 3/\Nb Iy w/\Nb Iy w0/\Nb Iy w1/\Nb Iy w3/\bM (O Iy)≠some bE.drew.heap.size/\(Pw Bj (O Iy) [.bool anO,anP,af3] λyI=>aR B/\aR g_/\aR A/\aR Aa/\CK Ae yI))))/\(G rF E 253 λIa=>Y 212 Ai Ia (pa λru lJ yH lK Wn af4 abN Tg anQ Wp=>Ac Ia Wp (ox bE Ia Wp/\Sw Wp bE.drew.heap.size #[ru,lJ,yH,lK,Wn,af4] λoF=>Wt oF ⟨rF,0,none⟩ 3/\Nb rF w/\Nb rF w0/\Nb rF w1/\Nb rF w3/\bM (O rF)≠some bE.drew.heap.size/\(Pw oF (O rF) [.bool abN,Tg,anQ] λJv=>aR B/\aR g_/\aR A/\aR Aa/\CK Ae Jv)))))) #[a1,.agg Ab,.agg #[Oz,Tf,Wi]]))/\(G wB E 253 λEz=>Y 205 D Ez (mg λaf5 Wq Ws CL=>Ac Ez CL (ox bE Ez CL/\ah CL Ad 0 Aa/\Y 212 #[a1,.agg Ab,.agg #[af5,Wq,Ws]] CL (pa λIb Wu af6 af7 af8 af9 anR anT anU oG=>Ac CL oG (ox bE CL oG/\Sw oG bE.drew.heap.size #[Ib,Wu,af6,af7,af8,af9] λaga=>Wt aga ⟨wB,0,none⟩ 3/\Nb wB w/\Nb wB w0/\Nb wB w1/\Nb wB w3/\bM (O wB)≠some bE.drew.heap.size/\(Pw aga (O wB) [.bool anR,anT,anU] λanV=>aR B/\aR g_/\aR A/\aR Aa/\CK Ae anV)))))))/\(G bE.drew E 253 λvu=>(Y 205 D vu (mg λWv agb anW ta=>(λAj=>Ac vu ta (ah ta Ad 0 Aa/\(Y 212 Aj ta (pa λanX agc agd age Th agf anY anZ an1 rz=>Ac ta rz (G rz C 202 λan2=>Sw an2 rz #[anX,agc,agd,age,Th,agf] λagh=>Wt agh ⟨bE.drew.heap.size,0,none⟩ 3/\Nq Ae w/\Nq Ae w0/\Nq Ae w1/\Nq Ae w3/\Nq Ae rz/\(Pw agh Ae [.bool anY,anZ,an1] λan3=>aR B/\aR g_/\aR A/\aR Aa/\CK (O rz) an3))))/\(G ta C 202 λagi=>Y 212 Aj agi (pa λan4 an5 an6 an7 an8 an9 aoa aob aoc agj=>K5 w w0 w1 w3 ta agi agj (Sw agj ta #[an4,an5,an6,an7,an8,an9] λagk=>Wt agk ⟨bE.drew.heap.size,0,none⟩ 3/\Nq Ae w/\Nq Ae w0/\Nq Ae w1/\Nq Ae w3/\Nq Ae ta/\(Pw agk Ae [.bool aoa,aob,aoc] λaod=>aR B/\aR g_/\aR A/\aR Aa/\CK (O ta) aod)))))) #[a1,.agg Ab,.agg #[Wv,agb,anW]]))/\(G vu C 202 λagl=>Y 205 D agl (mg λagm agn ago OJ=>K5 w w0 w1 w3 vu agl OJ (ah OJ Ad 0 Aa/\Y 212 #[a1,.agg Ab,.agg #[agm,agn,ago]] OJ (pa λagp CM aoe aof aog aoh aoi aoj aok agq=>K5 w w0 w1 w3 vu OJ agq (Sw agq vu #[agp,CM,aoe,aof,aog,aoh] λagr=>Wt agr ⟨bE.drew.heap.size,0,none⟩ 3/\Nq Ae w/\Nq Ae w0/\Nq Ae w1/\Nq Ae w3/\Nq Ae vu/\(Pw agr Ae [.bool aoi,aoj,aok] λaol=>aR B/\aR g_/\aR A/\aR Aa/\CK (O vu) aol))))))))/\∀arZ:Nat->aC,∀(Jw:ai)(ajL:au),CK Jw ajL->aO (eE Jw) (gU ajL.drew (N Jw 0) λTk abQ aon=>Y 207 #[.agg #[Tk,abQ,aon],.agg #[x4,x5,x6]] ajL.drew (mg λEC aoo EB abS=>Ac ajL.drew abS (ah abS w 0 [aM,aI,aP]/\Y 206 #[.agg #[aM,aI,aP],.agg #[EC,aoo,EB]] abS (mg λpJ Ww ags aor=>(λAk=>Ac abS aor (Sw aor w Ak λar2=>Sw ar2 w1 Ak λyJ=>R (vI Ak) yJ)) #[pJ,Ww,ags,cO,cR,da,gJ,gC,fB]))))) (O bE.drew.heap.size))) [x4,x5,x6,x7,x8,x9] #[x4,x5,x6,x7,x8,x9] (K4 w w0 w1 w3) (O w3))) [J,J,J,J,J,J,J,J,false] [aM,aI,aP,cO,cR,da,gJ,gC,fB] #[J,J,J,J,J,J] #[.agg #[aM,aI,aP,cO,cR,da,gJ,gC,fB],.agg #[gg,gj,fq]] #[false,false,false] [gg,gj,fq] #[aM,aI,aP,cO,cR,da,gJ,gC,fB]):Y 144 #[.agg #[aM,aI,aP,cO,cR,da,gJ,gC,fB],a1,.agg #[gg,gj,fq]] w R:= cq ⟨[],[(3,⟨[(8,.ptr)],[],[]⟩)],[]⟩ func144 h
def ah2.B{a0:aC}(h: rP (λI0 n1=>I0 n1 (0) w) λI0 n1 Bn x3 w4=>Z (x3<3) (bu ka5 a0 [x3] w4 (yM λb7 w6=>Z (!b7) (R false w6) (∃n5,n5<n1/\I0 n5 ((I (x3+1))) w6))) (R true w4)):Y 215 #[a0] w R:= cq (Mq 2 4) func215 h
def IN.B(h:(λA B=>gU w.drew (N (some c0) 0) λx0 x1 x2=>gU w.drew A λx3 x4 x5=>Y 210 #[.agg #[x0,x1,x2],a0] w.drew (fw λx7 w6=>ah w6 A 0 [x3,x4,x5]/\Y 210 #[.agg #[x3,x4,x5],a0] w6 (fw λx9 w8=>Z (x7<x9) (gU w8 (N (some c1) 0) λbL bS cr=>gU w8 B λcJ cY dn=>Y 210 #[.agg #[bL,bS,cr],a0] w8 (fw λdO bZ=>ah bZ B 0 [cJ,cY,dn]/\Y 210 #[.agg #[cJ,cY,dn],a0] bZ (fw λdQ dA=>R (Ga (decide (dO<dQ))) dA))) (R false w8)))) (N (some c1) 3) (N (some c0) 3)):Y 216 #[a0,c0,c1] w R:= cq bz func216 h
def PZ.B(h: G w #[aM,aI,aP,cO,cR,da] 202 λw0=>G w0 #[aG,aH,aS,eU,ja,jb] 202 λw1=>Y 215 #[.func (.func 216) #[] #[w,.pointer (O w0)]] w1 (yM λb3 w2=>R b3 w2)):Y 148 #[.agg #[aM,aI,aP,cO,cR,da],.agg #[aG,aH,aS,eU,ja,jb]] w R:= cq bz func148 h
def P2.B(h:(λA B C=>gU w.drew (N (some c0) 3) λx0 x1 x2=>gU w.drew C λx3 x4 x5=>gU w.drew B λx6 x7 x8=>gU w.drew A λx9 bL bS=>Y 210 #[.agg #[x0,x1,x2],a0] w.drew (fw λcJ bN=>ah bN A 0 [x9,bL,bS]/\ah bN B 0 [x6,x7,x8]/\ah bN C 0 [x3,x4,x5]/\Y 210 #[.agg #[x3,x4,x5],a0] bN (fw λdn cp=>ah cp A 0 [x9,bL,bS]/\ah cp B 0 [x6,x7,x8]/\Y 210 #[.agg #[x6,x7,x8],a0] cp (fw λdO bZ=>ah bZ A 0 [x9,bL,bS]/\Y 210 #[.agg #[x9,bL,bS],a0] bZ (fw λdQ dA=>R ((I ((if dn<cJ then dn else cJ)-(if dQ>dO then dQ else dO)))) dA))))) (N (some c1) 0) (N (some c0) 0) (N (some c1) 3)):Y 209 #[a0,c0,c1] w R:= cq bz func209 h
def Za.B{fB:aX}{Ox:aX}(h:(λ(A:LV)(B:LV)(C:ae)(D:LV)(E:ae)(g_:ae)(d_:ae)=>G w #[aM,aI,aP,cO,cR,da,gJ,gC,fB] 75 λw0=>(λAa=>G w0 #[aG,aH,aS,eU,ja,jb,Wf,Wg,Ox] 75 λw1=>G w1 d_ 73 λw2=>(λAb=>G w2 d_ 73 λw3=>(λAc=>∃J4:ai->ai->k_,((Y 149 g_ w3.drew (C2 λx6 x7 x8 x9 bL bS w5=>(λ(Ad:ae) Ae Af=>Ab w3.drew w5 (ah w5 Aa 0 A/\(Y 149 E w5 (C2 λcJ cY dn dw dO dc bN=>Ab w5 bN ((G bN C 202 λfm=>G fm C 202 λeQ=>Sw eQ bN Ad λdi=>Sw di fm #[cJ,cY,dn,dw,dO,dc] λdh=>aR B/\aR A/\aR D/\aR D/\J4 (O bN) (O fm) dh)/\(G bN C 202 λjE=>G jE C 202 λie=>Sw ie jE Ad λdL=>Sw dL bN #[cJ,cY,dn,dw,dO,dc] λkN=>aR B/\aR A/\aR D/\aR D/\J4 (O jE) (O bN) kN))))/\(G w5 C 202 λgO=>(Y 149 E gO (C2 λkz tF oO mP gA jW iZ=>Af gO iZ (G iZ C 202 λiD=>Sw iD w5 Ad λmG=>Sw mG iZ #[kz,tF,oO,mP,gA,jW] λjD=>aR B/\aR A/\aR D/\aR D/\J4 Ae (O iZ) jD)))/\(G gO C 202 λtH=>Y 149 E tH (C2 λrE kA yT vU qE xm lG=>K6 w w0 w1 w2 w5 gO tH lG (Sw lG w5 Ad λIw=>Sw Iw gO #[rE,kA,yT,vU,qE,xm] λoE=>aR B/\aR A/\aR D/\aR D/\J4 Ae (O gO) oE))))/\(G w5 C 202 λlI=>(Y 149 E lI (C2 λBa vp tG lU CI vS nB=>Af lI nB (G nB C 202 λyC=>Sw yC nB Ad λnv=>Sw nv w5 #[Ba,vp,tG,lU,CI,vS] λvQ=>aR B/\aR A/\aR D/\aR D/\J4 (O nB) Ae vQ)))/\(G lI C 202 λpH=>Y 149 E pH (C2 λKY rD Bo Lb Be rG lV=>K6 w w0 w1 w2 w5 lI pH lV (Sw lV lI Ad λpI=>Sw pI w5 #[KY,rD,Bo,Lb,Be,rG] λE8=>aR B/\aR A/\aR D/\aR D/\J4 (O lI) Ae E8)))))) #[x6,x7,x8,x9,bL,bS] (O w5) (K5 w w0 w1 w2 w5)))/\(G w3.drew C 202 λOZ=>(Y 149 g_ OZ (C2 λBf DB K0 O1 Lc O2 wu=>Ab OZ wu (ox w3 OZ wu/\ah wu Aa 0 A/\(Y 149 E wu (C2 λx78 Yl Oy H9 Ev O0 uc=>Ab wu uc (ox w3 wu uc/\G uc C 202 λw84=>Sw w84 w3.drew.heap.size #[Bf,DB,K0,O1,Lc,O2] λw85=>Sw w85 uc #[x78,Yl,Oy,H9,Ev,O0] λw86=>aR B/\aR A/\aR D/\aR D/\J4 Ac (O uc) w86)))/\(G wu C 202 λIx=>Y 149 E Ix (C2 λx89 x90 Oz Tf Wi x94 TW=>Ab Ix TW (ox w3 Ix TW/\Kp wu Ix TW/\Sw TW w3.drew.heap.size #[Bf,DB,K0,O1,Lc,O2] λw95=>Sw w95 wu #[x89,x90,Oz,Tf,Wi,x94] λIz=>aR B/\aR A/\aR D/\aR D/\J4 Ac (O wu) Iz))))))/\(G OZ C 202 λw97=>Y 149 g_ w97 (C2 λYr Bi pK Bg Ew Wl w98=>Ab w97 w98 (ox w3 w97 w98/\Kp OZ w97 w98/\ah w98 Aa 0 A/\Y 149 E w98 (C2 λJs Ey Tm ru lJ yH Bj=>Ab w98 Bj (ox w3 w98 Bj/\Kp OZ w98 Bj/\Sw Bj w3.drew.heap.size #[Yr,Bi,pK,Bg,Ew,Wl] λBh=>Sw Bh OZ #[Js,Ey,Tm,ru,lJ,yH] λWy=>aR B/\aR A/\aR D/\aR D/\J4 Ac (O OZ) Wy))))))/\(G w3.drew C 202 λJA=>(Y 149 g_ JA (C2 λar3 ar4 ar5 agx abT ajM ED=>Ab JA ED (ox w3 JA ED/\ah ED Aa 0 A/\(Y 149 E ED (C2 λWq Ws aot Ib Wu af6 yK=>Ab ED yK (ox w3 ED yK/\G yK C 202 λaxR=>Sw axR yK #[ar3,ar4,ar5,agx,abT,ajM] λaxS=>Sw axS w3.drew.heap.size #[Wq,Ws,aot,Ib,Wu,af6] λaxT=>aR B/\aR A/\aR D/\aR D/\J4 (O yK) Ac axT)))/\(G ED C 202 λTn=>Y 149 E Tn (C2 λaou aov aow aox aoy Wv ajN=>Ab Tn ajN (ox w3 Tn ajN/\Kp ED Tn ajN/\Sw ajN ED #[ar3,ar4,ar5,agx,abT,ajM] λaxU=>Sw axU w3.drew.heap.size #[aou,aov,aow,aox,aoy,Wv] λaxV=>aR B/\aR A/\aR D/\aR D/\J4 (O ED) Ac axV))))))/\(G JA C 202 λrz=>Y 149 g_ rz (C2 λagc agd age Th agf axW To=>Ab rz To (ox w3 rz To/\Kp JA rz To/\ah To Aa 0 A/\Y 149 E To (C2 λaxX axY axZ ax0 ax1 ax2 ajO=>Ab To ajO (ox w3 To ajO/\Kp JA To ajO/\Sw ajO JA #[agc,agd,age,Th,agf,axW] λax3=>Sw ax3 w3.drew.heap.size #[axX,axY,axZ,ax0,ax1,ax2] λax4=>aR B/\aR A/\aR D/\aR D/\J4 (O JA) Ac ax4)))))))/\∀aCC:Nat->aC,∀(Tp Tq:ai)(agy:au),J4 Tp Tq agy->C3 agy Tp λax5 ax6 ax7 ajP ax8 ax9=>C3 agy Tq λaya agm agn ago ayb agp=>Y 148 #[.agg #[ax5,ax6,ax7,ajP,ax8,ax9],.agg #[aya,agm,agn,ago,ayb,agp]] agy (Rb λayc Tr=>Ab agy Tr (Z (!ayc) (Sw Tr w1 d_ λar6=>Sw ar6 w2 d_ λar7=>R (eP #[.agg d_,.agg d_]) ar7) (∃aoz:Int->k_,(Y 209 #[J,Tp,Tq] Tr (Ri λayd ajQ=>Ab Tr ajQ (Y 209 #[(2:Int),Tp,Tq] ajQ (Ri λaye ajR=>Ab ajQ ajR (Z (ayd>aye) (aR B/\aR A/\aR D/\aR D/\aoz (2) ajR) (aR B/\aR A/\aR D/\aR D/\aoz (0) ajR))))))/\∀aCD:Nat->aC,∀(abU:Int)(aoA:au),aoz abU aoA->∃ar8:Int->k_,(Y 209 #[abU,Tp,Tq] aoA (Ri λabQ Ti=>Ab aoA Ti (aR B/\aR A/\aR D/\aR D/\ar8 ((if 4096<abQ then 4096 else abQ)) Ti)))/\∀aCE:Nat->aC,∀(EA:Int)(Jz:au),ar8 EA Jz->∃aoB:Int->k_,(Y 210 #[.agg #[aM,aI,aP],abU] Jz.drew (Ri λJy abV=>Ab Jz.drew abV (ah abV Aa 0 [aG,aH,aS]/\Y 210 #[.agg #[aG,aH,aS],abU] abV (Ri λWw Tj=>Ab abV Tj (Z (Jy<=Ww) (aR B/\aR A/\aR D/\aR D/\aoB ((I (0-EA))) Tj) (aR B/\aR A/\aR D/\aR D/\aoB EA Tj))))))/\∀aCF:Nat->aC,∀(Wx:Int)(yJ:au),aoB Wx yJ->Y 211 #[.agg d_,abU,Wx] yJ (mg λar9 asa JB agz=>Ab yJ agz (Y 211 #[.agg d_,abU,(I (0-Wx))] agz (mg λagt agu agA aoC=>Ab agz aoC (Sw aoC w1 #[ar9,asa,JB] λasb=>Sw asb w2 #[agt,agu,agA] λasc=>R (eP #[.agg #[ar9,asa,JB],.agg #[agt,agu,agA]]) asc)))))))) (O w3.drew.heap.size)) (K4 w w0 w1 w2)) (O w0)) [aG,aH,aS,eU,ja,jb,Wf,Wg,Ox] [aM,aI,aP,cO,cR,da,gJ,gC,fB] #[J,J,J,J,J,J] [J,J,J] #[.agg #[aG,aH,aS,eU,ja,jb,Wf,Wg,Ox]] #[.agg #[aM,aI,aP,cO,cR,da,gJ,gC,fB]] #[J,J,J]):Y 143 #[.agg #[aM,aI,aP,cO,cR,da,gJ,gC,fB],.agg #[aG,aH,aS,eU,ja,jb,Wf,Wg,Ox]] w R:= cq ⟨[],[(11,⟨[(10,.int .i64)],[],[]⟩),(9,⟨[(10,.int .i64)],[],[]⟩),(8,⟨[(9,.int .i64)],[],[]⟩),(2,⟨[(6,.ptr),(7,.ptr)],[],[]⟩)],[]⟩ func143 h
def zF.B{a0:H}(h: Z (a0.a).isNone (R (tr none 0 0) w) (G w #[] 75 λw0=>∃l1:LV,Rd w0 a0.a l1/\bj 72 9 w0 ⟨(O w),0,0⟩ a0.n l1/\∀(s2:H)(w3:au),aY 75 9 w0 ⟨(O w),0,0⟩ a0.n l1 s2 w3->Kp w w0 w3/\R s2 w3)):Y 142 #[a0] w R:= cq bz func142 h
def Uz.B{a0:aC}{a1:H}(h:(λA=>Y 142 #[a1] w (rA λs1 w0=>rP (λI2 n3=>I2 n3 (0) w0) λI2 n3 us4 x5 w6=>(λAa Ab=>Z (decide (x5<((s1.n:Nat):Int))) (rP (λI8 n9=>I8 n9 Ab w6) λI8 n9 agB bS bN=>(λAc Ad=>Z (decide (bS<((s1.n:Nat):Int))) (∃J14:ai->ai->k_,(gD s1.a x5 s1.n/\jR bN.drew Aa λdn dw dO dc dQ fe fk fX b23=>(λAe=>gD s1.a bS s1.n/\jR bN.drew Ac λjn gG nU jl rC kz tF oO b32=>(λAf=>(Y 143 Af bN.drew (adq λjW py oP mO nC rq jV=>(G jV A 73 λnT=>G nT A 73 λkO=>Sw kO jV #[jW,py,oP] λnS=>Sw nS nT #[mO,nC,rq] λiO=>J14 (O jV) (O nT) iO)/\(G jV A 73 λkf=>G kf A 73 λue=>Sw ue kf #[jW,py,oP] λIw=>Sw Iw jV #[mO,nC,rq] λoE=>J14 (O kf) (O jV) oE)))/\(G bN.drew A 73 λlI=>(Y 143 Af lI (adq λBa vp tG lU CI vS nB=>ox bN lI nB/\G nB A 73 λyC=>Sw yC bN.drew.heap.size #[Ba,vp,tG] λnv=>Sw nv nB #[lU,CI,vS] λvQ=>J14 Ad (O nB) vQ))/\(G lI A 73 λpH=>Y 143 Af pH (adq λKY rD Bo Lb Be rG lV=>ox bN pH lV/\Kp lI pH lV/\Sw lV bN.drew.heap.size #[KY,rD,Bo] λpI=>Sw pI lI #[Lb,Be,rG] λE8=>J14 Ad (O lI) E8)))/\(G bN.drew A 73 λOZ=>(Y 143 Af OZ (adq λBf DB K0 O1 Lc O2 wu=>ox bN OZ wu/\G wu A 73 λuc=>Sw uc wu #[Bf,DB,K0] λuf=>Sw uf bN.drew.heap.size #[O1,Lc,O2] λK9=>J14 (O wu) Ad K9))/\(G OZ A 73 λH5=>Y 143 Af H5 (adq λEv O0 TV x85 x86 xl wA=>ox bN H5 wA/\Kp OZ H5 wA/\Sw wA OZ #[Ev,O0,TV] λTW=>Sw TW bN.drew.heap.size #[x85,x86,xl] λwB=>J14 (O OZ) Ad wB)))) #[.agg Ae,.agg #[jn,gG,nU,jl,rC,kz,tF,oO,b32]]) #[dn,dw,dO,dc,dQ,fe,fk,fX,b23])/\∀ayf:Nat->aC,∀(p91 p92:ai)(Ld:au),J14 p91 p92 Ld->∃J94:k_,(gD s1.a x5 s1.n/\jR Ld.drew Aa λWj Wk La x98 Yr Bi pK Bg af3=>gU Ld.drew p91 λWl Ex Js=>Y 144 #[.agg #[Wj,Wk,La,x98,Yr,Bi,pK,Bg,af3],a0,.agg #[Wl,Ex,Js]] Ld.drew (ah1 λTm ru lJ yH lK Wn af4 ayg Tg Ia=>gD s1.a x5 s1.n/\((Aa).isSome=true/\Wr Ia Aa 9)/\(Pw Ia Aa [Tm,ru,lJ,yH,lK,Wn,af4,ayg,Tg] λWo=>J94 Wo)))/\∀aCJ:Nat->aC,∀(Jv:au),J94 Jv->gD s1.a bS s1.n/\jR Jv.drew Ac λabT ajM af5 Wq Ws aot Ib Wu anN=>gU Jv.drew p92 λaf7 af8 af9=>Y 144 #[.agg #[abT,ajM,af5,Wq,Ws,aot,Ib,Wu,anN],a0,.agg #[af7,af8,af9]] Jv.drew (ah1 λayh aou aov aow aox aoy Wv agb ayi Tn=>gD s1.a bS s1.n/\((Ac).isSome=true/\Wr Tn Ac 9)/\(Pw Tn Ac [ayh,aou,aov,aow,aox,aoy,Wv,agb,ayi] λrz=>∃n13,n13<n9/\I8 n13 ((I (bS+1))) rz))) (∃n7,n7<n3/\I2 n7 Ab bN)) (N s1.a ((bS:Int).toNat*9)) (O bN.drew.heap.size)) (R s1 w6)) (N s1.a ((x5:Int).toNat*9)) ((I (x5+1))))) #[J,J,J]):Y 82 #[a0,a1] w R:= cq ⟨[(6,⟨[(7,.int .i64)],[],[]⟩),(3,⟨[(14,.int .i64)],[],[]⟩)],[(10,⟨[],[],[]⟩),(9,⟨[(8,.ptr),(9,.ptr)],[],[]⟩)],[]⟩ func82 h
end
section
variable{w v:au}
def zA{o:Obj}(e:v=w.alloc o):v.heap.size=w.heap.size+1:=by rw[e];simp
def zR{g:Nat}{c:ae}(e:v=w.setRow g c):v.heap.size=w.heap.size:=by rw[e];simp
variable{v:aC}{V:Ce->Int}(hV:Tl v V w)
def Qh(hv:kq v=[])(b:Bx):ed 202 #[v,xB b] w (eL (j8 V b λx=>x==4)):=by
 apply Ml.B;intro w0 e0;have x0:=aU e0;have z0:=zA e0;refine(Gm (hV.ext x0) hv b (.func (.func 261) #[] #[]) rfl (λx=>x==4) λx w'=>bR (by kernel_rfl) rfl (Mm.B ⟨rfl,Ext.M _⟩)).F λw1 x1=>?_
 exact⟨_,rfl,x1.k,rfl,x0.A x1⟩
def Zk(hv:kq v=[])(b:Bx):ed 203 #[v,xB b] w (eL (j8 V b rW)):=by
 apply Y8.B;intro w0 e0;have x0:=aU e0;have z0:=zA e0;refine(Gm (hV.ext x0) hv b (.func (.func 262) #[] #[]) rfl rW λx w'=>bR (by kernel_rfl) rfl ((oZ x w').mono ?_)).mono ?_
 ·rintro e w'' ⟨rfl,rfl⟩;exact⟨rfl,Ext.M _⟩
 rintro e w1 ⟨rfl,x1⟩;exact⟨_,rfl,x1.k,rfl,x0.A x1⟩
def vG(n:Int)(w:au):kh 258 #[n] w (bT #[.int .u64 (max (dD n) (-(dD n))),.bool (decide (dD n<0))]):=by
 apply Uy.B;refine(gV n w).V ?_;have hc:=sw n;refine⟨_,rfl,Z.mk (λh=>?_) (λh=>?_)⟩
 ·have h':dD n<0:=by simpa using h
  rw[wI,xJ U,h];exact⟨by rw[show max (dD n) (-(dD n))=0-dD n from by omega],rfl⟩
 ·have h':¬dD n<0:=by simpa using h
  rw[xJ U,h];exact⟨by rw[show max (dD n) (-(dD n))=dD n from by omega],rfl⟩
def Xp{x:Int}(h:0<=x/\x<4294967296):tI .u64 x 4294967295=x:=by
 unfold tI;have e:(Ok IntKind.u64.bits x &&&Ok IntKind.u64.bits 4294967295).toNat=x.toNat:=by
  show(Ok 64 x &&&Ok 64 4294967295).toNat=_;rw[zL];have h1:(Ok 64 4294967295).toNat=2^32-1:=by decide
  rw[h1,Nat.and_two_pow_sub_one_eq_mod,zg];omega
 rw[e,Int.toNat_of_nonneg h.1];exact xJ U
def p32:(2^(min (32:Int).toNat 64):Int)=4294967296:=by decide
def UL(x:Int)(h:0<=x/\x<=65536)(w:au):kh 259 #[.int .u64 x,.int .u64 16384] w (bT #[.int .u64 0,.int .u64 (x*16384)]):=by
 apply DM.B;have f:∀y:Int,y.fdiv 4294967296=y/4294967296:=λy=>tj _ X
 have q1:x/4294967296=0:=by omega
 have q3:x*16384/4294967296=0:=by omega
 rw[p32,Xp (x:=x) U,Xp (x:=16384) U];simp only[f];rw[q1,show(16384:Int)/4294967296=0 from by decide,xJ (n:=x*16384) U,q3,Int.zero_mul,Int.zero_mul,Int.mul_zero];exact⟨congrArg (λn=>Sl (.tuple #[.int .u64 n,.int .u64 (x*16384)])) X,trivial⟩
def aic(q:Int)(hq:0<=q/\q<=100000000000000)(below rest:aX){c0 c1:Nat}{τ τ':aB}(h0:Row w c0 [.bool below] τ)(h1:Row w c1 [.bool rest] τ'): Y 318 #[.int .u64 q,c0,c1] w λe w'=>e=vc .u64 (if below=true/\rest=true then q+1 else q)/\w'=w:=by
 apply IM.B;refine⟨below,h0.at 0 rfl,?_⟩
 cases below with
 |false=>exact⟨rfl,rfl⟩
 |true=>
  refine⟨rest,h1.at 0 rfl,?_⟩
  cases rest with
  |false=>exact⟨rfl,rfl⟩
  |true=>exact⟨by rw[xJ U];rfl,rfl⟩
def Gn(q:Int)(hq:0<=q/\q<=100000000000000)(rest below:aX)(w:au):ed 260 #[.int .u64 q,rest,below] w (S (if below=true then -(if rest=true then q+1 else q)else q)):=by
 apply PY.B;intro w0 e0 w1 e1;have x0:=aU e0;have z0:=zA e0;have r0:Row w0 w [.bool rest] 4:=Row.nw e0;have x1:=aU e1;have r1:Row w1 w0 [.bool below] 4:=Row.nw e1;refine uN m_ ⟨below,r1.at 0 rfl,?_⟩
 cases below with
 |false=>exact⟨by rw[wI];rfl,x0.A x1⟩
 |true=>
  refine(aic q hq true rest r1 (r0.ext x1)).V ?_;refine⟨_,rfl,?_⟩;have e:(if(true=true/\rest=true)then q+1 else q)=if rest=true then q+1 else q:=by simp
  rw[e];have hb:0<=(if rest=true then q+1 else q)/\(if rest=true then q+1 else q)<=100000000000001:=by split<;>omega
  generalize (if rest=true then q+1 else q)=y at*;rw[aL (n:=y) j_,wI];exact⟨by rw[if_pos rfl,Int.zero_sub],x0.A x1⟩
def adE(n:Int)(h: -65536<=n/\n<=65536)(w:au):ed 200 #[n,(16384:Int)] w (vc .i64 (n/4)):=by
 apply Y9.B;refine(vG n w).mono ?_;rintro e w0 ⟨rfl,rfl⟩;have hc:dD n=n:=oz U;have hd:dD 16384=16384:=by decide
 rw[hc];refine⟨_,_,rfl,(vG 16384 w0).mono ?_⟩;rintro e w3 ⟨rfl,rfl⟩;rw[hd];refine⟨_,_,rfl,(UL (max n (-n)) U w3).mono ?_⟩;rintro e w6 ⟨rfl,rfl⟩;refine⟨_,_,rfl,uN rfl ?_⟩;have hf:(max n (-n)*16384).fdiv (2^(min (16:Int).toNat 64))=max n (-n)/4:=by rw[q_,tj _ X];omega
 have hr:Int.tmod (max n (-n)*16384) 65536=max n (-n)%4*16384:=by rw[FP U];omega
 rw[hf,hr];refine(Gn (max n (-n)/4) U _ _ w6).mono ?_;rintro e bE ⟨rfl,bS⟩;refine⟨_,rfl,?_,bS⟩;have hs:(!(decide (n<0)==decide ((16384:Int)<0)))=decide (n<0):=by
  by_cases q:n<0
  ·rw[decide_eq_true q];rfl
  ·rw[decide_eq_false q];rfl
 rw[hs];congr 2;by_cases q:n<0
 ·rw[decide_eq_true q,if_pos rfl];by_cases q2:max n (-n)%4=0
  ·rw[q2];show -(max n (-n)/4)=n/4;omega
  ·have:(max n (-n)%4*16384 !=0)=true:=by simp;omega
   rw[this,if_pos rfl];omega
 ·rw[decide_eq_false q];show max n (-n)/4=n/4;omega
def C5(n:Int)(w:au):ed 199 #[n] w (S (Kc n)):=by
 apply zD.B;have e:(if 65536<(if(-65536)>n then(-65536)else n)then 65536 else(if(-65536)>n then(-65536)else n))=min (max n (-65536)) 65536:=by
  repeat' split
  all_goals omega
 rw[e];refine(adE _ U w).F λw1 x1=>?_
 exact⟨_,rfl,rfl,x1⟩
def UM(b:Bx)(v:Ce)(w:au):ed 320 #[xB b,fQ v] w ((xB (adF b v))):=by
 apply adp.B;intro w0 e0 w1 e1 w2 e2;have x0:=aU e0;have z0:=zA e0;have r0:Row w0 w (pE b) fR:=Row.nw e0;have x1:=aU e1;have z1:=zA e1;have r1:Row w1 w0 (eV v) iq:=Row.nw e1;have x2:Ext w1 w2.drew:=(aU e2).drew;have z2:w2.drew.heap.size=w1.heap.size+1:=(zA e2:w2.heap.size=_);refine(jw b.1 v w2.drew).F λw3 x3=>?_
 have z3:=x3.size;refine⟨_,_,_,rfl,x3.k,x3.k,x3.k,Lo.wv (r1.ext (x2.A x3)),tP (r0.ext (x1.A (x2.A x3))) rfl rfl rfl,(jw b.2 v w3).F λw7 x7=>?_⟩;have z7:=x7.size;exact⟨_,_,_,rfl,x7.k,x7.k,x7.k,λbE A8=>⟨rfl,(x0.A (x1.A (x2.A (x3.A x7)))).L A8 U⟩⟩
def UN(b:Bx)(ax k:Int)(hk:cH (k+1))(w:au):ed 359 #[xB b,ax,k] w ((xB (sy b ax k))):=by apply PV.B;rw[aL hk];intro w0 e0 w1 e1;have x0:=aU e0;have z0:=zA e0;have r0:Row w0 w (pE b) fR:=Row.nw e0;have x1:Ext w0 w1.drew:=(aU e1).drew;have z1:w1.drew.heap.size=w0.heap.size+1:=(zA e1:w1.heap.size=_);have r1:=r0.ext x1;refine(sB k w1.drew).V ?_;refine⟨_,rfl,rfl,rfl,tP r1 rfl rfl rfl,tP r1 rfl rfl rfl,(jh b.1 ax (uM k) w1.drew).F λw4 x4=>?_⟩;have z4:=x4.size;refine⟨_,_,_,rfl,x4.k,x4.k,tP (r1.ext x4) rfl rfl rfl,(sB (k+1) w4).V ?_⟩;refine⟨_,rfl,rfl,rfl,tP (r1.ext x4) rfl rfl rfl,(jh b.2 ax (uM (k+1)) _).F λbr bL=>?_⟩;have z10:=bL.size;exact⟨_,_,_,rfl,bL.k,bL.k,λcp yF=>⟨rfl,(x0.A (x1.A (x4.A bL))).L yF U⟩⟩
end
abbrev sE(b:Bx)(ax d:Int):List (LV):=(du b ax d).map λx=>[S x.1,S x.2]
abbrev akS(g:Nat):aC:=.func (.func 379) #[] #[g,.pointer (some ⟨g+1,0,none⟩),.pointer (some ⟨g+2,0,none⟩)]
def Qz(b:Bx)(ax d:Int)(w:au):Y 358 #[xB b,ax,d] w λe w'=>e=(akS w)/\Row w' w (pE b) fR/\Row w' (w+1) [ax] 3/\Row w' (w+2) [d] 3/\Ext w w':=by apply Mn.B;intro w0 e0 w1 e1 w2 e2;have z0:=zA e0;have z1:=zA e1;have r0:Row w0 w (pE b) fR:=Row.nw e0;have r1:Row w1 w0 [ax] 3:=Row.nw e1;have r2:Row w2 w1 [d] 3:=Row.nw e2;have x1:=aU e1;have x2:=aU e2;rw[z0]at r1;rw[z1,z0]at r2;exact⟨by rw[z1,z0],r0.ext (x1.A x2),r1.ext x2,r2,(aU e0).A (x1.A x2)⟩
def Ni{k:Int}(h: -2147483648<=k/\k<=2147483648):uM k=k*65536:=by unfold uM;omega
def QA(b:Bx)(ax d:Int)(hb:bU b 100000000000000)(hd: -4194304<=d/\d<=4194304)(g:Nat)(W0:au)(h0:Row W0 g (pE b) fR)(h1:Row W0 (g+1) [ax] 3)(h2:Row W0 (g+2) [d] 3): Iter ka5 (akS g) W0 (λi=>i=g\/i=g+1\/i=g+2) (sE b ax d):=by
 refine⟨⟨_,_,_,rfl,by kernel_rfl⟩,?_⟩;intro y B a_ Jx F0 W hB hsJ hsX yQ hRd hround hJ0;refine bR (by kernel_rfl) (by rfl) ?_;apply Gb.B;have rows:∀{wr:au},(∀i,(i=g\/i=g+1\/i=g+2)->wr.heap[i]? =W0.heap[i]?)->Row wr g (pE b) fR/\Row wr (g+1) [ax] 3/\Row wr (g+2) [d] 3:=λh=>⟨h0.same (h _ (.inl rfl)),h1.same (h _ (.inr (.inl rfl))),h2.same (h _ (.inr (.inr rfl)))⟩
 have⟨q0,q1,q2⟩:=rows λi hi=>(hRd i hi).2.2
 have xd:=Ext.K W;have EI:=hb.ax X ax;refine⟨_,_,_,tP (o:=0) (q0.ext xd) rfl rfl rfl,_,(q1.ext xd).at 0 rfl,_,_,_,tP (o:=3) (q0.ext xd) rfl rfl rfl,_,(q1.ext xd).at 0 rfl,(cW b.1 ax W.drew).F λw8 x8=>?_⟩;refine⟨_,rfl,Lo.wv (q1.ext (xd.A x8)),tP (o:=3) (q0.ext (xd.A x8)) rfl rfl rfl,(cW b.2 ax w8).F λbr bL=>?_⟩;have xW:=xd.A (x8.A bL);refine⟨_,rfl,_,(q2.ext xW).at 0 rfl,?_⟩;obtain⟨Q,hQ⟩:∃Q:Nat->k_,Q=λk wr=>∃F,a_ k F wr/\∀i,(i=g\/i=g+1\/i=g+2)->¬F i/\i<wr.heap.size/\wr.heap[i]? =W0.heap[i]? :=⟨_,rfl⟩
 have ext:∀{k:Nat}{wr wr':au},Q k wr->Ext wr wr'->W.heap.size<=wr->Q k wr':=λ{k wr wr'} h x hz=>by rw[hQ]at h⊢;have⟨F,hJ,hk⟩:=h;exact⟨F,hsJ _ _ _ _ hJ (Below.mono x U) λi hi=>x.heap (yQ _ _ _ hJ i hi),λi hi=>⟨(hk i hi).1,gK (hk i hi).2.1 x.size,(x.heap (hk i hi).2.1).trans (hk i hi).2.2⟩⟩
 have init:Q 0 br:=by refine ext (wr:=W) ?_ xW (ak _);rw[hQ];exact⟨F0,hJ0,hRd⟩
 have qrow:∀{k:Nat}{wr:au},Q k wr->Row wr (g+2) [d] 3:=λh=>by rw[hQ]at h;obtain⟨F,-,hk⟩:=h;exact h2.same (hk _ (.inr (.inr rfl))).2.2
 have round:∀{k:Nat}{wr:au}{x:LV},W.heap.size<=wr->(sE b ax d)[k]? =some x->Q k wr->bu ka5 y x wr λe w'=>W.heap.size<=w'.heap.size/\((e=true/\Q (k+1) w')\/(e=false/\∃F',Jx () F' w')):=λ{k wr x} hz hx h=>by
  rw[hQ]at h⊢;have⟨F,hJ,hk⟩:=h;refine bJ (hround _ _ _ _ hx hJ) ?_;rintro e w' (⟨rfl,F2,WH,gm⟩|⟨rfl,F2,WH,gm⟩)
  ·refine⟨a0F,.inl ⟨rfl,F2,WH,λi hi=>?_⟩⟩;have⟨p1,p2,p3⟩:=hk i hi;refine⟨λhf=>?_,gK p2 gm.size,(gm.same i p2 p1).trans p3⟩;rcases gm.sub i hf with hf|hf
   ·exact p1 hf
   ·omega
  ·exact⟨a0F,.inr ⟨rfl,F2,WH⟩⟩
 have fin:∀{wr:au},Q (sE b ax d).length wr->∃F',a_ (sE b ax d).length F' wr:=λh=>a1G
 have zW:=xW.size;apply Z.mk<;>intro CG
 ·have CG:=eK CG;have hL:du b ax d=(List.range (C' (dj b.2 ax) d (bY (dj b.2 ax+65535)))).map λi:Nat=>(bY (dj b.2 ax+65535)+i,(bY (dj b.2 ax+65535)+i)*65536-dj b.2 ax):=by unfold du;rw[if_pos CG]
  have Ir:∀{k:Nat},k<C' (dj b.2 ax) d (bY (dj b.2 ax+65535))->(sE b ax d)[k]? =some [S (bY (dj b.2 ax+65535)+k),S ((bY (dj b.2 ax+65535)+k)*65536-dj b.2 ax)]:=λ{k} hk=>by unfold sE;rw[hL,aW,aW,Fq hk];rfl
  have cX:(sE b ax d).length=C' (dj b.2 ax) d (bY (dj b.2 ax+65535)):=by unfold sE;rw[hL];simp
  have TD:bY (dj b.2 ax+65535)=(dj b.2 ax+65535)/65536:=by unfold bY;rw[oz U]
  generalize sE b ax d=xs at*;generalize dj b.2 ax=top at*;generalize dj b.1 ax=low at*;rw[aL (n:=top+65536) j_,aL (n:=top+65536-1) j_,show top+65536-1=top+65535 from by omega];refine(pd (top+65535) br).F λbw aAd=>?_
  subst aAd;rw[TD]at Ir cX⊢;have ag2:∀i:Nat,((top+65535)/65536+(i:Int))*65536<top+d↔i<C' top d ((top+65535)/65536):=λi=>aiR U
  have hn:C' top d ((top+65535)/65536)<=100:=by unfold C';omega
  generalize C' top d ((top+65535)/65536)=b_ at*;refine⟨_,rfl,λn x wr=>∃k:Nat,x=(top+65535)/65536+k/\k+n=b_/\Q k wr/\W.heap.size<=wr,⟨b_,0,U,U,init,zW⟩,?_⟩;rintro n us x wr ⟨k,rfl,hk,hq,zr⟩;have xr:=Ext.K wr;have hqd:=ext hq xr zr;have zrd:W.heap.size<=wr.drew.heap.size:=zr;refine⟨_,(qrow hqd).at 0 rfl,(sB _ wr.drew).mono ?_⟩;rw[Ni U];rintro e dh ⟨rfl,aAe⟩;subst aAe;refine⟨_,rfl,Lo.wv (qrow hqd),?_⟩;rw[aL (n:=top+d) j_];refine Z.mk (λhc=>(sB _ wr.drew).mono ?_) (λhc=>?_)
  ·have hc:=(ag2 k).1 (ds hc);rw[Ni U];rintro e ie ⟨rfl,aAf⟩;subst aAf;have wq:I (((top+65535)/65536+(k:Int))*65536-top)=((top+65535)/65536+(k:Int))*65536-top:=wI;have wk:I ((top+65535)/65536+(k:Int)+1)=(top+65535)/65536+((k+1:Nat):Int):=by rw[wI];omega
   refine⟨_,rfl,?_⟩;rw[wq];refine bJ (round zrd (Ir hc) hqd) ?_;rintro e kN ⟨z26,⟨rfl,hq2⟩|⟨rfl,hx2⟩⟩
   ·exact⟨true,rfl,Z.mk (λh=>by cases h) (λ_=>⟨n-1,U,k+1,wk,U,hq2,z26⟩)⟩
   ·exact⟨false,rfl,Z.mk (λ_=>⟨⟨_,rfl⟩,.inr hx2⟩) (λh=>by cases h)⟩
  ·have hc:¬k<b_:=λq=>absurd ((ag2 k).2 q) (ds hc)
   have e:k=b_:=by omega
   subst e;rw[<-cX]at hqd;exact⟨⟨_,rfl⟩,.inl (fin hqd)⟩
 ·have CG:=eK CG;have hL:du b ax d=(List.range (tA (dj b.1 ax) d (bY (dj b.1 ax)-1))).map λi:Nat=>(bY (dj b.1 ax)-1-i,(bY (dj b.1 ax)-1-i+1)*65536-dj b.1 ax):=by unfold du;rw[if_neg CG]
  have Ir:∀{k:Nat},k<tA (dj b.1 ax) d (bY (dj b.1 ax)-1)->(sE b ax d)[k]? =some [S (bY (dj b.1 ax)-1-k),S ((bY (dj b.1 ax)-1-k+1)*65536-dj b.1 ax)]:=λ{k} hk=>by unfold sE;rw[hL,aW,aW,Fq hk];rfl
  have cX:(sE b ax d).length=tA (dj b.1 ax) d (bY (dj b.1 ax)-1):=by unfold sE;rw[hL];simp
  have TD:bY (dj b.1 ax)=dj b.1 ax/65536:=by unfold bY;rw[oz U]
  generalize sE b ax d=xs at*;generalize dj b.2 ax=top at*;generalize dj b.1 ax=low at*;refine(pd low br).F λiZ aAg=>?_
  subst aAg;rw[TD]at Ir cX⊢;have ag2:∀i:Nat,low+d<(low/65536-1-(i:Int)+1)*65536↔i<tA low d (low/65536-1):=λi=>aau
  have hn:tA low d (low/65536-1)<=100:=by unfold tA;omega
  generalize tA low d (low/65536-1)=b_ at*;have ws:I (low/65536-1)=low/65536-1:=wI;refine⟨_,rfl,?_⟩;rw[ws];refine⟨λn x wr=>∃k:Nat,x=low/65536-1-k/\k+n=b_/\Q k wr/\W.heap.size<=wr,⟨b_,0,U,U,init,zW⟩,?_⟩;rintro n us x wr ⟨k,rfl,hk,hq,zr⟩;have xr:=Ext.K wr;have hqd:=ext hq xr zr;have zrd:W.heap.size<=wr.drew.heap.size:=zr;have w1:I (low/65536-1-(k:Int)+1)=low/65536-1-(k:Int)+1:=wI;rw[w1];refine⟨_,(qrow hqd).at 0 rfl,(sB _ wr.drew).mono ?_⟩;rw[Ni U];rintro e jD ⟨rfl,aAh⟩;subst aAh;refine⟨_,rfl,Lo.wv (qrow hqd),?_⟩;rw[aL (n:=low+d) j_];refine Z.mk (λhc=>(sB _ wr.drew).mono ?_) (λhc=>?_)
  ·have hc:=(ag2 k).1 (ds hc);rw[Ni U];rintro e lG ⟨rfl,apq⟩;subst apq;have wq:I ((low/65536-1-(k:Int)+1)*65536-low)=(low/65536-1-(k:Int)+1)*65536-low:=wI;have wk:I (low/65536-1-(k:Int)-1)=low/65536-1-((k+1:Nat):Int):=by rw[wI];omega
   refine⟨_,rfl,?_⟩;rw[wq];refine bJ (round zrd (Ir hc) hqd) ?_;rintro e kO ⟨z41,⟨rfl,hq2⟩|⟨rfl,hx2⟩⟩
   ·exact⟨true,rfl,Z.mk (λh=>by cases h) (λ_=>⟨n-1,U,k+1,wk,U,hq2,z41⟩)⟩
   ·exact⟨false,rfl,Z.mk (λ_=>⟨⟨_,rfl⟩,.inr hx2⟩) (λh=>by cases h)⟩
  ·have hc:¬k<b_:=λq=>absurd ((ag2 k).2 q) (ds hc)
   have e:k=b_:=by omega
   subst e;rw[<-cX]at hqd;exact⟨⟨_,rfl⟩,.inl (fin hqd)⟩
def adU{b:Bx}{ax d:Int}{n:Nat}{x y:Int}(h:(sE b ax d)[n]? =some [S x,S y]):(du b ax d)[n]? =some (x,y):=by
 unfold sE at h;rw[aW]at h
 cases hc:(du b ax d)[n]? with
 |none=>rw[hc]at h;cases h
 |some c=>
  rw[hc]at h;simp only[mT]at h;injection h with h;injection h with h1 h;injection h with h2 _;injection h1 with _ h1;injection h2 with _ h2;exact congrArg some (Prod.ext h1 h2)
def awc(d:Int):(if 4194304<(if(-4194304)>d then(-4194304)else d)then 4194304 else(if(-4194304)>d then(-4194304)else d))=mi d:=by
 unfold mi
 repeat' split
 all_goals omega
def UZ{v:aC}{V:Ce->Int}{w:au}(hV:Tl v V w)(hv:kq v=[])(b:Bx)(hb:bU b 100000000000000)(ax d:Int)(hax:0<=ax/\ax<3): ed 319 #[v,xB b,ax,d] w (bT #[S (eX V aD b ax d).1,.bool (eX V aD b ax d).2]):=by
 apply Uv.B;rw[hv,uj,awc];have hd:=ET d;intro w0 e0 w1 e1 w2 e2 w3 e3 w4 e4;have x0:=aU e0;have z0:=zA e0;have r0:∃τ,Row w0 w [v] τ:=⟨_,by rw[e0];exact Row.new w [_] _⟩;have x1:=aU e1;have z1:=zA e1;have x2:=aU e2;have z2:=zA e2;have x3:=aU e3;have z3:=zA e3;have x4:=aU e4;have z4:=zA e4;have E9:=x0.A (x1.A (x2.A (x3.A x4)));have⟨τ0,r0⟩:=r0;refine uN m_ (uN m_ ((Qz b ax (mi d) w4).mono ?_));rintro e w9 ⟨rfl,hb9,ha9,hd9,x9⟩;have z9:=x9.size;have l9:=hd9.lt;have Ts:=E9.A x9;have r9:=r0.ext (x1.A (x2.A (x3.A (x4.A x9))));refine⟨_,rfl,x9.k,x9.k,x9.k,x9.k,x9.k,sE b ax (mi d),λi=>i=w4.heap.size\/i=w4.heap.size+1\/i=w4.heap.size+2,λ_=>False,
  λn F y bb w'=>(∀i,¬F i)/\(∀x∈(du b ax (mi d)).take n,j8 V (sy b ax x.1) aD=false)/\Mod (λi=>w9.heap.size<=i) w9 w',
  λo F y bb w'=>(∀i,¬F i)/\(y,bb)=eX V aD b ax d/\Mod (λi=>i=w2.heap.size\/i=w3.heap.size\/w9.heap.size<=i) w9 w',?_,?_,?_,λn F y bb w' h i hi=>(h.1 i hi).elim,λo F y bb w' h i hi=>(h.1 i hi).elim,λi hi=>?_,λue vt=>?_,?_,?_,?_⟩
 ·intro x hx;obtain⟨c,-,rfl⟩:=bc.1 hx;exact⟨_,_,rfl⟩
 ·rintro n F y bb di dh ⟨h1,h2,h3⟩ kQ -;exact⟨h1,h2,h3.A ⟨kQ.os,kQ.tape,kQ.output,kQ.size,λi hi hn=>kQ.block i (C6 hn)⟩ λi hi=>.inl hi⟩
 ·rintro o F y bb di dh ⟨h1,h2,h3⟩ kQ -;exact⟨h1,h2,h3.A ⟨kQ.os,kQ.tape,kQ.output,kQ.size,λi hi hn=>kQ.block i (C6 hn)⟩ λi hi=>.inl (.inr (.inr hi))⟩
 ·rcases hi with rfl|rfl|rfl<;>exact⟨U,id,U,U,U,U,U,trivial⟩
 ·exact⟨QA b ax (mi d) hb hd _ ue (hb9.same (vt.ext.block _ U)) (ha9.same (vt.ext.block _ U)) (hd9.same (vt.ext.block _ U)),rfl,rfl,rfl,λi h=>h,λc hc=>by simp at hc,Mod.P vt.ext⟩
 ·rintro n F us y50 b51 tG lU yC hx hI;have z56:=hI.2.2.size;refine⟨Below.refl _ _,λnv fL agC=>?_⟩;have⟨hF,lp,hM⟩:=agC;have zr:=fL.size;have hc:=adU hx;have pL:=aQ hc;have px:=QB hb hd _ pL;have z57:=hM.size;have ht:(du b ax (mi d)).take (n+1)=(du b ax (mi d)).take n++[(tG,lU)]:=by rw[dq,hc];rfl
  have zd:=nV nv;have ayQ:Tl v V nv.drew:=by have⟨D,hD1,hD2⟩:=hV;refine⟨D,λi hi=>by have:=hD1 i hi;have:=Ts.size;omega,λw' hk=>hD2 w' λi hi=>(hk i hi).trans ?_⟩;have:=hD1 i hi;have:=Ts.size;exact(hM.same i U U).trans (Ts.k)
  refine(UN b ax tG (by simp only at px;unfold cH;omega) nv.drew).F λlV qF=>?_
  have z60:=qF.size;have agD:=hM.trans (Mod.P ((Ext.K nv).A qF));refine⟨_,_,_,_,_,_,rfl,qF.k,qF.k,qF.k,qF.k,qF.k,Lo.wv (agD.row r9 U),(sC (ayQ.ext qF) hv (sy b ax tG)).F λjU rD=>?_⟩;have z62:=rD.size;have Tu:=agD.trans (Mod.P rD);refine⟨_,rfl,rD.k,rD.k,rD.k,rD.k,rD.k,Z.mk (λhq=>λH4 e64 O3 e65=>?_) (λhq=>?_)⟩
  ·have hax2:eX V aD b ax d=(lU,true):=by
    unfold eX;have hf:(du b ax (mi d)).find? (λx=>j8 V (sy b ax x.1) aD)=some (tG,lU):=by
     have hsplit:du b ax (mi d)=(du b ax (mi d)).take n++(tG,lU)::(du b ax (mi d)).drop (n+1):=by
      have h1:=td n (du b ax (mi d));have h2:(du b ax (mi d)).drop n=(tG,lU)::(du b ax (mi d)).drop (n+1):=by have hl:=(cG.1 hc);rw[zV hl.1,hl.2]
      rw[h2]at h1;exact h1.symm
     rw[hsplit,List.find?_append,QC.2 λx hx=>by rw[lp x hx];decide];simp[hq]
    rw[hf]
   have ayv:O3.heap.size=jU.heap.size:=by rw[e65,setRow_size,e64,setRow_size]
   have aoJ:∀i,i≠w2.heap.size->i≠w3.heap.size->O3.heap[i]? =jU.heap[i]? :=λi h1 h2=>a19
   have agE:Mod (λi=>i=w2.heap.size\/i=w3.heap.size) jU O3:=⟨a0H,a0H,a0H,U,λi _ hn=>aoJ i (λq=>hn (.inl q)) (λq=>hn (.inr q))⟩;refine⟨rfl,λ_=>False,⟨rfl,rfl,rfl,λi h=>h,hax2.symm,(Tu.mono λi _ h=>.inr (.inr h)).trans (agE.mono λi _ h=>h.elim .inl λh=>.inr (.inl h))⟩,?_⟩;have Ic:=((Mod.P (F:=λi=>i=w2.heap.size\/i=w3.heap.size) (((Ext.K nv).A qF).A rD))).trans agE;refine Step.late ⟨λi hi=>?_,Ic.size,λi hi hn=>Ic.same i hi λq=>hn (.inr ?_)⟩
   ·rcases hi with h|h
    ·exact h.elim
    ·exact .inl (.inr h)
   ·rcases q with rfl|rfl<;>simp
  ·have Tv:=((Ext.K nv).A qF).A rD;refine⟨λ_=>False,⟨rfl,rfl,rfl,λi h=>h,λc hc=>?_,Tu⟩,Step.late ⟨λi hi=>?_,Tv.size,λi hi _=>Tv.block i hi⟩⟩
   ·rw[ht,dp]at hc;rcases hc with hc|hc
    ·exact lp c hc
    ·rw[ig.1 hc];exact hq
   ·rcases hi with h|h
    ·exact h.elim
    ·exact .inl (.inr h)
 ·rintro F us y70 b73 CE ⟨hF,lp,hM⟩ WB uh e75 pB e76;have z74:=hM.size;have cX:(sE b ax (mi d)).length=(du b ax (mi d)).length:=by unfold sE;simp
  rw[cX,kB]at lp;have hax2:eX V aD b ax d=(mi d,false):=by unfold eX;rw[QC.2 λx hx=>by rw[lp x hx];decide]
  rw[hax2];refine⟨a0S,λuc fL=>⟨rfl,?_⟩⟩;have O1:Ext w CE:=hM.ext Ts λi hi=>a1N Ts.size
  have O2:Ext w pB:=(O1.L e75 U).L e76 U;exact(Mod.oX fL).ext O2 λi hi=>by have:=Ts.size;omega
 ·rintro F us y80 b83 w84 ⟨hF,hax2,hM⟩ WB;rw[<-hax2];refine⟨WB,λw85 fL=>⟨rfl,?_⟩⟩;have TV:Ext w w84:=hM.ext Ts λi hi=>by have:=Ts.size;omega
  exact(Mod.oX fL).ext TV λi hi=>a1N Ts.size
def oW{v:aC}{V:Ce->Int}{w:au}(hV:Tl v V w)(hv:kq v=[])(b:Bx)(hb:bU b 100000000000000)(ax d:Int)(hax:0<=ax/\ax<3): ed 263 #[v,xB b,ax,d] w (bT #[xB (bA V aD b ax d).1,.bool (bA V aD b ax d).2]):=by
 apply PX.B;intro w0 e0 w1 e1;have x0:=aU e0;have z0:=zA e0;have r0:Row w0 w (pE b) fR:=Row.nw e0;have x1:=aU e1;have z1:=zA e1;refine(UZ (hV.ext (x0.A x1)) hv b hb ax d hax).F λw2 x2=>?_
 have z2:=x2.size;have zd:=nV w2;refine⟨_,_,rfl,x2.k,x2.k,(jh (0,0,0) ax (eX V aD b ax d).1 w2.drew).F λw5 x5=>?_⟩;have z5:=x5.size;refine⟨_,_,_,rfl,x5.k,x5.k,Lo.wv (r0.ext (x1.A (x2.A ((Ext.K w2).A x5)))),(UM b (fV (0,0,0) ax (eX V aD b ax d).1) w5).F λw9 x9=>?_⟩;have z9:=x9.size;exact⟨_,_,_,_,_,_,rfl,x9.k,x9.k,λbZ CH=>⟨rfl,(x0.A (x1.A (x2.A ((Ext.K w2).A (x5.A x9))))).L CH U⟩⟩
abbrev Ht:=aX×aX×aX
abbrev hL(h:Ht):LV:=[.bool h.1,.bool h.2.1,.bool h.2.2]
abbrev kr:aB:=253
def PB(h:Ht):One (hL h):=a0l
def pD{g h o:Nat}(hn:g≠h):bM (jM g o)≠some h:=λq=>hn (ka1 q)
def qu{g h o n:Nat}(hn:g≠h):bM (N (jM g o) n)≠some h:=by rw[cB];exact pD hn
def EO{wr:au}{gh go gb:Nat}{h:Ht}{cs:LV}(rh:Row wr gh (hL h) kr)(ro:Row wr go cs kr)(hc:cs.length=3)(gl:gh≠go)(h1:gb≠gh)(h2:gb≠go)(c:ae): ah wr.drew (O gh) 0 (hL h)/\∀ie:au,ie=wr.drew.setRow gb c->ah ie (O gh) 0 (hL h)/\Wr ie (O go) 3/\∀dL:au,dL=Vc.bB ie (O go) (hL h)->ah dL (O go) 0 (hL h)/\Mod (λi=>i=gb\/i=go) wr dL:=by
 have xd:=Ext.K wr;refine⟨Lo.wv (rh.ext xd),λie Jq=>?_⟩;have rh2:Row ie gh (hL h) kr:=(rh.ext xd).same (by rw[Jq];exact setRow_other _ _ _ _ h1.symm);have ro2:Row ie go cs kr:=(ro.ext xd).same (by rw[Jq];exact setRow_other _ _ _ _ h2.symm);have m24:Mod (λi=>i=gb\/i=go) wr ie:=by refine(Mod.P xd).trans ⟨by rw[Jq];rfl,by rw[Jq];rfl,by rw[Jq];rfl,by rw[Jq,setRow_size];exact ak _,λi _ hn=>by rw[Jq];exact setRow_other _ _ _ _ λq=>hn (.inl q)⟩
 refine⟨Lo.wv rh2,ro2.wr U,λdL OX=>?_⟩;rw[ro2.bB (vs:=hL h) (by rw[hc];exact ak _) (PB h),dC (hc▸rfl)]at OX;have r25:Row dL go (hL h) kr:=ro2.st OX;exact⟨Lo.wv r25,m24.trans ⟨by rw[OX];rfl,by rw[OX];rfl,by rw[OX];rfl,by rw[OX,setRow_size];exact ak _,λi _ hn=>by rw[OX];exact setRow_other _ _ _ _ λq=>hn (.inr q)⟩⟩
def PC(V:Ce->Int)(p:Int->aX)(b:Bx)(d:Ce):Nat->Bx×Ht
 |0=>(b,(false,false,false))
 |1=>((bA V p b 1 d.2.1).1,(false,(bA V p b 1 d.2.1).2,false))
 |2=>((bA V p (bA V p b 1 d.2.1).1 0 d.1).1,((bA V p (bA V p b 1 d.2.1).1 0 d.1).2,(bA V p b 1 d.2.1).2,false))
 |_=>j4 V p b d
def ahR{V:Ce->Int}{p:Int->aX}{b:Bx}{d:Ce}{m:Int}(hb:bU b m)(hm:m<=99990000000000){k:Nat}(hk:k<3):bU (PC V p b d k).1 100000000000000:=by
 have up:∀{c:Bx}{a:Int},bU c a->a<=100000000000000->bU c 100000000000000:=λh1 h2=>by unfold bU at h1⊢;omega
 have h1:=bV (V:=V) (p:=p) (ax:=1) (d:=d.2.1) hb U;have h2:=bV (V:=V) (p:=p) (ax:=0) (d:=d.1) h1 U;have:k=0\/k=1\/k=2:=by omega
 rcases this with rfl|rfl|rfl
 ·exact up hb U
 ·exact up h1 U
 ·exact up h2 U
def FL{v:aC}{V:Ce->Int}{w:au}(hV:Tl v V w)(hv:kq v=[])(b:Bx){m:Int}(hb:bU b m)(hm:m<=99990000000000)(d:Ce): ed 212 #[v,xB b,fQ d] w (Value.tuple #[xB (j4 V aD b d).1,.agg (hL (j4 V aD b d).2).toArray]):=by
 apply Ud.B;intro w0 e0 w1 e1 w2 e2 w3 e3 w4 e4;have x0:=aU e0;have z0:=zA e0;have r0:Row w0 w (pE b) fR:=Row.nw e0;have x1:=aU e1;have z1:=zA e1;have x2:=aU e2;have z2:=zA e2;have x3:=aU e3;have z3:=zA e3;have r3:Row w3 w2 (hL (false,false,false)) kr:=Row.nw e3;have x4:=aU e4;have z4:=zA e4;have r4:Row w4 w3 (hL (false,false,false)) kr:=Row.nw e4;have E9:=x0.A (x1.A (x2.A (x3.A x4)));refine⟨λn x a1 a2 a3 a4 a5 a6 wr=>∃k:Nat,x=k/\k+n=3/\a1=(PC V aD b d k).1.1.1/\a2=(PC V aD b d k).1.1.2.1/\a3=(PC V aD b d k).1.1.2.2/\a4=(PC V aD b d k).1.2.1/\a5=(PC V aD b d k).1.2.2.1/\a6=(PC V aD b d k).1.2.2.2/\Row wr w (pE (PC V aD b d k).1) fR/\Row wr w3 (hL (PC V aD b d k).2) kr/\Row wr w2 (hL (false,false,false)) kr/\Ext w wr,
  ⟨3,rfl,rfl,0,rfl,rfl,rfl,rfl,rfl,rfl,rfl,rfl,r0.ext (x1.A (x2.A (x3.A x4))),r4,r3.ext x4,E9⟩,?_⟩
 rintro n us x a1 a2 a3 a4 a5 a6 wr ⟨k,rfl,hk,rfl,rfl,rfl,rfl,rfl,rfl,hb',hh,ho,xr⟩;have l3:=hh.lt;apply Z.mk<;>intro hc
 ·have hc:=eK hc;have H6:k=0\/k=1\/k=2:=by omega
  have hnr:=ahR (V:=V) (p:=aD) (d:=d) hb hm (k:=k) U;obtain⟨a,ha,ha1,ha2,Ou⟩:∃a:Nat,a<3/\([(1:Int),J,(2:Int)]:LV)[((k:Nat):Int).toNat*1]? =some (S (a:Int))/\(PC V aD b d (k+1)).1=(bA V aD (PC V aD b d k).1 a (dj d a)).1/\putCells (hL (PC V aD b d k).2) a [.bool (bA V aD (PC V aD b d k).1 a (dj d a)).2]=hL (PC V aD b d (k+1)).2:=by
   rcases H6 with rfl|rfl|rfl
   ·exact⟨1,X,rfl,rfl,rfl⟩
   ·exact⟨0,X,rfl,rfl,rfl⟩
   ·exact⟨2,X,rfl,rfl,rfl⟩
  have zd:=nV wr;refine⟨⟨U,U⟩,_,ha1,(cW d a wr.drew).F λdA dc=>?_⟩;have z18:=dc.size;have arG:=xr.A ((Ext.K wr).A dc);refine⟨_,rfl,dc.k,dc.k,dc.k,Lo.wv (hb'.ext ((Ext.K wr).A dc)),(oW (hV.ext arG) hv (PC V aD b d k).1 hnr a (dj d a) U).F λeQ fe=>?_⟩;have z20:=fe.size;have afX:=(Ext.K wr).A (dc.A fe);refine⟨_,_,_,_,_,_,_,rfl,fe.k,fe.k,fe.k,λiZ e28=>?_⟩;generalize hy:bA V aD (PC V aD b d k).1 a (dj d a)=y at*;have rb:Row iZ w (pE y.1) fR:=by rw[e28];exact Row.set (hb'.ext afX) [_,_,_,_,_,_]
  have rh:Row iZ w3 (hL (PC V aD b d k).2) kr:=(hh.ext afX).same (by rw[e28];exact setRow_other _ _ _ _ U);have ro:Row iZ w2 (hL (false,false,false)) kr:=(ho.ext afX).same (by rw[e28];exact setRow_other _ _ _ _ U);have rC:Ext w iZ:=(arG.A fe).L e28 (ak _);have Eu:N (O w3.heap.size) (((a:Nat):Int).toNat*1)=N (O w3.heap.size) a:=by rw[iI,zp]
  obtain⟨p1,p2⟩:=rh.ft (j:=a) (v:=.bool y.2) ha rfl;have wk:=nE (j:=k);rw[Eu];refine⟨U,U,⟨rfl,p1⟩,qu U,qu U,qu U,λgI S8=>?_⟩;obtain⟨q1,q2⟩:=p2 gI S8;exact⟨n-1,U,rfl,rfl,k+1,wk,U,by rw[ha2],by rw[ha2],by rw[ha2],by rw[ha2],by rw[ha2],by rw[ha2],by rw[ha2];exact rb.same (q2.same _ rb.lt U),by rw[<-Ou];exact q1,ro.same (q2.same _ ro.lt U),q2.ext rC λi hi=>by omega⟩
 ·have hc:=eK hc;have H6:k=3:=by omega
  subst H6;obtain⟨q1,q2⟩:=EO (gb:=w1.heap.size) hh ho rfl U U U _;refine⟨_,_,_,q1,λjV e33=>?_⟩;obtain⟨q3,q4,q5⟩:=q2 jV e33;refine⟨q3,⟨rfl,q4⟩,pD U,pD U,pD U,λke e34=>?_⟩;obtain⟨q6,q7⟩:=q5 ke e34;exact⟨_,_,_,q6,rfl,q7.ext xr λi hi=>by omega⟩
def Kv(a b:Bx)(ha:bU a 100000000000000)(hb:bU b 100000000000000)(w:au):ed 264 #[xB a,xB b] w (S (Kw a b)):=by
 apply Uw.B;intro w0 e0 w1 e1;have x1:Ext w w1.drew:=((aU e0).aZ e1).drew;unfold bU at ha hb;rw[aL (n:=b.1.1-a.1.1) j_,aL (n:=b.1.2.2-a.1.2.2) j_,aL (n:=0-(b.1.1-a.1.1)) j_,aL (n:=0-(b.1.2.2-a.1.2.2)) j_];have e1:∀y:Int,(if 0-y>y then 0-y else y)=max y (-y):=λy=>by split<;>omega
 rw[e1,e1,wI];exact⟨rfl,x1⟩
def stK(h:Ht)(v:Ce):Nat->Ce
 |0=>v
 |1=>if h.1 then fV v 0 0 else v
 |2=>(λv=>if h.2.1 then fV v 1 0 else v) (if h.1 then fV v 0 0 else v)
 |_=>uW h v
def aan(h:Ht)(v:Ce)(w:au):ed 208 #[.agg (hL h).toArray,fQ v] w ((fQ (uW h v))):=by
 apply DK.B;intro w0 e0 w1 e1 w2 e2;have x0:=aU e0;have z0:=zA e0;have r0:Row w0 w (hL h) kr:=Row.nw e0;have x1:=aU e1;have z1:=zA e1;have x2:=aU e2;have z2:=zA e2;have yz:=x0.A (x1.A x2);refine⟨_,_,_,Lo.wv (r0.ext (x1.A x2)),λn x a1 a2 a3 wr=>∃k:Nat,x=k/\k+n=3/\(a1,a2,a3)=stK h v k/\Ext w wr/\w2.heap.size<=wr,⟨3,rfl,0,rfl,rfl,rfl,yz,ak _⟩,?_⟩;rintro n us x a1 a2 a3 wr ⟨k,rfl,hk,hs,xr,zr⟩;apply Z.mk<;>intro hc
 ·have hc:=eK hc;have H6:k=0\/k=1\/k=2:=by omega
  obtain⟨r,hr1,jT⟩:∃r:aX,([.bool h.1,.bool h.2.1,.bool h.2.2]:LV)[((k:Nat):Int).toNat*1]? =some (.bool r)/\stK h v (k+1)=if r then fV (stK h v k) k 0 else stK h v k:=by
   rcases H6 with rfl|rfl|rfl
   ·exact⟨h.1,rfl,rfl⟩
   ·exact⟨h.2.1,rfl,rfl⟩
   ·exact⟨h.2.2,rfl,rfl⟩
  have wk:=nE (j:=k);refine⟨⟨U,U⟩,r,hr1,Z.mk (λhq=>(jh (a1,a2,a3) k 0 wr).mono ?_) (λhq=>?_)⟩
  ·rintro e bZ ⟨rfl,dw⟩;have z16:=dw.size;refine⟨_,_,_,rfl,dw.k,dw.k,λeQ wx=>⟨n-1,U,rfl,k+1,wk,U,?_,(xr.A dw).L wx U,by rw[zR wx];omega⟩⟩;rw[jT,hq,if_pos rfl,<-hs]
  ·exact⟨n-1,U,rfl,k+1,wk,U,by rw[jT,hq,if_neg X,<-hs],xr,zr⟩
 ·have hc:=eK hc;have H6:k=3:=by omega
  subst H6;intro di vq;have hs:(a1,a2,a3)=uW h v:=hs;refine⟨by rw[<-hs],xr.L vq U⟩
def qk{b:Bx}{m n:Int}(h:bU b m)(hmn:m<=n):bU b n:=by unfold bU at h⊢;omega
def Vo{v:aC}{V:Ce->Int}{w:au}(hV:Tl v V w)(hv:kq v=[])(b:Bx){m:Int}(hb:bU b m)(hm:m<=99980000000000)(d:Ce)(up:Int): ed 204 #[v,xB b,fQ d,up] w (bT #[xB (jH V aD b d up).1,.agg (hL (jH V aD b d up).2).toArray]):=by
 apply Ux.B;have hup:(if 65536<up then 65536 else up)=min up 65536:=by split<;>omega
 rw[hup];intro w0 e0 w1 e1 w2 e2 w3 e3;have x0:=aU e0;have z0:=zA e0;have r0:Row w0 w (pE b) fR:=Row.nw e0;have x1:=aU e1;have z1:=zA e1;have r1:Row w1 w0 (eV d) iq:=Row.nw e1;have x2:=aU e2;have z2:=zA e2;have x3:=aU e3;have z3:=zA e3;have r3:Row w3 w2 (hL (false,false,false)) kr:=Row.nw e3;have OL:=x0.A (x1.A (x2.A x3));refine(FL (hV.ext OL) hv b hb U d).F λw4 x4=>?_
 have z4:=x4.size;have hpn:=Mk (V:=V) (p:=aD) (d:=d) hb U;have hstep:jH V aD b d up=(if((!(j4 V aD b d).2.1&&!(j4 V aD b d).2.2.2)||decide (up<=0)||!j8 V (nL b) aD)=true then j4 V aD b d else if Kw b (bA V aD (bA V aD (bA V aD (bA V aD b 1 (min up 65536)).1 0 d.1).1 2 d.2.2).1 1 (-((bA V aD b 1 (min up 65536)).1.1.2.1-b.1.2.1))).1<=Kw b (j4 V aD b d).1 then j4 V aD b d else((bA V aD (bA V aD (bA V aD (bA V aD b 1 (min up 65536)).1 0 d.1).1 2 d.2.2).1 1 (-((bA V aD b 1 (min up 65536)).1.1.2.1-b.1.2.1))).1,((bA V aD (bA V aD b 1 (min up 65536)).1 0 d.1).2,true,(bA V aD (bA V aD (bA V aD b 1 (min up 65536)).1 0 d.1).1 2 d.2.2).2))):=rfl;generalize j4 V aD b d=mv at*;refine⟨_,_,_,_,_,_,_,_,_,rfl,x4.k,x4.k,x4.k,λcp yF c9 pC bZ CH=>?_⟩;have cY:=aU yF;have z14:=zA yF;have dn:=aU pC;have z15:=zA pC;have r15:Row c9 cp (hL (false,false,false)) kr:=Row.nw pC;have z16:=zR CH;have r16:Row bZ cp (hL (false,false,false)) kr:=r15.same (by rw[CH];exact setRow_other _ _ _ _ U);have azT:Row bZ w4 (pE mv.1) fR:=by rw[CH];exact Row.set ((by rw[yF];exact Row.new w4 [_,_,_,_,_,_] _:Row cp w4 _ fR).ext dn) [_,_,_,_,_,_]
 have dw:Ext w4 bZ:=(cY.A dn).L CH (ak _);refine⟨⟨rfl,r16.wr bo⟩,pD U,pD U,pD U,pD U,λcP ug=>?_⟩;rw[r16.bB (vs:=hL mv.2) bo (PB _),dC bo]at ug;have rh:Row cP cp (hL mv.2) kr:=r16.st ug;have z17:=zR ug;have dO:Ext w4 cP:=dw.L ug U;have rp:Row cP w4 (pE mv.1) fR:=azT.same (by rw[ug];exact setRow_other _ _ _ _ U);have ake:=OL.A (x4.A dO);have atx:=x1.A (x2.A (x3.A (x4.A dO)));have ro:Row cP w2 (hL (false,false,false)) kr:=r3.ext (x4.A dO);have rb:=r0.ext atx;have rd:=r1.ext (x2.A (x3.A (x4.A dO)));have plain:∀wr:au,Ext cP wr->jH V aD b d up=mv->∃(b21:aX)(b22:aX)(b23:aX),ah wr.drew (O cp) 0 [.bool b21,b22,b23]/\
   ∀ie:au,ie=wr.drew.setRow w1 #[mv.1.1.1,mv.1.1.2.1,mv.1.1.2.2,mv.1.2.1,mv.1.2.2.1,mv.1.2.2.2]->
   ah ie (O cp) 0 [.bool b21,b22,b23]/\(true=true/\Wr ie (O w2) 3)/\bM (O w2)≠some w/\bM (O w2)≠some w0/\bM (O w2)≠some w1/\bM (O w2)≠some w4/\(∀dL:au,dL=Vc.bB ie (O w2) [.bool b21,b22,b23]->
   ∃(Wh:aX)(Yp:aX)(Yq:aX),ah dL (O w2) 0 [.bool Wh,Yp,Yq]/\
   (Sl (.tuple #[.agg #[mv.1.1.1,mv.1.1.2.1,mv.1.1.2.2,mv.1.2.1,mv.1.2.2.1,mv.1.2.2.2],.agg #[Wh,Yp,Yq]])=bT #[xB (jH V aD b d up).1,.agg (hL (jH V aD b d up).2).toArray]/\Ext w dL)):=λwr x gm=>by
  have zx:=x.size;have⟨q1,q2⟩:=EO (gb:=w1) (rh.ext x) (ro.ext x) rfl U U U #[mv.1.1.1,mv.1.1.2.1,mv.1.1.2.2,mv.1.2.1,mv.1.2.2.1,mv.1.2.2.2];refine⟨_,_,_,q1,λie Jq=>?_⟩;have⟨q3,q4,q5⟩:=q2 ie Jq;refine⟨q3,⟨rfl,q4⟩,pD U,pD U,pD U,pD U,λdL OX=>?_⟩;have⟨q6,q7⟩:=q5 dL OX;exact⟨_,_,_,q6,by rw[gm],q7.ext (ake.A x) λi hi=>by omega⟩
 have gm:∀wr:au,Ext cP wr->Tl v V wr:=λwr x=>hV.ext (ake.A x)
 refine⟨λwj=>Ext cP wj/\¬((!mv.2.1&&!mv.2.2.2)||decide (up<=0)||!j8 V (nL b) aD)=true,?_,?_⟩
 ·refine⟨X,X,mv.2.1,rh.at 0 rfl,Z.mk (λq1=>⟨X,X,mv.2.2.2,rh.at 2 rfl,Z.mk (λq2=>plain cP (Ext.M _) (by rw[hstep,if_pos (by rw[q1,q2];rfl)])) (λq2=>?_)⟩) (λq1=>?_)⟩
  all_goals
   have hcf:(!mv.2.1&&!mv.2.2.2)=false:=by first|rw[q2,Bool.and_false]|rw[q1,C9]
   refine Z.mk (λq3=>plain cP (Ext.M _) (by rw[hstep,if_pos (by rw[hcf,q3];rfl)])) (λq3=>(qd (gm cP (Ext.M _)) hv b).F λjD mO=>?_)
   exact⟨_,rfl,mO.k,mO.k,mO.k,mO.k,Z.mk (λq4=>plain jD mO (by rw[hstep,if_pos (by rw[hcf,q3,q4];rfl)])) (λq4=>⟨rfl,rfl,rfl,rfl,mO,by rw[hcf,q3,q4];decide⟩)⟩
 ·rintro us vR ⟨rG,hn⟩;rw[if_neg hn]at hstep;have z66:=rG.size;have n1:=bV (V:=V) (p:=aD) (ax:=1) (d:=min up 65536) hb U;refine(oW (gm vR rG) hv b (qk hb U) 1 (min up 65536) X).F λpI yB=>?_
  have z67:=yB.size;have n2:=bV (V:=V) (p:=aD) (ax:=0) (d:=d.1) n1 U;have n3:=bV (V:=V) (p:=aD) (ax:=2) (d:=d.2.2) n2 U;have n4:=bV (V:=V) (p:=aD) (ax:=1) (d:= -((bA V aD b 1 (min up 65536)).1.1.2.1-b.1.2.1)) n3 U;refine⟨_,_,_,_,_,_,_,rfl,yB.k,yB.k,yB.k,yB.k,λuh e75 pB e76 uc e77=>?_⟩;generalize bA V aD b 1 (min up 65536)=hi at*;have z75:=zA e75;have z76:=zR e76;have z77:=zA e77;have rhi:Row pB pI (pE hi.1) fR:=by rw[e76];exact Row.set (by rw[e75];exact Row.new pI [_,_,_,_,_,_] _) [_,_,_,_,_,_]
  have apm:Row uc pB (hL (false,false,false)) kr:=Row.nw e77;have x77:Ext pI uc:=((aU e75).L e76 (ak _)).aZ e77;have rhi:=rhi.ext (aU e77);refine⟨⟨rfl,apm.wr bo⟩,pD U,pD U,pD U,pD U,pD U,λuf e78 K9 e79 H5 e80=>?_⟩;rw[apm.bB (vs:=hL (false,true,false)) bo (PB (false,true,false)),dC bo]at e78;have z78:=zR e78;have azX:Row uf pB (hL (false,true,false)) kr:=apm.st e78;have rhi:=rhi.so e78;have x78:Ext pI uf:=x77.L e78 U;have z79:=zA e79;have z80:=zR e80;have ag0:Ext uf H5:=(aU e79).L e80 (ak _);have azY:Row H5 uf (pE hi.1) fR:=by rw[e80];exact Row.set (by rw[e79];exact Row.new uf [_,_,_,_,_,_] _) [_,_,_,_,_,_]
  have azZ:=azX.ext ag0;have aty:=rG.A (yB.A (x78.A ag0));refine(oW (gm H5 aty) hv hi.1 (qk n1 U) 0 d.1 X).F λwA H9=>?_
  have z81:=H9.size;refine⟨_,_,_,_,_,_,_,rfl,H9.k,H9.k,H9.k,H9.k,H9.k,H9.k,λwB e89=>?_⟩;generalize bA V aD hi.1 0 d.1=ax at*;have z89:=zR e89;have atz:Row wB uf (pE ax.1) fR:=by rw[e89];exact Row.set (azY.ext H9) [_,_,_,_,_,_]
  have az0:Row wB pB (hL (false,true,false)) kr:=(azZ.ext H9).same (by rw[e89];exact setRow_other _ _ _ _ U);have x89:Ext uf wB:=(ag0.A H9).L e89 (ak _);have⟨p1,p2⟩:=az0.ft (j:=0) (v:=.bool ax.2) X rfl;refine⟨X,X,⟨rfl,p1⟩,qu U,qu U,qu U,qu U,qu U,qu U,λrF e90=>?_⟩;have⟨q1,q2⟩:=p2 rF e90;have az1:Row rF pB (hL (ax.2,true,false)) kr:=q1;have az2:=atz.same (q2.same _ atz.lt U);have z90:=q2.size;have x90:Ext pI rF:=q2.ext (x78.A x89) λi hi=>by omega
  refine(oW (gm rF (rG.A (yB.A x90))) hv ax.1 (qk n2 U) 2 d.2.2 X).F λw91 Oz=>?_
  have z91:=Oz.size;refine⟨_,_,_,_,_,_,_,rfl,Oz.k,Oz.k,Oz.k,Oz.k,Oz.k,Oz.k,λIu e99=>?_⟩;generalize bA V aD ax.1 2 d.2.2=az at*;have z99:=zR e99;have atB:Row Iu uf (pE az.1) fR:=by rw[e99];exact Row.set (az2.ext Oz) [_,_,_,_,_,_]
  have az3:Row Iu pB (hL (ax.2,true,false)) kr:=(az1.ext Oz).same (by rw[e99];exact setRow_other _ _ _ _ U);have Yr:Ext pI Iu:=(x90.A Oz).L e99 U;have⟨p1,p3⟩:=az3.ft (j:=2) (v:=.bool az.2) (show 2<3 by decide) rfl;refine⟨X,X,⟨rfl,p1⟩,qu U,qu U,qu U,qu U,qu U,qu U,λsZ akf=>?_⟩;have⟨q1,q3⟩:=p3 sZ akf;have atD:Row sZ pB (hL (ax.2,true,az.2)) kr:=q1;have aDQ:=atB.same (q3.same _ atB.lt U);have ayX:=q3.size;have Bi:Ext pI sZ:=q3.ext Yr λi hi=>by omega
  have hhi:=n1;have hbb:=hb;unfold bU at hhi hbb;have wr1:I (hi.1.1.2.1-b.1.2.1)=hi.1.1.2.1-b.1.2.1:=wI;have Yi:I (0-(hi.1.1.2.1-b.1.2.1))= -(hi.1.1.2.1-b.1.2.1):=by rw[wI];omega
  rw[wr1,Yi];refine(oW (gm sZ (rG.A (yB.A Bi))) hv az.1 (qk n3 U) 1 (-(hi.1.1.2.1-b.1.2.1)) X).F λJt pK=>?_
  have aHj:=pK.size;refine⟨_,_,_,_,_,_,_,rfl,pK.k,pK.k,pK.k,pK.k,pK.k,pK.k,λud apo=>?_⟩;generalize bA V aD az.1 1 (-(hi.1.1.2.1-b.1.2.1))=ay at*;have ay3:=zR apo;have atF:Row ud pB (hL (ax.2,true,az.2)) kr:=(atD.ext pK).same (by rw[apo];exact setRow_other _ _ _ _ U);have ru:Ext pI ud:=(Bi.A pK).L apo U;have xd:=Ext.K ud;have zd:=nV ud;have x17d:=rG.A (yB.A (ru.A xd));refine(Kv b ay.1 (qk hb U) (qk n4 U) ud.drew).F λWm lJ=>?_
  have aHk:=lJ.size;refine⟨_,rfl,lJ.k,lJ.k,lJ.k,lJ.k,lJ.k,lJ.k,Lo.wv (rp.ext (x17d.A lJ)),Lo.wv (rb.ext (x17d.A lJ)),(Kv b mv.1 (qk hb U) (qk hpn U) Wm).F λBh lK=>?_⟩;have aHl:=lK.size;have Ij:=x17d.A (lJ.A lK);refine⟨_,rfl,lK.k,lK.k,lK.k,lK.k,lK.k,lK.k,Z.mk (λq=>?_) (λq=>?_)⟩
  ·have q:=eK q;rw[if_pos q]at hstep;rw[hstep];have⟨q1,q2⟩:=EO (gb:=w1) (rh.ext Ij) (ro.ext Ij) rfl U U U #[mv.1.1.1,mv.1.1.2.1,mv.1.1.2.2,mv.1.2.1,mv.1.2.2.1,mv.1.2.2.2];refine⟨_,_,_,q1,λie Jq=>?_⟩;have⟨q3,q4,q5⟩:=q2 ie Jq;refine⟨q3,⟨rfl,q4⟩,pD U,pD U,pD U,pD U,pD U,pD U,λdL OX=>?_⟩;have⟨q6,q7⟩:=q5 dL OX;exact⟨_,_,_,q6,rfl,q7.ext (ake.A Ij) λi hi=>by omega⟩
  ·have q:=eK q;rw[if_neg q]at hstep;rw[hstep];have⟨q1,q2⟩:=EO (gb:=w1) (atF.ext (xd.A (lJ.A lK))) (ro.ext Ij) rfl U U U #[ay.1.1.1,ay.1.1.2.1,ay.1.1.2.2,ay.1.2.1,ay.1.2.2.1,ay.1.2.2.2];refine⟨_,_,_,q1,λie Jq=>?_⟩;have⟨q3,q4,q5⟩:=q2 ie Jq;refine⟨q3,⟨rfl,q4⟩,pD U,pD U,pD U,pD U,pD U,pD U,λdL OX=>?_⟩;have⟨q6,q7⟩:=q5 dL OX;exact⟨_,_,_,q6,rfl,q7.ext (ake.A Ij) λi hi=>by omega⟩
def am0(n:Int):(if 70368744177664<(if(-70368744177664)>n then(-70368744177664)else n)then 70368744177664 else(if(-70368744177664)>n then(-70368744177664)else n))=iW n:=by
 unfold iW
 repeat' split
 all_goals omega
def Cy(n:Int)(w:au):kh 265 #[n] w (S (iW n)):=by apply DL.B;exact⟨by rw[am0],rfl⟩
def KI(b:eJ)(d:Ce)(w:au):ed 205 #[Ip b,fQ d] w ((fQ (jA b.aw d))):=by
 apply IL.B;intro w0 e0 w1 e1 w2 e2;have x0:=aU e0;have z0:=zA e0;have r0:Row w0 w (pc b) DR:=Row.nw e0;have x1:=aU e1;have z1:=zA e1;have x2:=aU e2;have z2:=zA e2;refine(jw b.aw d w2).F λw3 x3=>?_
 have z3:=x3.size;refine⟨_,_,_,rfl,x3.k,x3.k,x3.k,λw7 e7 w8 e8=>?_⟩;have x8:Ext w3 w8.drew:=((aU e7).L e8 (ak _)).drew;have z8:w8.drew.heap.size=w3.heap.size+1:=by show w8.heap.size=_;rw[zR e8,zA e7]
 have r8:Row w8.drew w3 (eV (iY b.aw d)) iq:=(by rw[e8];exact Row.set (by rw[e7];exact Row.new w3 [_,_,_] _) [_,_,_]:Row w8 w3 _ iq).ext (Ext.K w8);have rb:=r0.ext (x1.A (x2.A (x3.A x8)));refine(Cy (iY b.aw d).1 w8.drew).V ?_;refine⟨_,rfl,rfl,rfl,rfl,rfl,tP rb rfl rfl rfl,xG r8 rfl,xG r8 rfl,(Cy (iY b.aw d).2.1 w8.drew).V ?_⟩;refine⟨_,rfl,rfl,rfl,rfl,rfl,tP rb rfl rfl rfl,xG r8 rfl,(Cy (iY b.aw d).2.2 w8.drew).V ?_⟩;refine⟨_,rfl,rfl,rfl,rfl,rfl,tP rb rfl rfl rfl,(vD (iW (iY b.aw d).1,iW (iY b.aw d).2.1,iW (iY b.aw d).2.2) b.aw w8.drew).F λc9 dn=>?_⟩;have z15:=dn.size;exact⟨_,_,_,rfl,dn.k,dn.k,dn.k,dn.k,λfm Td=>⟨rfl,(x0.A (x1.A (x2.A (x3.A (x8.A dn))))).L Td U⟩⟩
abbrev QO:=Int×Int×aX
abbrev inV(i:QO):aC:=.agg #[i.1,i.2.1,.bool i.2.2]
abbrev inL(i:QO):LV:=[S i.1,S i.2.1,.bool i.2.2]
abbrev ai1:aB:=101
def tq(b:eJ)(i:QO):eJ:={b with speed:=(Kc i.1,b.speed.2.1,Kc i.2.1)}
def VK(b:eJ)(v:aC)(i:QO)(w:au):ed 139 #[Ip b,v,inV i] w ((Ip (tq b i))):=by
 apply DN.B;intro w0 e0 w1 e1 w2 e2;have x0:=aU e0;have z0:=zA e0;have x1:=aU e1;have z1:=zA e1;have r1:Row w1 w0 (inL i) ai1:=Row.nw e1;have x2:Ext w1 w2.drew:=(aU e2).drew;have z2:w2.drew.heap.size=w1.heap.size+1:=(zA e2:w2.heap.size=_);refine(C5 i.1 w2.drew).F λw3 x3=>?_
 have z3:=x3.size;refine⟨_,rfl,x3.k,x3.k,x3.k,xG (r1.ext (x2.A x3)) rfl,(C5 i.2.1 w3).F λw5 x5=>?_⟩;have z5:=x5.size;exact⟨_,rfl,x5.k,x5.k,x5.k,λw7 e7 w8 e8 w9 e9=>⟨rfl,((((x0.A (x1.A (x2.A (x3.A x5)))).L e7 U).L e8 U).L e9 U)⟩⟩
def wS(n jump less least:Int)(j:aX):Int:=if j then jump else max (n-less) (-least)
def tp(V:Ce->Int)(b:eJ)(i:QO):eJ:=
 if j8 V b.box (λx=>x==4)=true then {b with speed:=(b.speed.1,wS b.speed.2.1 8192 4096 8192 i.2.2,b.speed.2.2)}
 else if j8 V b.box rW=true then {b with speed:=(b.speed.1,wS b.speed.2.1 6144 1024 8192 i.2.2,b.speed.2.2)}
 else {b with speed:=(b.speed.1,wS b.speed.2.1 28672 4096 262144 (i.2.2&&j8 V (nL b.box) aD),b.speed.2.2)}
def vM(b:eJ)(jump less least:Int)(j:aX){gb gp gi:Nat}{w:au}{τ:aB}{i:QO}(hb:Row w gb (pc b) DR)(hp:Row w gp [.pointer (jM gb 4)] τ)(hi:Row w gi [i.1,i.2.1,j] ai1)(hs:cH (b.speed.2.1-less))(hl:0<=least/\least<=1000000)(hn:gb≠gp/\gb≠gi): Y 201 #[jump,less,least,gp,gi] w λe w'=>e=pz/\Row w' gb (pc {b with speed:=(b.speed.1,wS b.speed.2.1 jump less least j,b.speed.2.2)}) DR/\Mod (λk=>k=gb) w w':=by
 apply zE.B;have xd:=Ext.K w;have hb':=hb.ext xd;have hp':=hp.ext xd;have e1:I (b.speed.2.1-less)=b.speed.2.1-less:=aL hs;have e2:I (0-least)= -least:=by rw[wI];omega
 have e3:(if -least>b.speed.2.1-less then -least else b.speed.2.1-less)=max (b.speed.2.1-less) (-least):=by split<;>omega
 refine⟨_,hp'.at 0 rfl,_,hp'.at 0 rfl,lC rfl ⟨_,hb'.at 4 rfl,lC rfl ?_⟩⟩;rw[e1,e2,e3];have⟨p1,p2⟩:=hb'.ft (j:=4) (v:=S (max (b.speed.2.1-less) (-least))) (show 4<9 by decide) rfl;refine⟨⟨rfl,p1⟩,λw3 e3=>?_⟩;have⟨q1,q2⟩:=p2 w3 e3;have hm:=(Mod.P (F:=λk=>k=gb) xd).trans q2;have hi3:=(hi.ext xd).same (q2.same _ (hi.ext xd).lt (Ne.symm hn.2));have hp3:=hp'.same (q2.same _ hp'.lt (Ne.symm hn.1));refine⟨j,hi3.at 2 rfl,?_⟩
 cases j with
 |false=>exact⟨rfl,q1,hm⟩
 |true=>
  have⟨p3,p4⟩:=q1.ft (j:=4) (v:=S jump) (show 4<9 by decide) rfl;refine⟨_,hp3.at 0 rfl,lC rfl ⟨⟨rfl,p3⟩,λw6 e6=>?_⟩⟩;have⟨q3,q4⟩:=p4 w6 e6;exact⟨rfl,q3,hm.trans q4⟩
def VL{v:aC}{V:Ce->Int}{w:au}(hV:Tl v V w)(hv:kq v=[])(b:eJ)(hw:cH b.wd)(hs: -1000000<=b.speed.2.1/\b.speed.2.1<=1000000)(i:QO): ed 140 #[Ip b,v,inV i] w ((Ip (tp V b i))):=by
 apply DP.B;intro w0 e0 w1 e1 w2 e2;have x0:=aU e0;have z0:=zA e0;have r0:Row w0 w (pc b) DR:=Row.nw e0;have x1:=aU e1;have z1:=zA e1;have r1:Row w1 w0 (inL i) ai1:=Row.nw e1;have x2:=aU e2;have z2:=zA e2;refine(kC b hw w2).F λw3 x3=>?_
 have z3:=x3.size;refine⟨_,_,_,_,_,_,rfl,x3.k,x3.k,x3.k,λbr vv bE A8 bN ui bw Dz=>?_⟩;have z10:=zA vv;have z11:=zA A8;have z12:=zR ui;have z13:=zR Dz;have cJ:Ext w3 bw:=(((aU vv).aZ A8).L ui (ak _)).L Dz U;have rp:∃τ,Row bw br [.pointer (jM w 4)] τ:=⟨_,by
  rw[Dz];exact Row.set ((by rw[A8];exact Row.new br [_] _:Row bE br _ _).same (by rw[ui];exact setRow_other _ _ _ _ U)) [_]⟩
 have⟨τ,rp⟩:=rp;have rb:=r0.ext (x1.A (x2.A (x3.A cJ)));have ri:=r1.ext (x2.A (x3.A cJ));have xw:=x0.A (x1.A (x2.A (x3.A cJ)));have fin:∀{bZ:au}{b':eJ},Row bZ w (pc b') DR->Ext w bZ->∃(dO:Int)(dc:Int)(dQ:Int)(fe:Int)(fk:Int)(fX:Int)(iB:Int)(jn:Int)(b25:aX),ah bZ (O w) 0 [dO,dc,dQ,fe,fk,fX,iB,jn,b25]/\
   ∀kN:au,kN=bZ.setRow w1 #[dO,dc,dQ,fe,fk,fX,iB,jn,b25]->(Sl (.agg #[dO,dc,dQ,fe,fk,fX,iB,jn,b25])=(Ip b')/\Ext w kN):=λhr x=>⟨_,_,_,_,_,_,_,_,_,Lo.wv hr,λkN TB=>⟨rfl,x.L TB U⟩⟩
 unfold tp;refine(Qh (hV.ext xw) hv b.box).F λcp cY=>?_
 have z14:=cY.size;refine⟨_,rfl,cY.k,cY.k,Z.mk (λhc=>?_) (λhc=>?_)⟩
 ·rw[if_pos hc];refine(vM b 8192 4096 8192 i.2.2 (rb.ext cY) (rp.ext cY) (ri.ext cY) j_ X ⟨U,U⟩).mono ?_;rintro e bZ ⟨rfl,hr,hm⟩;exact⟨rfl,hm.same _ U U,hm.same _ U U,fin hr (hm.ext (xw.A cY) λk hk=>by omega)⟩
 rw[if_neg (by rw[hc];decide)];refine(Zk (hV.ext (xw.A cY)) hv b.box).F λgO jl=>?_
 have z27:=jl.size;have akl:=xw.A (cY.A jl);have apy:=rb.ext (cY.A jl);have apz:=rp.ext (cY.A jl);have apA:=ri.ext (cY.A jl);refine⟨_,rfl,jl.k,jl.k,Z.mk (λnA=>?_) (λnA=>⟨_,apA.at 2 rfl,?_⟩)⟩
 ·rw[if_pos nA];refine(vM b 6144 1024 8192 i.2.2 apy apz apA j_ X ⟨U,U⟩).mono ?_;rintro e bZ ⟨rfl,hr,hm⟩;exact⟨rfl,hm.same _ U U,hm.same _ U U,fin hr (hm.ext akl λk hk=>by omega)⟩
 rw[if_neg (by rw[nA];decide)];have last:∀(j:aX)(kO:au),Ext gO kO->Wr kO (jM w0 2) 1/\∀iO:au,iO=Vc.bB kO (jM w0 2) [.bool j]->Row iO w0 [i.1,i.2.1,.bool j] ai1/\Mod (λk=>k=w0) kO iO:=λj kO kA=>(apA.ext kA).ft (j:=2) (v:=.bool j) (show 2<3 by decide) rfl
 refine Z.mk (λhj=>(qd (hV.ext akl) hv b.box).mono ?_) (λhj=>?_)
 ·rintro e kO ⟨rfl,kA⟩;have z41:=kA.size;rw[hj,oU];generalize j8 V (nL b.box) aD=st;have⟨p1,p2⟩:=last st kO kA;refine⟨_,rfl,kA.k,kA.k,p1,pD U,pD U,λiO Yn=>?_⟩;have⟨q1,q2⟩:=p2 iO Yn;have z43:=q2.size;refine(vM (i:=i) b 28672 4096 262144 st ((apy.ext kA).same (q2.same _ U U)) ((apz.ext kA).same (q2.same _ U U)) q1 j_ X ⟨U,U⟩).mono ?_;rintro e bZ ⟨rfl,hr,hm⟩;exact⟨rfl,hm.same _ U U,hm.same _ U U,fin hr (hm.ext (q2.ext (akl.A kA) λk hk=>by omega) λk hk=>by omega)⟩
 ·rw[hj,C9];have⟨p1,p2⟩:=last false gO (Ext.M _);refine⟨p1,pD U,pD U,λiO Yn=>?_⟩;have⟨q1,q2⟩:=p2 iO Yn;have z43:=q2.size;refine(vM (i:=i) b 28672 4096 262144 false (apy.same (q2.same _ U U)) (apz.same (q2.same _ U U)) q1 j_ X ⟨U,U⟩).mono ?_;rintro e bZ ⟨rfl,hr,hm⟩;exact⟨rfl,hm.same _ U U,hm.same _ U U,fin hr (hm.ext (q2.ext akl λk hk=>by omega) λk hk=>by omega)⟩
section
variable{w w':au}{l:LV}{t:aB}
def rN(e:w'=w.alloc (.cells l.toArray t)):Row w' w l t:=a1x
def rS{g:Nat}{cs:LV}(h:Row w g cs t)(e:w'=w.setRow g l.toArray):Row w' g l t:=h.st e
def GM(V:Ce->Int)(b:eJ):eJ:=
 let y:=jH V aD b.box (jA b.aw b.speed) 32768
 {b with aw:=iY b.aw (uJ y.1.1 b.box.1),speed:=uW y.2 b.speed,fG:=j8 V (nL y.1) aD}
def jj(V:Ce->Int)(b:eJ)(d:Ce):eJ:={b with aw:=iY b.aw (uJ (j4 V aD b.box (jA b.aw d)).1.1 b.box.1)}
variable{v:aC}{V:Ce->Int}{m:Int}(hV:Tl v V w)
def aaR(hv:kq v=[])(b:eJ)(hw:cH b.wd)(hnb:bU b.box m)(hm:m<=99980000000000)(i:QO): ed 141 #[Ip b,v,inV i] w ((Ip (GM V b))):=by
 have hgo:GM V b={b with aw:=iY b.aw (uJ (jH V aD b.box (jA b.aw b.speed) 32768).1.1 b.box.1),speed:=uW (jH V aD b.box (jA b.aw b.speed) 32768).2 b.speed,fG:=j8 V (nL (jH V aD b.box (jA b.aw b.speed) 32768).1) aD}:=rfl;apply Gc.B;intro w0 e0 w1 e1 w2 e2;have x0:=aU e0;have z0:=zA e0;have r0:Row w0 w (pc b) DR:=Row.nw e0;have x1:=aU e1;have z1:=zA e1;have x2:=aU e2;have z2:=zA e2;refine(kC b hw w2).F λw3 x3=>?_
 have z3:=x3.size;refine⟨_,_,_,_,_,_,rfl,x3.k,x3.k,x3.k,λbr vv bE A8=>?_⟩;have z10:=zA vv;have z11:=zR A8;have bS:Ext w3 bE:=(aU vv).L A8 (ak _);have rwas:Row bE w3 (pE b.box) fR:=a0D
 have rb:=r0.ext (x1.A (x2.A (x3.A bS)));have xw:=x0.A (x1.A (x2.A (x3.A bS)));have apw:=hV.ext xw;have rwas0:=rwas;refine⟨λp q wj=>∃gB gH:Nat,p=O gB/\q=O gH/\Row wj gB (pE (jH V aD b.box (jA b.aw b.speed) 32768).1) fR/\Row wj gH (hL (jH V aD b.box (jA b.aw b.speed) 32768).2) kr/\Ext bE wj/\bE<=gB,?_,?_⟩
 ·have e_:=Ext.K bE;have rwas:=rwas.ext e_;have zd:=nV bE;have hS:=λ(cur:au)(e_:Ext bE cur)=>Vo (w:=cur) (apw.ext e_) hv b.box hnb hm (jA b.aw b.speed) 32768
  generalize jH V aD b.box (jA b.aw b.speed) 32768=y at*
  repeat' first
   |(refine(KI b b.speed _).mono ?_;rintro e v ⟨rfl,xn⟩;have zn:=xn.size;refine⟨_,_,_,rfl,?_⟩;(repeat (refine⟨xn.k,?_⟩));refine⟨Lo.wv (rwas.ext xn),?_⟩;have e_:=e_.A xn;have rwas:=rwas.ext xn;(try have rB:=rB.ext xn);(try have rH:=rH.ext xn);clear xn)
   |(refine(hS _ e_).mono ?_;rintro e v ⟨rfl,xn⟩;have zn:=xn.size;refine⟨_,_,_,_,_,_,_,_,_,rfl,?_⟩;(repeat (refine⟨xn.k,?_⟩));have e_:=e_.A xn;have rwas:=rwas.ext xn;(try have rB:=rB.ext xn);(try have rH:=rH.ext xn);clear xn)
   |(intro v en;have rBn:Row v _ [J,J,J,J,J,J] fR:=rN en;have xn:=(aU en);have zn:=zA en;have e_:=e_.A xn;have rwas:=rwas.ext xn;(try have rB:=rB.ext xn);(try have rH:=rH.ext xn);have rB:=rBn;clear xn en)
   |(intro v en;have rHn:Row v _ (hL (false,false,false)) kr:=rN en;have xn:=(aU en);have zn:=zA en;have e_:=e_.A xn;have rwas:=rwas.ext xn;(try have rB:=rB.ext xn);(try have rH:=rH.ext xn);have rH:=rHn;clear xn en)
   |(intro ws es;have zs:=zR es;have rB:Row ws _ (pE y.1) fR:=rS rB es;have rH:=rH.so es;have e_:=e_.L es U;refine⟨⟨rfl,rH.wr bo⟩,pD U,pD U,pD U,pD U,pD U,λwt et=>?_⟩;rw[rH.bB (vs:=hL y.2) bo (PB _),dC bo]at et;have zt:=zR et;have rB:=rB.so et;have rH:Row wt _ (hL y.2) kr:=rS rH et;exact⟨rfl,rfl,rfl,rfl,_,_,rfl,rfl,rB,rH,e_.L et U,U⟩)
   |refine And.intro ?_ ?_
 ·rintro us Jw aom wj ⟨gB,gH,rfl,rfl,rB,rH,xj,hgB⟩;have zj:=xj.size;have xd:=Ext.K wj;have zd:=nV wj;have lB:=rB.lt;have lH:=rH.lt;rw[hgo];generalize jH V aD b.box (jA b.aw b.speed) 32768=y at*;refine lC rfl ⟨_,_,_,tP (o:=0) (rB.ext xd) rfl rfl rfl,(vD y.1.1 b.box.1 wj.drew).F λJz EC=>?_⟩;have aHT:=EC.size;have Yy:=xj.A (xd.A EC);refine⟨_,_,_,rfl,EC.k,EC.k,EC.k,EC.k,tP (rb.ext Yy) rfl rfl rfl,(jw b.aw (uJ y.1.1 b.box.1) Jz).F λTj pJ=>?_⟩;have aAH:=pJ.size;refine⟨_,_,_,rfl,pJ.k,pJ.k,pJ.k,pJ.k,λyJ aca=>?_⟩;have aHU:=zR aca;have aAI:Ext w yJ:=(xw.A (Yy.A pJ)).L aca (ak _);have rH2:Row yJ gH (hL y.2) kr:=(rH.ext (xd.A (EC.A pJ))).same (by rw[aca];exact setRow_other _ _ _ _ ((rH.ext (xd.A (EC.A pJ))).ne ((rb.ext (Yy.A pJ))) X));have rB2:Row yJ gB (pE y.1) fR:=(rB.ext (xd.A (EC.A pJ))).same (by rw[aca];exact setRow_other _ _ _ _ U);have n1:gH≠w:=(rH.ext (xd.A (EC.A pJ))).ne ((rb.ext (Yy.A pJ))) X;refine⟨_,_,_,Lo.wv rH2,(aan y.2 b.speed yJ).F λaop JB=>?_⟩;have aHX:=JB.size;refine⟨_,_,_,rfl,JB.k,JB.k,JB.k,JB.k,λabR apx=>?_⟩;have aHY:=zR apx;have agA:Ext w abR:=(aAI.A JB).L apx (ak _);have rB3:Row abR gB (pE y.1) fR:=(rB2.ext JB).same (by rw[apx];exact setRow_other _ _ _ _ U);refine⟨_,_,_,_,_,_,Lo.wv rB3,(qd (hV.ext agA) hv y.1).F λaoq acb=>?_⟩;have aH0:=acb.size;refine⟨_,rfl,acb.k,acb.k,acb.k,acb.k,λar0 aAJ ar1 aAK=>⟨rfl,((agA.A acb).L aAJ (ak _)).L aAK U⟩⟩
def GN(hv:kq v=[])(b:eJ)(hw:cH b.wd)(hnb:bU b.box m)(hm:m<=99990000000000)(d:Ce): ed 144 #[Ip b,v,fQ d] w ((Ip (jj V b d))):=by
 have hgo:jj V b d={b with aw:=iY b.aw (uJ (j4 V aD b.box (jA b.aw d)).1.1 b.box.1)}:=rfl;apply DQ.B;intro w0 e0 w1 e1 w2 e2;have x0:=aU e0;have z0:=zA e0;have r0:Row w0 w (pc b) DR:=Row.nw e0;have x1:=aU e1;have z1:=zA e1;have x2:=aU e2;have z2:=zA e2;refine(kC b hw w2).F λw3 x3=>?_
 have z3:=x3.size;refine⟨_,_,_,_,_,_,rfl,x3.k,x3.k,x3.k,λbr vv bE A8=>?_⟩;have z10:=zA vv;have z11:=zR A8;have bS:Ext w3 bE:=(aU vv).L A8 (ak _);have rwas:Row bE w3 (pE b.box) fR:=a0D
 have rb:=r0.ext (x1.A (x2.A (x3.A bS)));have xw:=x0.A (x1.A (x2.A (x3.A bS)));have apw:=hV.ext xw;refine⟨λp wj=>∃gB gH:Nat,p=O gB/\Row wj gB (pE (j4 V aD b.box (jA b.aw d)).1) fR/\Row wj gH (hL (j4 V aD b.box (jA b.aw d)).2) kr/\Ext bE wj/\bE<=gB,?_,?_⟩
 ·have e_:=Ext.K bE;have rwas:=rwas.ext e_;have zd:=nV bE;have hS:=λ(cur:au)(e_:Ext bE cur)=>FL (w:=cur) (apw.ext e_) hv b.box hnb hm (jA b.aw d)
  generalize j4 V aD b.box (jA b.aw d)=y at*
  repeat' first
   |(refine(KI b d _).mono ?_;rintro e v ⟨rfl,xn⟩;have zn:=xn.size;refine⟨_,_,_,rfl,?_⟩;(repeat (refine⟨xn.k,?_⟩));refine⟨Lo.wv (rwas.ext xn),?_⟩;have e_:=e_.A xn;have rwas:=rwas.ext xn;(try have rB:=rB.ext xn);(try have rH:=rH.ext xn);clear xn)
   |(refine(hS _ e_).mono ?_;rintro e v ⟨rfl,xn⟩;have zn:=xn.size;refine⟨_,_,_,_,_,_,_,_,_,rfl,?_⟩;(repeat (refine⟨xn.k,?_⟩));have e_:=e_.A xn;have rwas:=rwas.ext xn;(try have rB:=rB.ext xn);(try have rH:=rH.ext xn);clear xn)
   |(intro v en;have rBn:Row v _ [J,J,J,J,J,J] fR:=rN en;have xn:=(aU en);have zn:=zA en;have e_:=e_.A xn;have rwas:=rwas.ext xn;(try have rB:=rB.ext xn);(try have rH:=rH.ext xn);have rB:=rBn;clear xn en)
   |(intro v en;have rHn:Row v _ (hL (false,false,false)) kr:=rN en;have xn:=(aU en);have zn:=zA en;have e_:=e_.A xn;have rwas:=rwas.ext xn;(try have rB:=rB.ext xn);(try have rH:=rH.ext xn);have rH:=rHn;clear xn en)
   |(intro ws es;have zs:=zR es;have rB:Row ws _ (pE y.1) fR:=rS rB es;have rH:=rH.so es;have e_:=e_.L es U;refine⟨⟨rfl,rH.wr bo⟩,pD U,pD U,pD U,pD U,pD U,λwt et=>?_⟩;rw[rH.bB (vs:=hL y.2) bo (PB _),dC bo]at et;have zt:=zR et;have rB:=rB.so et;have rH:Row wt _ (hL y.2) kr:=rS rH et;exact⟨rfl,rfl,rfl,rfl,_,_,rfl,rB,rH,e_.L et U,U⟩)
   |refine And.intro ?_ ?_
 ·rintro us Jw wj ⟨gB,gH,rfl,rB,rH,xj,hgB⟩;have zj:=xj.size;have xd:=Ext.K wj;have zd:=nV wj;rw[hgo];generalize j4 V aD b.box (jA b.aw d)=y at*;refine lC rfl ⟨_,_,_,tP (o:=0) (rB.ext xd) rfl rfl rfl,(vD y.1.1 b.box.1 wj.drew).F λabS EA=>?_⟩;have aH1:=EA.size;have alS:=xj.A (xd.A EA);refine⟨_,_,_,rfl,EA.k,EA.k,EA.k,EA.k,tP (rb.ext alS) rfl rfl rfl,(jw b.aw (uJ y.1.1 b.box.1) abS).F λaor Jy=>?_⟩;have aH2:=Jy.size;refine⟨_,_,_,rfl,Jy.k,Jy.k,Jy.k,Jy.k,λar2 aAL yJ aca=>⟨rfl,((xw.A (alS.A Jy)).L aAL (ak _)).L aca U⟩⟩
end
def KV(V:Ce->Int)(b:eJ)(i:QO):(tp V b i).box=b.box/\(tp V b i).wd=b.wd:=by
 unfold tp;split
 ·exact⟨rfl,rfl⟩
 ·split<;>exact⟨rfl,rfl⟩
def upB(V:Ce->Int)(b:eJ)(i:QO):Nat->eJ
 |0=>b
 |1=>tq b i
 |2=>tp V (tq b i) i
 |_=>GM V (tp V (tq b i) i)
def zU(V:Ce->Int)(b:eJ)(i:QO):eJ:=GM V (tp V (tq b i) i)
def UX{v:aC}{V:Ce->Int}{w:au}(hV:Tl v V w)(hv:kq v=[])(b:eJ)(hw:cH b.wd)(hs: -1000000<=b.speed.2.1/\b.speed.2.1<=1000000){m:Int}(hnb:bU b.box m)(hm:m<=99980000000000)(i:QO): ed 80 #[Ip b,v,inV i] w ((Ip (zU V b i))):=by
 apply Gd.B;intro w0 e0 w1 e1 w2 e2;have x0:=aU e0;have z0:=zA e0;have x1:=aU e1;have z1:=zA e1;have x2:=aU e2;have z2:=zA e2;have yz:=x0.A (x1.A x2);refine⟨λn x a0 a1 a2 a3 a4 a5 a6 a7 a8 wr=>∃k:Nat,x=k/\k+n=3/\upB V b i k=⟨(a0,a1,a2),(a3,a4,a5),a6,a7,a8⟩/\Ext w wr/\w2.heap.size<=wr,⟨3,rfl,rfl,0,rfl,rfl,rfl,yz,ak _⟩,?_⟩;rintro n us x a0 a1 a2 a3 a4 a5 a6 a7 a8 wr ⟨k,rfl,hk,hu,xr,zr⟩;apply Z.mk<;>intro hc
 ·have hc:=eK hc;have H6:k=0\/k=1\/k=2:=by omega
  have hVr:=hV.ext xr;obtain⟨fv,h1,h2⟩:∃fv:aC,([.func (.func 139) #[] #[],.func (.func 140) #[] #[],.func (.func 141) #[] #[]]:LV)[((k:Nat):Int).toNat*1]? =some fv/\bu ka5 fv [Ip (upB V b i k),v,inV i] wr λe w'=>e=(Ip (upB V b i (k+1)))/\Ext wr w':=by
   rcases H6 with rfl|rfl|rfl
   ·exact⟨_,rfl,bR (by kernel_rfl) rfl (VK b v i wr)⟩
   ·exact⟨_,rfl,bR (by kernel_rfl) rfl (VL hVr hv (tq b i) hw hs i)⟩
   ·refine⟨_,rfl,bR (by kernel_rfl) rfl (aaR hVr hv (tp V (tq b i) i) ?_ (m:=m) ?_ hm i)⟩
    ·rw[(KV V (tq b i) i).2];exact hw
    ·rw[(KV V (tq b i) i).1];exact hnb
  rw[hu]at h2;have wk:=nE (j:=k);refine⟨⟨U,U⟩,fv,h1,bJ h2 ?_⟩;rintro e fm ⟨rfl,dQ⟩;have z19:=dQ.size;refine⟨_,_,_,_,_,_,_,_,_,rfl,dQ.k,dQ.k,dQ.k,λgI S8=>⟨n-1,U,rfl,rfl,k+1,wk,U,rfl,(xr.A dQ).L S8 U,by rw[zR S8];omega⟩⟩
 ·have hc:=eK hc;have H6:k=3:=by omega
  subst H6;intro di vq;have hu:zU V b i=_:=hu;exact⟨by rw[hu],xr.L vq U⟩
def ovK(a b:Bx)(i:Int):aX:=decide (dj a.1 i<dj b.2 i)&&decide (dj b.1 i<dj a.2 i)
def vl(a b:Bx):aX:=ovK a b 0&&ovK a b 1&&ovK a b 2
def Jo(a b:Bx)(i:Int){ga gb:Nat}{w:au}(ha:Row w ga (pE a) fR)(hb:Row w gb (pE b) fR): ed 216 #[i,ga,gb] w (eL (ovK a b i)):=by
 apply IN.B;have xd:=Ext.K w;refine⟨_,_,_,tP (o:=0) (ha.ext xd) rfl rfl rfl,_,_,_,tP (o:=3) (hb.ext xd) rfl rfl rfl,(cW a.1 i w.drew).F λw6 x6=>?_⟩;have y6:=xd.A x6;refine⟨_,rfl,tP (o:=3) (hb.ext y6) rfl rfl rfl,(cW b.2 i w6).F λw8 x8=>?_⟩;have y8:=y6.A x8;unfold ovK;refine⟨_,rfl,Z.mk (λhc=>⟨_,_,_,tP (o:=0) (hb.ext y8) rfl rfl rfl,_,_,_,tP (o:=3) (ha.ext y8) rfl rfl rfl,(cW b.1 i w8).mono ?_⟩) (λhc=>⟨by rw[hc,C9],y8⟩)⟩;rintro e bZ ⟨rfl,dw⟩;have y16:=y8.A dw;refine⟨_,rfl,tP (o:=3) (ha.ext y16) rfl rfl rfl,(cW a.2 i bZ).F λdA dc=>?_⟩;exact⟨_,rfl,by rw[hc,oU],y16.A dc⟩
def afE(f:Int->aX)(fv:aC)(w:au)(hf:∀w',Ext w w'->∀i:Int,bu ka5 fv [i] w' λe w''=>e=eL (f i)/\Ext w' w''): ed 215 #[fv] w (eL (f 0&&f 1&&f 2)):=by
 apply ah2.B;refine⟨λn x wr=>∃k:Nat,x=k/\k+n=3/\(∀j:Nat,j<k->f j=true)/\Ext w wr,⟨3,0,rfl,rfl,λj hj=>absurd hj U,Ext.M _⟩,?_⟩;rintro n us x wr ⟨k,rfl,hk,hj,xr⟩;apply Z.mk<;>intro hc
 ·have hc:(k:Int)<3:=by simpa using hc
  refine bJ (hf wr xr k) ?_;rintro e w6 ⟨rfl,x6⟩;have wk:=nE (j:=k);refine⟨_,rfl,Z.mk (λhq=>⟨?_,xr.A x6⟩) (λhq=>⟨n-1,U,k+1,wk,U,λj hjk=>?_,xr.A x6⟩)⟩
  ·have hq:f k=false:=by simpa using hq
   have H6:k=0\/k=1\/k=2:=by omega
   have:(f 0&&f 1&&f 2)=false:=by
    rcases H6 with rfl|rfl|rfl
    ·rw[show f 0=false from hq];rfl
    ·rw[show f 1=false from hq,Bool.and_false];rfl
    ·rw[show f 2=false from hq,Bool.and_false]
   rw[this]
  ·have hq:f k=true:=by simpa using hq
   by_cases he:j=k
   ·rw[he];exact hq
   ·exact hj j U
 ·have hc:¬(k:Int)<3:=by simpa using hc
  refine⟨?_,xr⟩;rw[show f 0=true from hj 0 U,show f 1=true from hj 1 U,show f 2=true from hj 2 U];rfl
def AZ(a b:Bx)(w:au):ed 148 #[xB a,xB b] w (eL (vl a b)):=by
 apply PZ.B;intro w0 e0 w1 e1;have x0:=aU e0;have r0:Row w0 w (pE a) fR:=Row.nw e0;have x1:=aU e1;have r1:Row w1 w0 (pE b) fR:=Row.nw e1;have z0:=zA e0;have z1:=zA e1;refine(afE (ovK a b) (.func (.func 216) #[] #[w,w0]) w1 λw' x' i=>bR (by kernel_rfl) rfl (Jo a b i (r0.ext (x1.A x')) (r1.ext x'))).F λw2 x2=>?_
 have z2:=x2.size
 first
  |exact⟨_,rfl,rfl,x0.A (x1.A x2)⟩
  |exact⟨_,rfl,x2.k,x2.k,rfl,x0.A (x1.A x2)⟩
def R9(x y:Bx)(i:Int):Int:=I ((if dj y.2 i<dj x.2 i then dj y.2 i else dj x.2 i)-(if dj y.1 i>dj x.1 i then dj y.1 i else dj x.1 i))
def yn(a b:Bx)(i:Int){ga gb:Nat}{w:au}(ha:Row w ga (pE a) fR)(hb:Row w gb (pE b) fR): ed 209 #[i,ga,gb] w (S (R9 a b i)):=by
 apply P2.B;have xd:=Ext.K w;refine⟨_,_,_,tP (o:=3) (ha.ext xd) rfl rfl rfl,_,_,_,tP (o:=3) (hb.ext xd) rfl rfl rfl,_,_,_,tP (o:=0) (ha.ext xd) rfl rfl rfl,_,_,_,tP (o:=0) (hb.ext xd) rfl rfl rfl,(cW a.2 i w.drew).F λw6 x6=>?_⟩;have y6:=xd.A x6;refine⟨_,rfl,tP (o:=0) (hb.ext y6) rfl rfl rfl,tP (o:=0) (ha.ext y6) rfl rfl rfl,tP (o:=3) (hb.ext y6) rfl rfl rfl,(cW b.2 i w6).F λw8 x8=>?_⟩;have y8:=y6.A x8;refine⟨_,rfl,tP (o:=0) (hb.ext y8) rfl rfl rfl,tP (o:=0) (ha.ext y8) rfl rfl rfl,(cW a.1 i w8).F λbZ dw=>?_⟩;have y16:=y8.A dw;refine⟨_,rfl,tP (o:=0) (hb.ext y16) rfl rfl rfl,(cW b.1 i bZ).F λdA dc=>?_⟩;exact⟨_,rfl,rfl,y16.A dc⟩
def x_(a b:eJ):Int:=if R9 a.box b.box 0>R9 a.box b.box 2 then 2 else 0
def nP(a b:eJ):Int:=if 4096<R9 a.box b.box (x_ a b)then 4096 else R9 a.box b.box (x_ a b)
def sP(a b:eJ):Int:=if dj a.aw (x_ a b)<=dj b.aw (x_ a b)then I (0-nP a b)else nP a b
def jJ(a b:eJ):Ce×Ce:=if vl a.box b.box=true then(fV (0,0,0) (x_ a b) (sP a b),fV (0,0,0) (x_ a b) (I (0-sP a b)))else((0,0,0),(0,0,0))
def ZX(a b:eJ)(hwa:cH a.wd)(hwb:cH b.wd)(w:au): ed 143 #[Ip a,Ip b] w (bT #[fQ (jJ a b).1,fQ (jJ a b).2]):=by
 apply Za.B;intro w0 e0 w1 e1 w2 e2 w3 e3;have x0:=aU e0;have z0:=zA e0;have r0:Row w0 w (pc a) DR:=Row.nw e0;have x1:=aU e1;have z1:=zA e1;have r1:Row w1 w0 (pc b) DR:=Row.nw e1;have x2:=aU e2;have z2:=zA e2;have x3:=aU e3;have z3:=zA e3;have OL:=x0.A (x1.A (x2.A x3));have ra:=r0.ext (x1.A (x2.A x3));have rb:=r1.ext (x2.A x3);refine⟨λp q wj=>∃gX gY:Nat,p=some ⟨gX,0,none⟩/\q=some ⟨gY,0,none⟩/\Row wj gX (pE a.box) fR/\Row wj gY (pE b.box) fR/\Ext w3 wj,?_,?_⟩
 ·have e_:=Ext.K w3;have zd:=nV w3;have hA:=λw=>kC a hwa w
  have hB:=λw=>kC b hwb w
  generalize a.box=A at hA⊢;generalize b.box=B at hB⊢
  repeat' first
   |(with_reducible refine(hA _).mono ?_;rintro e v ⟨rfl,xn⟩;have zn:=xn.size;refine⟨_,_,_,_,_,_,rfl,?_⟩;(repeat (refine⟨xn.k,?_⟩));refine⟨Lo.wv (r1.ext (x2.A (x3.A (e_.A xn)))),?_⟩;have e_:=e_.A xn;(try have rX:=rX.ext xn);(try have rY:=rY.ext xn);clear xn)
   |(with_reducible refine(hB _).mono ?_;rintro e v ⟨rfl,xn⟩;have zn:=xn.size;refine⟨_,_,_,_,_,_,rfl,?_⟩;(repeat (refine⟨xn.k,?_⟩));have e_:=e_.A xn;(try have rX:=rX.ext xn);(try have rY:=rY.ext xn);clear xn)
   |(intro v en;have rn:Row v _ [J,J,J,J,J,J] fR:=rN en;have xn:=(aU en);have zn:=zA en;have e_:=e_.A xn;(try have rY:=rX.ext xn);have rX:=rn;clear xn en rn)
   |(intro ws es wt et;have zs:=zR es;have zt:=zR et;have q1:Row ws _ (pE A) fR:=rS rX es;have q2:=rY.so es;have q3:Row wt _ (pE B) fR:=rS q2 et;have q1:=q1.so et;exact⟨rfl,rfl,rfl,rfl,_,_,rfl,rfl,q1,q3,(e_.L es U).L et U⟩)
   |(intro ws es wt et;have zs:=zR es;have zt:=zR et;have q1:Row ws _ (pE A) fR:=rS rY es;have q2:=rX.so es;have q3:Row wt _ (pE B) fR:=rS q2 et;have q1:=q1.so et;exact⟨rfl,rfl,rfl,rfl,_,_,rfl,rfl,q1,q3,(e_.L es U).L et U⟩)
   |refine And.intro ?_ ?_
 ·rintro us p q wj ⟨gX,gY,rfl,rfl,rX,rY,xj⟩;have zj:=xj.size;refine⟨_,_,_,_,_,_,Lo.wv rX,_,_,_,_,_,_,Lo.wv rY,(AZ a.box b.box wj).F λTr CM=>?_⟩;have aIa:=CM.size;have rX5:=rX.ext CM;have rY5:=rY.ext CM;have xw:=OL.A (xj.A CM);unfold jJ;refine⟨_,rfl,CM.k,CM.k,CM.k,CM.k,Z.mk (λhc ar6 aAR ar7 aAS=>⟨?_,(xw.L aAR U).L aAS U⟩) (λhc=>?_)⟩
  ·have hc:vl a.box b.box=false:=by simpa using hc
   rw[hc];rfl
  ·have hc:vl a.box b.box=true:=by simpa using hc
   rw[if_pos hc];refine⟨λx wr=>x=x_ a b/\Ext Tr wr,?_,?_⟩
   ·refine(yn a.box b.box 0 rX5 rY5).F λajQ OQ=>?_
    have aIb:=OQ.size;refine⟨_,rfl,OQ.k,OQ.k,OQ.k,OQ.k,(yn a.box b.box 2 (rX5.ext OQ) (rY5.ext OQ)).F λajR WK=>?_⟩;have aIc:=WK.size;unfold x_;refine⟨_,rfl,WK.k,WK.k,WK.k,WK.k,Z.mk (λq=>⟨rfl,rfl,rfl,rfl,?_,OQ.A WK⟩) (λq=>⟨rfl,rfl,rfl,rfl,?_,OQ.A WK⟩)⟩
    ·rw[if_pos (ds q)]
    ·rw[if_neg (ds q)]
   ·rintro us x wr ⟨rfl,xr⟩;have zr:=xr.size;refine⟨λx wr=>x=nP a b/\Ext Tr wr,?_,?_⟩
    ·refine(yn a.box b.box (x_ a b) (rX5.ext xr) (rY5.ext xr)).F λTi Tk=>?_
     have aId:=Tk.size;exact⟨_,rfl,Tk.k,Tk.k,Tk.k,Tk.k,rfl,rfl,rfl,rfl,rfl,xr.A Tk⟩
    ·rintro us x wr ⟨rfl,xr⟩;have zr:=xr.size;have xd:=Ext.K wr;have zd:=nV wr;have yd:=xj.A (CM.A (xr.A xd));refine⟨λx wr=>x=sP a b/\Ext Tr wr,?_,?_⟩
     ·refine(cW a.aw (x_ a b) wr.drew).F λabV EB=>?_
      have aIe:=EB.size;refine⟨_,rfl,EB.k,EB.k,EB.k,EB.k,tP (o:=0) (rb.ext (yd.A EB)) rfl rfl rfl,(cW b.aw (x_ a b) abV).F λTj pJ=>?_⟩;have aAH:=pJ.size;unfold sP;refine⟨_,rfl,pJ.k,pJ.k,pJ.k,pJ.k,Z.mk (λq=>⟨rfl,rfl,rfl,rfl,?_,xr.A (xd.A (EB.A pJ))⟩) (λq=>⟨rfl,rfl,rfl,rfl,?_,xr.A (xd.A (EB.A pJ))⟩)⟩
      ·rw[if_pos (ds q)]
      ·rw[if_neg (ds q)]
     ·rintro us x ws ⟨rfl,xs⟩;have zs:=xs.size;refine(jh (0,0,0) (x_ a b) (sP a b) ws).F λagz acd=>?_
      have aIf:=acd.size;refine⟨_,_,_,rfl,acd.k,acd.k,acd.k,acd.k,(jh (0,0,0) (x_ a b) (I (0-sP a b)) agz).F λaoC OK=>?_⟩;have aIg:=OK.size;exact⟨_,_,_,rfl,OK.k,OK.k,OK.k,OK.k,λasb aAT asc aAU=>⟨rfl,((xw.A (xs.A (acd.A OK))).L aAT U).L aAU U⟩⟩
def okB(m:Int)(b:eJ):Prop:=c8 b.aw m/\(0<=b.wd/\b.wd<=1000000)/\(0<=b.ht/\b.ht<=1000000)/\-1000000<=b.speed.2.1/\b.speed.2.1<=1000000
section
variable{b:eJ}{m n:Int}(h:okB m b)
def okB.up(hn:m<=n):okB n b:=⟨h.1.up hn,h.2⟩
def okB.wdi:cH b.wd:=by unfold cH;have:=h.2.1;omega
def okB.zG(hm:m<=99970000000000):bU b.box (m+1000000):=Uu h.1 h.2.1 h.2.2.1 U
variable{V:Ce->Int}
def QN{d:Ce}(hm:m<=99970000000000):okB (m+12582912) (jj V b d):=by
 have hn:=h.zG hm;have h1:=Mk (V:=V) (p:=aD) (d:=jA b.aw d) hn U;have h2:=F7 (V:=V) (p:=aD) (d:=jA b.aw d) hn U;have hm0:0<=m:=by have:=h.1;unfold c8 at this;omega
 exact⟨PU h.1 (c8.up hn.lo U) h1.lo h2 U U U,h.2⟩
def ais(h:Ht)(v:Ce)(hv: -1000000<=v.2.1/\v.2.1<=1000000): -1000000<=(uW h v).2.1/\(uW h v).2.1<=1000000:=by
 have e:(uW h v).2.1=if h.2.1=true then dD 0 else v.2.1:=by
  unfold uW
  cases h.1<;>cases h.2.1<;>cases h.2.2<;>rfl
 rw[e];have c0:dD 0=0:=by decide
 rw[c0];split<;>omega
def ait(hm:m<=99970000000000):okB (m+16777216) (GM V b):=by
 have hn:=h.zG hm;have h1:=PT (V:=V) (p:=aD) (d:=jA b.aw b.speed) (up:=32768) hn U;have hm0:0<=m:=by have:=h.1;unfold c8 at this;omega
 exact⟨PU h.1 (c8.up hn.lo U) h1.2.lo h1.1 U U U,h.2.1,h.2.2.1,ais _ _ h.2.2.2⟩
def M9{jump less least:Int}{j:aX}(hn: -1000000<=n/\n<=1000000)(hj: -1000000<=jump/\jump<=1000000)(hl:0<=less)(ht:0<=least/\least<=1000000): -1000000<=wS n jump less least j/\wS n jump less least j<=1000000:=by unfold wS;split<;>omega
variable{i:QO}
def aiu:okB m (tp V b i):=by
 unfold tp;split
 ·exact⟨h.1,h.2.1,h.2.2.1,M9 h.2.2.2 X X X⟩
 ·split
  ·exact⟨h.1,h.2.1,h.2.2.1,M9 h.2.2.2 X X X⟩
  ·exact⟨h.1,h.2.1,h.2.2.1,M9 h.2.2.2 X X X⟩
def aiv(hm:m<=99970000000000):okB (m+16777216) (zU V b i):=ait (aiu (b:=tq b i) h) hm
def Km(V:Ce->Int)(i k:Nat)(l:List eJ):List eJ:=
 match l[i]?,l[k]? with
 |some a,some b=>(l.set i (jj V a (jJ a b).1)).set k (jj V b (jJ a b).2)
 |_,_=>l
def U6(V:Ce->Int)(i:Nat):Nat->Nat->List eJ->List eJ
 |_,0,l=>l
 |k,n+1,l=>U6 V i (k+1) n (Km V i k l)
def V_(V:Ce->Int):Nat->Nat->List eJ->List eJ
 |_,0,l=>l
 |i,n+1,l=>V_ V (i+1) n (U6 V i (i+1) (l.length-(i+1)) l)
def uX(V:Ce->Int)(l:List eJ):List eJ:=V_ V 0 l.length l
def M4(b:eJ):One (pc b):=by intro u hu;simp at hu;rcases hu with rfl|rfl|rfl|rfl|rfl|rfl|rfl|rfl|rfl<;>rfl
def aea(l:List eJ):∀r∈l.map pc,r.length=9:=by intro r hr;obtain⟨b,-,rfl⟩:=bc.1 hr;rfl
def aiw(l:List eJ):∀r∈l.map pc,One r:=by intro r hr;obtain⟨b,-,rfl⟩:=bc.1 hr;exact M4 b
variable{B:Nat}{w:au}{s:H}{l:List eJ}(ho:ar B DR 9 w s (l.map pc))
def QP(hl:l.length<=5000): Y 142 #[s] w λe w'=>∃s':H,e=s'/\ar w DR 9 w' s' (l.map pc)/\Ext w w':=by
 apply zF.B;have hn:s.n=l.length:=a0t
 apply Z.mk<;>intro h
 ·rcases ho.form X with⟨hs,Et⟩|⟨g0,cs,ha,-⟩
  ·exact⟨⟨none,0,0⟩,rfl,by rw[Et];exact ar.nil,Ext.M _⟩
  ·rw[ha]at h;cases h
 ·intro w0 e0;have x0:=aU e0;have Fb:=fD e0;have hr0:Row w0 w [] DR:=by rw[e0];exact Row.new _ _ _
  have lF:ar w DR 9 w0 ⟨O w,0,0⟩ []:=ar.jO (ak _) hr0 bo (ak _) rfl bo;have⟨hp,hr⟩:=lF.FB (bytes:=72) (more:=l.map pc) x0.size (aea _) (aiw _) m_ m_;rw[aK,<-hn]at hp hr;refine⟨(l.map pc).flatten,((ho.ext x0).rd X).flat X,hp,λs2 w3 bq=>?_⟩;have⟨h1,h2,h3,h4,h5⟩:=hr s2 w3 bq;refine⟨pW bq (by rw[bQ (aea _),aK,hn]) U,s2,rfl,h1,x0.trans h3⟩
variable{i:Nat}
def aeb(hi:i<l.length)(x:eJ): (N s.a (i*9)).isSome=true/\Wr w (N s.a (i*9)) 9/\∀w',w'=bB w (N s.a (i*9)) (pc x)->ar B DR 9 w' s ((l.set i x).map pc)/\Below B w w'/\Mod (λb=>s.D=some b) w w':=by
 have⟨h1,h2,h3,h4,h5⟩:=ho.put (i:=i) (r:=pc x) (ds hi) X rfl (M4 x);refine⟨h1,h2,λw' e=>?_⟩;subst e;exact⟨by rw[pM];exact h3,h4,h4.os,h4.tape,h4.output,h4.size,λj _ hn=>h5 j hn⟩
def UY{v:aC}(hV:Tl v V w)(hv:kq v=[])(ho:ar B DR 9 w s (l.map pc))(hl:l.length<=16)(hok:∀b∈l,okB m b)(hm0:0<=m)(hm:m<=99960000000000): Y 82 #[v,s] w λe w'=>∃s':H,e=s'/\ar w DR 9 w' s' ((uX V l).map pc)/\Ext w w'/\(∀b∈uX V l,okB (m+16*16*12582912) b)/\(uX V l).length=l.length:=by
 apply Uz.B;refine(QP ho U).mono ?_;rintro e w0 ⟨s1,rfl,h1,x1⟩;have hn1:s1.n=l.length:=by rw[(h1.rd X).n,aK]
 refine⟨s1,rfl,λn x wr=>∃(i:Nat)(cur:List eJ),x=i/\i+n=l.length/\cur.length=l.length/\ar w DR 9 wr s1 (cur.map pc)/\Ext w wr/\(∀b∈cur,okB (m+16*i*12582912) b)/\uX V l=V_ V i n cur,⟨l.length,0,l,rfl,U,rfl,h1,x1,λb hb=>(hok b hb).up U,rfl⟩,?_⟩;rintro n us x w6 ⟨i,cur,rfl,px,cX,hO,xr,hb,TC⟩;apply Z.mk<;>intro hc
 ·have hc:i<l.length:=by
   have:(i:Int)<s1.n:=by simpa using hc
   omega
  obtain⟨n,rfl⟩:∃n',n=n'+1:=⟨n-1,U⟩;have wk:=nE (j:=i);rw[wk];refine⟨λn8 x bN=>∃(k:Nat)(cur:List eJ),x=k/\k+n8=l.length/\i<k/\cur.length=l.length/\ar w DR 9 bN s1 (cur.map pc)/\Ext w bN/\(∀b∈cur,okB (m+(16*i+k)*12582912) b)/\uX V l=V_ V (i+1) n (U6 V i k n8 cur),⟨n,i+1,cur,rfl,U,U,cX,hO,xr,λb hb'=>(hb b hb').up U,?_⟩,?_⟩
  ·rw[TC];show V_ V (i+1) n (U6 V i (i+1) (cur.length-(i+1)) cur)=_;rw[show cur.length-(i+1)=n from by omega]
  rintro n8 us x bN ⟨k,cur,rfl,Wb,hik,cX,hO,xr,hb,TC⟩;apply Z.mk<;>intro nA
  ·have nA:k<l.length:=by
    have:(k:Int)<s1.n:=by simpa using nA
    omega
   obtain⟨n8,rfl⟩:∃n',n8=n'+1:=⟨n8-1,U⟩;have ha:cur[i]? =some (cur[i]'U):=cK U;have yG:cur[k]? =some (cur[k]'U):=cK U;have oka:=hb _ (List.getElem_mem (l:=cur) (n:=i) U);have okb:=hb _ (List.getElem_mem (l:=cur) (n:=k) U);generalize cur[i]'U=a at ha oka;generalize cur[k]'U=b at yG okb;have TC:uX V l=V_ V (i+1) n (U6 V i (k+1) n8 ((cur.set i (jj V a (jJ a b).1)).set k (jj V b (jJ a b).2))):=by rw[TC];show V_ V (i+1) n (U6 V i (k+1) n8 (Km V i k cur))=_;rw[show Km V i k cur=(cur.set i (jj V a (jJ a b).1)).set k (jj V b (jJ a b).2)from by unfold Km;rw[ha,yG]]
   have hwa:=oka.wdi;have hwb:=okb.wdi;have gF:=(hO.ext (Ext.K bN)).rd X;have Yu:(cur.map pc)[i]? =some (pc a):=by rw[aW,ha];rfl
   have hrk:(cur.map pc)[k]? =some (pc b):=by rw[aW,yG];rfl
   have ib:∀j:Nat,j<l.length->gD s1.a (j:Int) s1.n:=λj hj=>gF.jX X U U
   have gl:cur.map pc≠[]:=λh=>by rw[h]at Yu;cases Yu
   have iK:∀g,s1.D=some g->g<bN:=λg hg=>gF.Me X gl hg
   have hX0:16*(i:Int)+k<=256:=by omega
   refine⟨λp q wj=>∃gX gY:Nat,p=O gX/\q=O gY/\Row wj gX (eV (jJ a b).1) iq/\Row wj gY (eV (jJ a b).2) iq/\Ext bN wj/\bN<=gY,⟨ib i hc,_,_,_,_,_,_,_,_,_,gF.y Yu,ib k nA,_,_,_,_,_,_,_,_,_,gF.y hrk,?_⟩,?_⟩
   ·have e_:=Ext.K bN;have zd:=nV bN
    repeat' first
     |(refine(ZX a b hwa hwb _).mono ?_;rintro e v ⟨rfl,xn⟩;have zn:=xn.size;refine⟨_,_,_,_,_,_,rfl,?_⟩;(repeat (refine⟨xn.k,?_⟩));have e_:=e_.A xn;(try have rX:=rX.ext xn);(try have rY:=rY.ext xn);clear xn)
     |(intro v en;have rn:Row v _ [J,J,J] iq:=rN en;have xn:=(aU en);have zn:=zA en;have e_:=e_.A xn;(try have rY:=rX.ext xn);have rX:=rn;clear xn en rn)
     |(intro ws es wt et;have zs:=zR es;have zt:=zR et;have q1:Row ws _ (eV (jJ a b).1) iq:=rS rX es;have q2:=rY.so es;have q3:Row wt _ (eV (jJ a b).2) iq:=rS q2 et;have q1:=q1.so et;exact⟨_,_,rfl,rfl,q1,q3,(e_.L es U).L et U,U⟩)
     |(intro ws es wt et;have zs:=zR es;have zt:=zR et;have q1:Row ws _ (eV (jJ a b).1) iq:=rS rY es;have q2:=rX.so es;have q3:Row wt _ (eV (jJ a b).2) iq:=rS q2 et;have q1:=q1.so et;exact⟨_,_,rfl,rfl,q1,q3,(e_.L es U).L et U,U⟩)
     |refine And.intro ?_ ?_
   ·rintro us p q wj ⟨gX,gY,rfl,rfl,rX,rY,xj,hgY⟩;have xd:=Ext.K wj;have hOj:=hO.ext (xj.A xd);refine⟨λw'=>ar w DR 9 w' s1 ((cur.set i (jj V a (jJ a b).1)).map pc)/\Row w' gY (eV (jJ a b).2) iq/\Ext w w',⟨ib i hc,_,_,_,_,_,_,_,_,_,(hOj.rd X).y Yu,_,_,_,Lo.wv (rX.ext xd),(GN (hV.ext (xr.A (xj.A xd))) hv a hwa (oka.zG U) U (jJ a b).1).mono ?_⟩,?_⟩
    ·rintro e Ia ⟨rfl,Ey⟩;have hO7:=hOj.ext Ey;have⟨q1,q2,q3⟩:=aeb hO7 (i:=i) U (jj V a (jJ a b).1);refine⟨_,_,_,_,_,_,_,_,_,rfl,ib i hc,⟨q1,q2⟩,λWo azm=>?_⟩;have⟨p1,p2,p3⟩:=q3 Wo azm;have rY7:=rY.ext (xd.A Ey);exact⟨p1,rY7.same (p3.same _ rY7.lt (λh=>a1N (iK _ h))),(xr.A (xj.A (xd.A Ey))).trans p2⟩
    ·rintro us Jv ⟨atg,rY9,agx⟩;have xd9:=Ext.K Jv;have hrd9:=(atg.ext xd9).rd X;have hrk9:((cur.set i (jj V a (jJ a b).1)).map pc)[k]? =some (pc b):=by rw[aW,GO U,yG];rfl
     refine⟨ib k nA,_,_,_,_,_,_,_,_,_,hrd9.y hrk9,_,_,_,Lo.wv (rY9.ext xd9),(GN (hV.ext (agx.A xd9)) hv b hwb (okb.zG U) U (jJ a b).2).F λTn ati=>?_⟩;have⟨q1,q2,q3⟩:=aeb ((atg.ext xd9).ext ati) (i:=k) (by rw[lO];omega) (jj V b (jJ a b).2);refine⟨_,_,_,_,_,_,_,_,_,rfl,ib k nA,⟨q1,q2⟩,λrz azn=>?_⟩;have⟨p1,p2,p3⟩:=q3 rz azn;refine⟨n8,U,k+1,_,?_,U,U,by rw[lO,lO];exact cX,p1,(agx.A (xd9.A ati)).trans p2,λy hy=>?_,TC⟩
     ·rw[wI];omega
     ·rcases pY hy with hy|rfl
      ·rcases pY hy with hy|rfl
       ·exact(hb y hy).up U
       ·exact(QN oka U).up U
      ·exact(QN okb U).up U
  ·have nA:¬k<l.length:=λh=>by
    have:¬(k:Int)<s1.n:=by simpa using nA
    omega
   have:n8=0:=by omega
   subst this;exact⟨n,U,i+1,cur,rfl,U,cX,hO,xr,λb hb'=>(hb b hb').up U,TC⟩
 ·have hc:¬i<l.length:=λh=>by
   have:¬(i:Int)<s1.n:=by simpa using hc
   omega
  have:n=0:=by omega
  subst this;have TC:uX V l=cur:=TC;refine⟨s1,rfl,by rw[TC];exact hO,xr,λb hb'=>?_,by rw[TC];exact cX⟩;rw[TC]at hb';exact(hb b hb').up U
end
variable{R:l_}{w:au}{a0 a1 a2 a3 aM aI aP cO cR da gJ gC fB aG aH aS gg gj fq:Int}
def ain.B(h: G w #[aM,aI,aP] 73 λw0=>G w0 #[J,J,J] 73 λw1=>Y 266 #[.agg #[aM,aI,aP],.func (.func 353) #[] #[]] w1 (mg λx3 x4 x5 w2=>K2 w w0 w1 w2 (Sw w2 w0 #[x3,x4,x5] λw6=>R (tO #[x3,x4,x5]) w6))):Y 310 #[.agg #[aM,aI,aP]] w R:= cq bz func310 h
def ZL.B(h: Y 257 #[a1] w (fw λx1 w0=>R x1 w0)):Y 353 #[a0,a1] w R:= cq bz func353 h
def aio.B(h: G w #[aM,aI,aP] 73 λw0=>G w0 #[J,J,J] 73 λw1=>Y 354 #[aM] w1.drew (Ri λx3 w2=>K2 w w0 w1.drew w2 (ah w2 (jM w 2) 0 [aP]/\ah w2 (jM w 1) 0 [aI]/\Y 354 #[aI] w2 (Ri λx5 w4=>K2 w w0 w2 w4 (ah w4 (jM w 2) 0 [aP]/\Y 354 #[aP] w4 (Ri λx7 w6=>K2 w w0 w4 w6 (Sw w6 w0 #[x3,x5,x7] λw8=>R (tO #[x3,x5,x7]) w8))))))):Y 311 #[.agg #[aM,aI,aP]] w R:= cq bz func311 h
def ZM.B(h:(λA=>R (S (if 1048576<A then 1048576 else A)) w) (if(-1048576)>a0 then(-1048576)else a0)):Y 354 #[a0] w R:= cq bz func354 h
def U1.B(h: G w #[aM,aI] 341 λw0=>G w0 #[aG,aH] 341 λw1=>(λAa=>Z (aI==0) Aa (Z (aH==0) Aa (R (Ga (decide (((I (aM*aH)):Int)<(I (aG*aI))))) w1))) (R (Ga (decide (aI>0))) w1)):Y 315 #[.agg #[aM,aI],.agg #[aG,aH]] w R:= cq bz func315 h
def ZN.B(h:(λA B C=>G w #[aM,aI,aP] 73 λw0=>G w0 #[aG,aH,aS] 73 λw1=>G w1 B 342 λw2=>(λAa=>G w2 B 342 λw3=>rP (λI4 n5=>aR C/\aR A/\I4 n5 (0) w3) λI4 n5 us6 x7 w8=>(λAb Ac=>Z (x7<3) (Y 210 #[.agg #[aM,aI,aP],x7] w8.drew (Ri λbS br=>K2 w w0 w8.drew br (ah br (O w0) 0 A/\Y 210 #[.agg #[aG,aH,aS],x7] br (Ri λcJ bN=>K2 w w0 br bN (Y 355 #[bS] bN (Ri λdn cp=>K2 w w0 bN cp ((0:Int)<=x7/\x7<((3:Nat):Int)/\(true=true/\Wr cp Ab 2)/\bM Ab≠some w/\bM Ab≠some w0/\(Pw cp Ab [dn,(I (0-cJ))] λbZ=>Z (cJ>0) (Y 355 #[bS] bZ (Ri λdc cP=>K2 w w0 bZ cP ((0:Int)<=x7/\x7<((3:Nat):Int)/\(true=true/\Wr cP Ab 2)/\bM Ab≠some w/\bM Ab≠some w0/\(Pw cP Ab [(I (65536-dc)),cJ] λfm=>∃n9,n9<n5/\aR C/\aR A/\I4 n9 Ac fm)))) (∃n9,n9<n5/\aR C/\aR A/\I4 n9 Ac bZ))))))))) (C3 w8 Aa λfe fk fX iB jn gG=>Wt w8 ⟨w1,0,none⟩ 6/\Nb w1 w/\Nb w1 w0/\(Pw w8 (O w1) [fe,fk,fX,iB,jn,gG] λkN=>C3 kN (O w1) λjl rC kz tF oO mP=>R (tO #[jl,rC,kz,tF,oO,mP]) kN))) (N Aa ((x7:Int).toNat*2)) ((I (x7+1)))) (O w2)) [aG,aH,aS] #[J,J,J,J,J,J] [aM,aI,aP]):Y 313 #[.agg #[aM,aI,aP],.agg #[aG,aH,aS]] w R:= cq (Mq 3 9) func313 h
def U2.B(h: G w #[aM,aI,aP] 23 λw0=>G w0 #[aG,aH,aS] 23 λw1=>G w1 #[a2] 3 λw2=>Y 356 #[aM,aG,.pointer (O w1)] w2 (Rb λb4 w3=>K2 w w0 w2 w3 (Z b4 (Y 356 #[aI,aH,.pointer (O w1)] w3 (Rb λb6 w5=>K2 w w0 w3 w5 (Z b6 (Y 356 #[aP,aS,.pointer (O w1)] w5 (Rb λb8 w7=>K2 w w0 w5 w7 (R b8 w7))) (R false w5)))) (R false w3)))):Y 314 #[.agg #[aM,aI,aP],.agg #[aG,aH,aS],a2] w R:= cq bz func314 h
def M8.B{c0:Addr}(h: jr w (some c0) λx0=>Z (decide (((I (a0-a1)):Int)<=x0)) (jr w (some c0) λx1=>R (Ga (decide (((I (a1-a0)):Int)<=x1))) w) (R false w)):Y 356 #[a0,a1,c0] w R:= cq bz func356 h
def ZO.B(h: Y 258 #[a0] w (ah0 λx1 b2 w0=>(λAa=>Y 258 #[a1] w0 (ah0 λx4 b5 w3=>Z (x4==0) (R (eP #[J,(1:Int)]) w3) (aO (WN x4) (aO (WN x4) (Y 260 #[.int .u64 (fC (Int.tdiv Aa x4)),.bool (((Int.tmod Aa x4):Int) !=0),.bool (!(b2==b5))] w3.drew (fw λx7 w6=>R (eP #[x7,J]) w6)))))) (fC (x1*2^(min (16:Int).toNat 64))))):Y 316 #[a0,a1] w R:= cq bz func316 h
def QI.B{a0:aC}{c0:Addr}{c1:Addr}{c2:Addr}(h:(λA B=>gU w (some c0) λx0 x1 x2=>gU w (some c1) λx3 x4 x5=>Y 313 #[.agg #[x0,x1,x2],.agg #[x3,x4,x5]] w (amx λx7 x8 x9 bL bS cr w6=>(λAa=>G w6 B 342 λbw=>(Pt bw ⟨w6,0,none⟩ 6 [x7,x8,x9,bL,bS,cr] λcp=>gU cp (some c0) λdn dw dO=>Y 138 #[.agg #[dn,dw,dO]] cp (zK λdQ fe fk dA=>(λAb=>G dA B 184 λdh=>Sw dh dA #[dQ,fe,fk,J,(-1:Int),J] λjE=>(λAc=>G jE #[J,J,J] 23 λie=>Sw ie jE #[dQ,fe,fk] λdL=>∃Ys:Nat->Int->Int->Int->Int->Int->Int->k_,(∃n27,aR Ab/\Ys n27 dQ fe fk (0) ((-1)) (0) dL)/\∀(n27:Nat)(asg:Nat->aC)(kz tF oO mP gA jW:Int)(iD:au),Ys n27 kz tF oO mP gA jW iD->jr iD (some c2) λmO=>Y 314 #[.agg #[dQ,fe,fk],.agg #[kz,tF,oO],mO] iD (Rb λb39 tH=>Ac iD tH (Z b39 (bu ka5 a0 [.agg #[kz,tF,oO,mP,gA,jW]] tH (Rb λb41 nT=>Ac tH nT (Z (!b41) (R pz nT) (qx (λI42 n43=>aR [kz,tF,oO,mP,gA,jW]/\aR Ab/\I42 n43 (0) (0) nT) λI42 n43 aGF xm oq oE=>(λAd Ae Af Ag=>Z (xm<3) ((0:Int)<=xm/\xm<A/\lS oE.drew (N Aa ((xm:Int).toNat*2)) λJp Ba=>(0:Int)<=oq/\oq<A/\lS oE.drew Ad λvp tG=>Y 315 #[.agg #[Jp,Ba],.agg #[vp,tG]] oE.drew (Rb λb54 w53=>Ac oE.drew w53 (Z b54 (∃n48,n48<n43/\aR [kz,tF,oO,mP,gA,jW]/\aR Ab/\I42 n48 Ag xm w53) (∃n48,n48<n43/\aR [kz,tF,oO,mP,gA,jW]/\aR Ab/\I42 n48 Ag oq w53)))) ((0:Int)<=oq/\oq<A/\jr oE (N Ad 1) λvS=>Z (vS==0) (R pz oE) ((0:Int)<=oq/\oq<A/\jr oE.drew (N Ad 0) λOY=>(0:Int)<=oq/\oq<A/\jr oE.drew (N Ad 1) λH8=>Y 316 #[OY,H8] oE.drew (X' λIv qF vQ=>Ac oE.drew vQ ((0:Int)<=oq/\oq<A/\jr vQ (N Ad 0) λKY=>(0:Int)<=oq/\oq<A/\(true=true/\Wr vQ (N Ad 0) 1)/\bM (N Ad 0)≠some dA/\bM (N Ad 0)≠some jE/\(Pw vQ (N Ad 0) [(I (KY+65536))] λjU=>gU jU (some c1) λBo Lb Be=>Y 210 #[.agg #[Bo,Lb,Be],oq] jU (Ri λyB vR=>Ac jU vR (Z (yB>0) (Y 221 #[.agg #[kz,tF,oO]] vR (Qd λyD CJ Bf DB K0 O1 Lc O2 x77 x78 Yl Oy H9 Ev O0 TV x85 x86 E8=>Ac vR E8 (((0:Int)<=Ae/\(Ae:Int)<((6:Nat):Int))/\∃(xl x88 x89:Int),(([yD,CJ,Bf,DB,K0,O1,Lc,O2,x77,x78,Yl,Oy,H9,Ev,O0,TV,x85,x86]:LV).drop ((Ae:Int).toNat*3)).take 3=[S xl,S x88,S x89]/\Sw E8 dA #[xl,x88,x89,J,(I (Ae-1)),Iv] λrF=>∃n36,n36<n27/\aR Ab/\Ys n36 xl x88 x89 (0) ((I (Ae-1))) Iv rF))) (Y 221 #[.agg #[kz,tF,oO]] vR (Qd λTf Wi x94 Wj Wk La x98 Yr Bi pK Bg Ew Wl Ex Js Ey Tm ru w91=>Ac vR w91 (((0:Int)<=Af/\(Af:Int)<((6:Nat):Int))/\∃(lJ yH lK:Int),(([Tf,Wi,x94,Wj,Wk,La,x98,Yr,Bi,pK,Bg,Ew,Wl,Ex,Js,Ey,Tm,ru]:LV).drop ((Af:Int).toNat*3)).take 3=[S lJ,S yH,S lK]/\Sw w91 dA #[lJ,yH,lK,J,(I (Ae-0)),Iv] λWy=>∃n36,n36<n27/\aR Ab/\Ys n36 lJ yH lK (0) ((I (Ae-0))) Iv Wy))))))))))) (N Aa ((oq:Int).toNat*2)) (I ((I (2*oq))+1)) (I ((I (2*oq))+0)) ((I (xm+1))))))) (R pz tH)))) (K2 dA jE)) [dQ,fe,fk]))) (O w6))) ((3:Nat):Int) #[J,J,J,J,J,J]):Y 312 #[a0,c0,c1,c2] w R:= cq ⟨[(7,⟨[(30,.int .i64),(8,.int .i64)],[],[]⟩),(3,⟨[],[(0,[.int .i64,.int .i64,.int .i64,.int .i64,.int .i64,.int .i64])],[]⟩)],[],[]⟩ func312 h
def ZP.B(h:(λA=>G w #[aM,aI,aP] 73 λw0=>G w0 #[aG,aH,aS] 73 λw1=>(λAa Ab=>G w1 #[a2] 3 λw2=>Y 310 #[.agg #[aM,aI,aP]] w2.drew (mg λx4 x5 x6 w3=>Ab w2.drew w3 (ah w3 Aa 0 [a2]/\ah w3 (O w0) 0 [aG,aH,aS]/\Y 311 #[.agg #[aG,aH,aS]] w3 (mg λx8 x9 bL w7=>Ab w3 w7 (ah w7 Aa 0 [a2]/\Sw w7 w #[x4,x5,x6] λbE=>ah bE Aa 0 [a2]/\Sw bE w0 #[x8,x9,bL] λbN=>ah bN Aa 0 [a2]/\Sw bN w1 #[S (if 64<A then 64 else A)] λbw=>R (Value.func (.func 312) #[] #[w,.pointer (O w0),.pointer Aa]) bw))))) (O w1) (K3 w w0 w1)) (if 0>a2 then 0 else a2)):Y 252 #[.agg #[aM,aI,aP],.agg #[aG,aH,aS],a2] w R:= cq bz func252 h
def ad1.B{a0:aC}(h:(λA B C D=>aO (kq a0) (G w #[a0] 95 λw0=>G w0 #[aG,aH,aS] 73 λw1=>G w1 #[gg,gj,fq] 73 λw2=>G w2 A 184 λw3=>(λAa=>G w3 #[false] 4 λw4=>Y 252 #[.agg #[aG,aH,aS],.agg #[gg,gj,fq],a3] w4 (Rv λv6 w5=>K5 w w0 w1 w2 w3 w4 w5 (∃(xs7:List (LV))(Rd8 F9:Nat->Prop)(EH:Nat->(Nat->Prop)->Int->Int->Int->Int->Int->Int->aX->k_)(X11:Option Nat->(Nat->Prop)->Int->Int->Int->Int->Int->Int->aX->k_),(∀x∈xs7,∃(cr cJ cY dn dw dO:Int),x=[.agg #[S cr,S cJ,S cY,S dn,S dw,S dO]])/\(∀(n18:Nat)(F19:Nat->Prop)(fe fk fX iB jn gG:Int)(Wh:aX)(gO iZ:au),EH n18 F19 fe fk fX iB jn gG Wh gO->Below w5 gO iZ->(∀i,F19 i->iZ.heap[i]? =gO.heap[i]?)->EH n18 F19 fe fk fX iB jn gG Wh iZ)/\(∀(n29:Option Nat)(F30:Nat->Prop)(oO mP gA jW py oP:Int)(b37:aX)(tH lG:au),X11 n29 F30 oO mP gA jW py oP b37 tH->Below w5 tH lG->(∀i,F30 i->lG.heap[i]? =tH.heap[i]?)->X11 n29 F30 oO mP gA jW py oP b37 lG)/\(∀(n40:Nat)(F41:Nat->Prop)(yT vU qE xm oq A9:Int)(b48:aX)(nB:au),EH n40 F41 yT vU qE xm oq A9 b48 nB->∀i,F41 i->i<nB.heap.size/\i≠w5.heap.size/\i≠w5.heap.size+1)/\(∀(n50:Option Nat)(F51:Nat->Prop)(tG lU CI vS OY H8:Int)(b58:aX)(pH:au),X11 n50 F51 tG lU CI vS OY H8 b58 pH->∀i,F51 i->i<pH.heap.size/\i≠w5.heap.size/\i≠w5.heap.size+1)/\(∀i,Rd8 i->i<w5.heap.size/\¬F9 i/\i≠w.heap.size/\i≠w0.heap.size/\i≠w1.heap.size/\i≠w2.heap.size/\i≠w3.heap.size/\True)/\(∀lV:au,PW w5 w5 lV->Iter ka5 (v6) lV Rd8 xs7/\aR [a0]/\aR C/\aR D/\EH 0 F9 (0) (0) (0) (0) (0) (0) false lV)/\(∀(n61:Nat)(F62:Nat->Prop)(aGH:Nat->aC)(Lb Be rG yB vT yD:Int)(b70:aX)(Bf DB K0 O1 Lc O2:Int)(uc:au),xs7[n61]? =some [.agg #[S Bf,S DB,S K0,S O1,S Lc,S O2]]->EH n61 F62 Lb Be rG yB vT yD b70 uc->G uc A 184 λK9=>Sw K9 uc #[Bf,DB,K0,O1,Lc,O2] λH5=>Below uc uc H5/\∀uf:au,Rec (w5.heap.size+1) H5 uf->EH n61 F62 Lb Be rG yB vT yD b70 uf->bu ka5 a0 [.agg #[Bf,DB,K0]] uf (Ri λEv wA=>K6 w w0 w1 w2 w3 uc uf wA (Y 253 #[Ev] wA (Rb λb84 w83=>K6 w w0 w1 w2 w3 uc wA w83 (Z (!b84) (Sw w83 uc #[Bf,DB,K0,Ev,Lc,O2] λw85=>Sw w85 w2 #[Bf,DB,K0,Ev,Lc,O2] λw86=>Sw w86 w3 #[true] λIx=>true=true/\∃F88:Nat->Prop,(aR [a0]/\aR C/\aR D/\X11 none F88 Bf DB K0 Ev Lc O2 true Ix)/\Step (λi=>(F62 i\/i∈Aa)\/uc.heap.size<=i) (λi=>F88 i\/i∈Aa) uf Ix) (∃F89:Nat->Prop,(aR [a0]/\aR C/\aR D/\EH (n61+1) F89 Lb Be rG yB vT yD b70 w83)/\Step (λi=>(F62 i\/i∈Aa)\/uc.heap.size<=i) (λi=>F89 i\/i∈Aa) uf w83))))))/\(∀(F90:Nat->Prop)(ayt:Nat->aC)(Tf Wi x94 Wj Wk La:Int)(b98:aX)(Iu:au),EH xs7.length F90 Tf Wi x94 Wj Wk La b98 Iu->Iu.heap[w5.heap.size]? =some B->Sw Iu w2 A λsZ=>Sw sZ w3 #[false] λJt=>Jt.heap[w5.heap.size]? =some B/\∀apb:au,Rec w5 Jt apb->R (eP #[.agg A,false]) apb)/\(∀(aze:Nat->Prop)(aDs:Nat->aC)(Ex Js Ey Tm ru lJ:Int)(ate:aX)(Bh:au),X11 none aze Ex Js Ey Tm ru lJ ate Bh->Bh.heap[w5.heap.size]? =some B->Bh.heap[w5.heap.size]? =some B/\∀Wy:au,Rec w5 Bh Wy->R (eP #[.agg #[Ex,Js,Ey,Tm,ru,lJ],ate]) Wy)))) ([w.heap.size,w0.heap.size,w1.heap.size,w2.heap.size,w3.heap.size]:bf))) #[J,J,J,J,J,J] (.deferred (some [])) [aG,aH,aS] [gg,gj,fq]):Y 191 #[a0,.agg #[aG,aH,aS],.agg #[gg,gj,fq],a3] w R:= cq ⟨[],[],[(3,⟨[],[(3,[.int .i64,.int .i64,.int .i64,.int .i64,.int .i64,.int .i64]),(4,[.bool])],[]⟩,[.agg [.int .i64,.int .i64,.int .i64,.int .i64,.int .i64,.int .i64]])]⟩ func191 h
def U3.B(h:(λA=>G w #[aM,aI,aP,cO,cR,da] 184 λw0=>G w0 A 23 λw1=>Z (cR<0) (Sw w1 w0 A λw2=>R (eP #[.agg A,false]) w2) (Z (cR>=6) (Sw w1 w0 A λw3=>R (eP #[.agg A,false]) w3) (Y 221 #[.agg #[aM,aI,aP]] w1.drew (Qd λx5 x6 x7 x8 x9 bL bS cr cJ cY dn dw dO dc dQ fe fk fX w4=>K2 w w0 w1.drew w4 (ah w4 (jM w 4) 0 [cR]/\((0:Int)<=cR/\cR<((6:Nat):Int))/\∃(iB jn gG:Int),(([x5,x6,x7,x8,x9,bL,bS,cr,cJ,cY,dn,dw,dO,dc,dQ,fe,fk,fX]:LV).drop ((cR:Int).toNat*3)).take 3=[S iB,S jn,S gG]/\Sw w4 w0 #[iB,jn,gG] λkN=>R (eP #[.agg #[iB,jn,gG],true]) kN))))) #[J,J,J]):Y 190 #[.agg #[aM,aI,aP,cO,cR,da]] w R:= cq bz func190 h
def Jb.B{fB:aX}(h: G w #[aM,aI,aP,cO,cR,da,gJ,gC,fB] 75 λw0=>G w0 #[J,J,J] 73 λw1=>Y 206 #[.agg #[aM,aI,aP],.agg #[J,(I (Int.tdiv (I (gC*4)) 5)),J]] w1 (mg λx3 x4 x5 w2=>K2 w w0 w1 w2 (Sw w2 w0 #[x3,x4,x5] λw6=>R (tO #[x3,x4,x5]) w6))):Y 192 #[.agg #[aM,aI,aP,cO,cR,da,gJ,gC,fB]] w R:= cq bz func192 h
def ad2.B(h:(λ(A:ae)(B:ae) C=>G w #[aM,aI,aP] 23 λw0=>(λAa=>G w0 #[J,J,J,J,J,J] 202 λw1=>(Y 213 #[aM] w1.drew (Ri λx3 w2=>Aa w1.drew w2 (ah w2 C 0 [aP]/\ah w2 (jM w 1) 0 [aI]/\(Y 213 #[aI] w2 (Ri λx5 w4=>Aa w2 w4 (ah w4 C 0 [aP]/\(Y 213 #[aP] w4 (Ri λx7 w6=>(λ(Ab:ae) Ac=>Aa w4 w6 ((G w6 B 73 λw8=>Sw w8 w6 #[x3,x5,x7] λw9=>Y 206 Ab w9.drew (mg λbS cr cJ br=>Ac w9.drew br (ah br (O w6) 0 [x3,x5,x7]/\Sw br w0 #[x3,x5,x7,bS,cr,cJ] λcp=>R (tO #[x3,x5,x7,bS,cr,cJ]) cp)))/\(G w6 B 73 λc9=>Sw c9 w6 #[x3,x5,x7] λbZ=>Y 206 Ab bZ.drew (mg λdc dQ fe cP=>Ac bZ.drew cP (ah cP (O w6) 0 [x3,x5,x7]/\Sw cP w0 #[x3,x5,x7,dc,dQ,fe] λdi=>R (tO #[x3,x5,x7,dc,dQ,fe]) di))))) #[.agg #[x3,x5,x7],.agg A] (K3 w w0 w6)))/\(G w4 B 73 λdh=>Y 213 #[aP] dh (Ri λjn jE=>K3 w w0 w4 dh jE (Sw jE w4 #[x3,x5,jn] λdL=>Y 206 #[.agg #[x3,x5,jn],.agg A] dL.drew (mg λjl rC kz kN=>K3 w w0 w4 dL.drew kN (ah kN (O w4) 0 [x3,x5,jn]/\Sw kN w0 #[x3,x5,jn,jl,rC,kz] λpw=>R (tO #[x3,x5,jn,jl,rC,kz]) pw))))))))/\(G w2 B 73 λia=>Y 213 #[aI] ia (Ri λgA sY=>K3 w w0 w2 ia sY (ah sY C 0 [aP]/\Y 213 #[aP] sY (Ri λpy ke=>K3 w w0 w2 sY ke (Sw ke w2 #[x3,gA,py] λmG=>Y 206 #[.agg #[x3,gA,py],.agg A] mG.drew (mg λnC rq rE jD=>K3 w w0 w2 mG.drew jD (ah jD (O w2) 0 [x3,gA,py]/\Sw jD w0 #[x3,gA,py,nC,rq,rE] λkO=>R (tO #[x3,gA,py,nC,rq,rE]) kO))))))))))/\(G w1.drew B 73 λnS=>Y 213 #[aM] nS (Ri λqE iO=>Aa nS iO (ox w1 nS iO/\ah iO C 0 [aP]/\ah iO (jM w 1) 0 [aI]/\Y 213 #[aI] iO (Ri λoq ue=>Aa iO ue (ox w1 iO ue/\ah ue C 0 [aP]/\Y 213 #[aP] ue (Ri λEs oE=>Aa ue oE (ox w1 ue oE/\Sw oE w1.drew.heap.size #[qE,oq,Es] λnB=>Y 206 #[.agg #[qE,oq,Es],.agg A] nB.drew (mg λvp tG lU yR=>Aa nB.drew yR (yR.heap[w1.drew.heap.size]? =nB.drew.heap[w1.drew.heap.size]?/\ah yR (O w1.drew.heap.size) 0 [qE,oq,Es]/\Sw yR w0 #[qE,oq,Es,vp,tG,lU] λw54=>R (tO #[qE,oq,Es,vp,tG,lU]) w54)))))))))) (K2 w w0)) #[(65536:Int),(65536:Int),(65536:Int)] #[J,J,J] (jM w 2)):Y 145 #[.agg #[aM,aI,aP]] w R:= cq bz func145 h
def uU.B{a0:Addr}{c0:Addr}(h: jR w.drew (N (some a0) 0) λx0 x1 x2 x3 x4 x5 x6 x7 b8=>C3 w.drew (some c0) λx9 bL bS cr cJ cY=>Y 149 #[.agg #[x0,x1,x2,x3,x4,x5,x6,x7,b8]] w.drew (amx λdw dO dc dQ fe fk c9=>ah c9 (some c0) 0 [x9,bL,bS,cr,cJ,cY]/\Y 148 #[.agg #[dw,dO,dc,dQ,fe,fk],.agg #[x9,bL,bS,cr,cJ,cY]] c9 (yM λb23 dh=>R b23 dh))):Y 147 #[a0,c0] w R:= cq bz func147 h
def qw.B{a0:H}{a1:aC}(h: Y 214 #[a0,a1] w (fw λx1 w0=>R (Ga (decide (x1>=0))) w0)):Y 146 #[a0,a1] w R:= cq bz func146 h
def xI.B{a0:Addr}(h: G w #[aG,aH,aS] 23 λw0=>Y 145 #[.agg #[aG,aH,aS]] w0 (C2 λx2 x3 x4 x5 x6 x7 w1=>Kp w w0 w1/\G w1 #[J,J,J,J,J,J] 202 λw8=>Sw w8 w1 #[x2,x3,x4,x5,x6,x7] λw9=>Y 146 #[.slice (aE (N (some a0) 1) (0) (16) 1) (16-0) (16-0),.func (.func 147) #[] #[.pointer (O w1)]] w9 (Rb λb11 br=>Kp w w9 br/\R b11 br))):Y 84 #[a0,.agg #[aG,aH,aS]] w R:= cq bz func84 h
def xR.B{a0:Addr}(h:(λ(A:ae)(B:LV)(C:ae) D E g_=>G w C 73 λw0=>(λAa=>G w0 A 184 λw1=>Y 76 #[a0,a1] w1 (nH λp3 w2=>Aa w1 w2 (Z (p3).isNone (Sw w2 w0 A λw4=>R (eP #[.agg A,(6:Int)]) w4) (aO (eE p3) (aO (eE p3) (jR w2.drew (N p3 0) λx5 x6 x7 x8 x9 bL bS cr KX=>(λ(Ab:ae)(Ac:LV)=>(Y 81 #[a0] w2.drew (Rv λv15 cp=>Aa w2.drew cp (ah cp w 0 B/\ah cp (N p3 0) 0 Ac/\(Y 192 Ab cp (mg λdO dc dQ bZ=>(λ(Ad:ae)=>Aa cp bZ (ah bZ w 0 B/\(Y 191 Ad bZ (Mo λfk fX iB jn gG nU Yp eQ=>(λ(Ae:ae)=>Aa bZ eQ (G eQ A 184 λiZ=>Sw iZ eQ Ae λgI=>Z (!Yp) (Sw gI w0 A λpw=>R (eP #[.agg A,D]) pw) (Z (jn==(-1)) (Sw gI w0 A λia=>R (eP #[.agg A,E]) ia) (Sw gI w0 Ae λsY=>R (eP #[.agg Ae,g_]) sY)))) #[fk,fX,iB,jn,gG,nU]))/\(G bZ A 184 λjV=>Y 191 Ad jV (Mo λpy oP mO nC rq rE b41 ke=>(λ(Af:ae)=>K3 w w0 bZ jV ke (Sw ke bZ Af λnS=>Z (!b41) (Sw nS w0 A λiO=>R (eP #[.agg A,D]) iO) (Z (nC==(-1)) (Sw nS w0 A λkf=>R (eP #[.agg A,E]) kf) (Sw nS w0 Af λue=>R (eP #[.agg Af,g_]) ue)))) #[py,oP,mO,nC,rq,rE])))) #[v15,.agg #[dO,dc,dQ],.agg C,(5:Int)]))/\(G cp A 184 λIw=>Y 192 Ab Iw (mg λEs Jp Ba oE=>K3 w w0 cp Iw oE (ah oE w 0 B/\Y 191 #[v15,.agg #[Es,Jp,Ba],.agg C,(5:Int)] oE (Mo λtG lU CI vS OY H8 b58 w51=>(λ(Ag:ae)=>K3 w w0 cp oE w51 (Sw w51 cp Ag λpH=>Z (!b58) (Sw pH w0 A λlV=>R (eP #[.agg A,D]) lV) (Z (vS==(-1)) (Sw pH w0 A λvr=>R (eP #[.agg A,E]) vr) (Sw pH w0 Ag λjU=>R (eP #[.agg Ag,g_]) jU)))) #[tG,lU,CI,vS,OY,H8])))))))/\(G w2.drew A 184 λOv=>Y 81 #[a0] Ov (Rv λv65 H4=>Aa Ov H4 (ox w2 Ov H4/\ah H4 w 0 B/\ah H4 (N p3 0) 0 Ac/\Y 192 Ab H4 (mg λyB vT yD vR=>Aa H4 vR (ox w2 H4 vR/\ah vR w 0 B/\Y 191 #[v65,.agg #[yB,vT,yD],.agg C,(5:Int)] vR (Mo λBf DB K0 O1 Lc O2 b77 wu=>(λ(Ah:ae)=>Aa vR wu (ox w2 vR wu/\Sw wu w2.drew.heap.size Ah λuf=>Z (!b77) (Sw uf w0 A λK9=>R (eP #[.agg A,D]) K9) (Z (O1==(-1)) (Sw uf w0 A λH5=>R (eP #[.agg A,E]) H5) (Sw uf w0 Ah λwA=>R (eP #[.agg Ah,g_]) wA)))) #[Bf,DB,K0,O1,Lc,O2]))))))) #[.agg #[x5,x6,x7,x8,x9,bL,bS,cr,KX]] [x5,x6,x7,x8,x9,bL,bS,cr,KX])))))) (K2 w w0)) #[J,J,J,J,J,J] [gg,gj,fq] #[gg,gj,fq] (13:Int) (11:Int) (0:Int)):Y 131 #[a0,a1,.agg #[gg,gj,fq]] w R:= cq bz func131 h
def xS.B{a0:Addr}(h:(λA B=>G w A 23 λw0=>Y 187 #[a2] w0 (Rb λb2 w1=>Kp w w0 w1/\Z b2 (Y 84 #[a0,.agg A] w1 (Rb λb4 w3=>Kp w w1 w3/\Z b4 (R (12:Int) w3) (eO w3.drew B λp5=>Y 188 #[p5,.agg A,a2] w3.drew (Ri λx7 w6=>Kp w w3.drew w6/\R x7 w6)))) (eO w1.drew B λp8=>Y 188 #[p8,.agg A,a2] w1.drew (Ri λbL w9=>Kp w w1.drew w9/\R bL w9)))) #[aG,aH,aS] (N (some a0) 0)):Y 126 #[a0,.agg #[aG,aH,aS],a2] w R:= cq bz func126 h
def we.B{a0:Addr}(h: G w #[gg,gj,fq] 73 λw0=>Y 131 #[a0,a1,.agg #[gg,gj,fq]] w0 (Y_ λx2 x3 x4 x5 x6 x7 x8 w1=>Kp w w0 w1/\G w1 #[J,J,J,J,J,J] 184 λw9=>Sw w9 w1 #[x2,x3,x4,x5,x6,x7] λbr=>Z (x8==6) (R x8 br) (Y 189 #[a3] br (Rb λb12 bE=>K2 w w1 br bE (Z (!b12) (R (1:Int) bE) (Z (a3==0) (R (1:Int) bE) (Z (x8 !=0) (R x8 bE) (Y 190 #[.agg #[x2,x3,x4,x5,x6,x7]] bE (amr λcY dn dw b17 bw=>K2 w w1 bE bw (G bw #[J,J,J] 23 λdA=>Sw dA bw #[cY,dn,dw] λfm=>Z (!b17) (R (12:Int) fm) (Y 126 #[a0,.agg #[cY,dn,dw],a3] fm (Ri λfk eQ=>K3 w w1 bw fm eQ (R fk eQ))))))))))))):Y 127 #[a0,a1,.agg #[gg,gj,fq],a3] w R:= cq bz func127 h
def wg.B{a0:Addr}(h: G w #[gg,gj,fq] 73 λw0=>Y 131 #[a0,a1,.agg #[gg,gj,fq]] w0 (Y_ λx2 x3 x4 x5 x6 x7 x8 w1=>Kp w w0 w1/\G w1 #[J,J,J,J,J,J] 184 λw9=>Sw w9 w1 #[x2,x3,x4,x5,x6,x7] λbr=>Z (x8==0) (Y 126 #[a0,.agg #[x2,x3,x4],(0:Int)] br (Ri λcr bE=>K2 w w1 br bE (Z (cr !=0) (R (eP #[J,cr]) bE) (R (eP #[x5,J]) bE)))) (Z (x8 !=0) (R (eP #[J,x8]) br) (R (eP #[x5,J]) br)))):Y 129 #[a0,a1,.agg #[gg,gj,fq]] w R:= cq bz func129 h
def xU.B{a0:Addr}{fq:aX}(h: G w #[gg,gj,fq] 101 λw0=>Y 76 #[a0,a1] w0 (nH λp2 w1=>(λAa=>Kp w w0 w1/\Z (p2).isNone (R (6:Int) w1) (aO (eE p2) (aO (eE p2) (((Aa).isSome=true/\Wr w1 Aa 3)/\bM Aa≠some w/\(Pw w1 Aa [gg,gj,fq] λw3=>R (0:Int) w3))))) (N p2 9))):Y 133 #[a0,a1,.agg #[gg,gj,fq]] w R:= cq bz func133 h
def xV.B{a0:Addr}(h:(λA=>G w A 75 λw0=>Y 76 #[a0,a1] w0 (nH λp2 w1=>Kp w w0 w1/\Z (p2).isNone (Sw w1 w A λw3=>R (eP #[.agg A,false]) w3) (aO (eE p2) (aO (eE p2) (jR w1 (N p2 0) λx4 x5 x6 x7 x8 x9 bL bS b12=>(λAa=>Sw w1 w Aa λbw=>R (eP #[.agg Aa,true]) bw) #[x4,x5,x6,x7,x8,x9,bL,bS,b12]))))) #[J,J,J,J,J,J,J,J,false]):Y 47 #[a0,a1] w R:= cq bz func47 h
def xP.B{a0:Addr}(h:(λA=>∃(p0 p1 p2 p3 p4 p5 p6 p7 p8 p9 Ie IA wC p13 Bm p15:ai),ah w (N (some a0) 1) 0 [.pointer p0,p1,p2,p3,p4,p5,p6,p7,p8,p9,Ie,IA,wC,p13,Bm,p15]/\pf (λI16 n17=>I16 n17 (0) ⟨none,0,0⟩ w) λI16 n17 azf dQ xp di=>(λAa=>Z (dQ<16) (((0:Int)<=dQ/\dQ<((16:Nat):Int))/\∃(Tz:ai),([.pointer p0,p1,p2,p3,p4,p5,p6,p7,p8,p9,Ie,IA,wC,p13,Bm,p15]:LV)[(dQ:Int).toNat*1]? =some (.pointer Tz)/\Z (!(Tz).isNone) (aO (eE Tz) (aO (eE Tz) (jR di (N Tz 0) λjn gG nU jl rC kz tF oO b32=>Y 79 #[a0,.agg #[jn,gG,nU,jl,rC,kz,tF,oO,b32]] di (yM λb34 jV=>Z b34 (G jV #[Tz] 61 λiD=>bj 8 1 iD xp 1 [.pointer Tz]/\∀(s36:H)(jD:au),aY 61 1 iD xp 1 [.pointer Tz] s36 jD->Kp jV iD jD/\∃n22,n22<n17/\I16 n22 Aa s36 jD) (∃n22,n22<n17/\I16 n22 Aa xp jV))))) (∃n22,n22<n17/\I16 n22 Aa xp di)) (pf (λI38 n39=>I38 n39 (0) ⟨none,0,0⟩ di) λI38 n39 ary kA s42 iO=>Z (decide (kA<((xp.n:Nat):Int))) (gD xp.a kA xp.n/\eO iO (N xp.a ((kA:Int).toNat*1)) λp45=>aO (eE p45) (aO (eE p45) (jR iO.drew (N p45 0) λoq A9 Es Jp Ba vp tG lU b54=>aO (eE p45) (aO (eE p45) (∃(vS OY:Int)(b57:aX),ah iO.drew (N p45 9) 0 [vS,OY,b57]/\Y 81 #[a0] iO.drew (Gr λv59 vQ=>ah vQ (N p45 9) 0 [vS,OY,b57]/\ah vQ (N p45 0) 0 [oq,A9,Es,Jp,Ba,vp,tG,lU,b54]/\Y 80 #[.agg #[oq,A9,Es,Jp,Ba,vp,tG,lU,b54],v59,.agg #[vS,OY,b57]] vQ (ah1 λKY rD Bo Lb Be rG yB vT b69 lV=>(λAb=>G lV #[KY,rD,Bo,Lb,Be,rG,yB,vT,b69] 75 λwu=>bj 72 9 wu s42 1 Ab/\∀(s71:H)(w72:au),aY 75 9 wu s42 1 Ab s71 w72->Kp lV wu w72/\∃n44,n44<n39/\I38 n44 ((I (kA+1))) s71 w72) [KY,rD,Bo,Lb,Be,rG,yB,vT,b69]))))))) (Y 81 #[a0] iO (Gr λv74 Ju=>Y 82 #[v74,s42] Ju (rA λs76 uh=>rP (λI77 n78=>I77 n78 (0) uh) λI77 n78 azi Oy wA=>Z (decide (Oy<((s76.n:Nat):Int))) (gD s76.a Oy s76.n/\jR wA (N s76.a ((Oy:Int).toNat*9)) λO0 TV x85 x86 xl x88 x89 x90 b91=>G wA #[J,J,J,J,J,J,J,J,false] 75 λw92=>Sw w92 wA #[O0,TV,x85,x86,xl,x88,x89,x90,b91] λLd=>gD xp.a Oy xp.n/\eO Ld.drew (N xp.a ((Oy:Int).toNat*1)) λp94=>(λAc=>aO (eE p94) (aO (eE p94) (((Ac).isSome=true/\Wr Ld.drew Ac 9)/\bM Ac≠some wA/\(Pw Ld.drew Ac [O0,TV,x85,x86,xl,x88,x89,x90,b91] λw95=>∃n82,n82<n78/\I77 n82 ((I (Oy+1))) w95)))) (N p94 0)) (eO wA A λp96=>Y 83 #[p96,.func (.func 84) #[a0] #[]] wA (Rt λw97=>eO w97 A λp98=>Y 85 #[p98] w97 (fw λBi Iu=>R Bi Iu)))))))) ((I (dQ+1)))) (N (some a0) 0)):Y 50 #[a0] w R:= cq ⟨[(15,⟨[(59,.int .i64)],[],[]⟩),(10,⟨[(35,.int .i64),(4,.slice)],[],[]⟩),(4,⟨[(15,.int .i64),(3,.slice)],[],[]⟩)],[],[]⟩ func50 h
end Go.Proofs.YtjcnjlaelhdjeaaGreatDoor
