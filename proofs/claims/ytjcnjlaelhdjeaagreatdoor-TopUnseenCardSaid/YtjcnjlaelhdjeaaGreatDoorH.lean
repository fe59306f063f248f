import Derived.Test.YtjcnjlaelhdjeaaGreatDoorG
import Derived.Test.YtjcnjlaelhdjeaaGreatDoorE
import Derived.Test.YtjcnjlaelhdjeaaGreatDoorD
set_option linter.all false
namespace Go.Proofs.YtjcnjlaelhdjeaaGreatDoor
open Go Go.Vc Go.RowKit Go.Proofs Go.bW Go.aN Go.Code Go.dS Go.ej
set_option maxRecDepth 100000
set_option maxHeartbeats 8000000
section
variable{F F':Nat->Prop}{w w':World}{s o t:Nat}{M M':Sm}{occ:Value}{O:Ce->Bool}
def Xq(l:List Ce):Prop:=∀y∈l,Cn y
def qB.upd{n:Nat}(h:qB M n)(O:Ce->Bool)(c:Ce):qB (wi O M c) (n+40):=by
 have h1:=h.l;have h2:=BY M.q c (M.now+1);unfold wi;split
 ·exact ⟨by simp only;omega,by have:=h.c;simp only;omega,h.now,by have:=h.d;simp only;omega⟩
 ·split
  ·have:qB {M with nk:=M.nk++ [fy c]} (n+1):=⟨by simp only;omega,by have:=h.c;simp only;omega,h.now,by have:=h.d;simp only [cj,List.length_singleton];omega⟩;exact (this.change _).mono aa
  ·have:=Rg (jc M.T.2) c;exact (h.fold _).mono aa
def qB.aao{n:Nat}(O:Ce->Bool):∀{M:Sm}(l:List Ce),qB M n->qB (l.foldl (wi O) M) (n+40*l.length)
 |M,[],h=>h
 |M,x::l,h=>(qB.aao O l (h.upd O x)).mono (by simp only[cL];omega)
def EZ{q:QS}{now b:Int}(hb:1<=b/\b<=64):(Na q now b).2.length<=64:=by unfold Na iQ;rw[aK,cS];omega
def ZE(h:SF F w s o t M occ)(hO:Oc occ O F w)(hd:Xq (uO M))(hk:qB M 600000000)(hb:1<=M.dz/\M.dz<=64):
  ab 85 #[s] w λe w'=>e=vI (uO M).length/\ni F w s o t (QT O M) occ w':=by
 obtain⟨g,sd,hr,ho,-,-,bq⟩:=h.row;apply Mx.vc;have ape:=hk.now;have wr:aC (M.now+1)=M.now+1:=wI;have en:(if 1099511627776<M.now+1 then 1099511627776 else M.now+1)=qC M:=by unfold qC;split<;>omega
 obtain⟨p1,p2⟩:=hr.ft (j:=3) (v:=vI (qC M)) (by simp[smC]) rfl;refine⟨M.now,hr.at 3 rfl,⟨rfl,p1⟩,λw1 e1=>?_⟩;rw[wr,en]at e1;obtain⟨q1,q2⟩:=p2 w1 e1;have hso:∀b,sd.aX=some b->b≠s:=λb hb=>by obtain⟨cs',hr'⟩:=aT ho au hb;exact hr'.ne hr au
 obtain⟨F1,h1,t1⟩:=bq (M':={M with now:=qC M}) (occ':=occ) (sd':=sd) rfl rfl rfl rfl rfl (q2.mono λi _ hi=>.inl hi) q1 (q2.gR ho hso) (λb hb=>.inl hb);have xd:=Ext.dr w1;have t1d:=t1.trans (aJ.aq xd);obtain⟨g',m,qs,hq,Ih,⟨sd',hr'⟩,dP,hresq⟩:=(h1.ext xd).queue;refine⟨_,hr'.at 0 rfl,_,hr'.at 3 rfl,_,hr'.at 2 rfl,(Q.aeu hq Ih (qC M) M.dz).mono ?_⟩;rintro e w5 ⟨s6,rfl,qs',lF,hq',ht⟩;obtain⟨F5,h5,t5⟩:=hresq hq' (Ih.due _ _) ht;have h5:SF F5 w5 s o t (GY M) occ:=h5;have T5:=t1d.trans t5;have hO5:=hO.uZ T5;have gF:=lF.rd (show 0<3 by decide);have hdl:(uO M).length<=64:=EZ hb;have gF:RdK w5 s6 3 ((uO M).map eV):=gF;have lF:ar w1.drew.heap.size rV 3 w5 s6 ((uO M).map eV):=lF;have hk5:qB (GY M) 600000000:=⟨hk.l,hk.c,by show 0<=qC M/\qC M<=_;unfold qC;omega,hk.d⟩;obtain⟨g1,sd1,r1,-,-,f1,-⟩:=(h1.ext xd).row;have hsq:¬Q.gN g' m qs s:=hq.dR hr' au au;have r5:=ht.mod.row r1 hsq;have hsF:∀b,s6.aX=some b->¬F5 b:=λb hb=>by
  obtain⟨cs6,hr6⟩:=aT lF au hb;refine h5.dR hr6 aq8.1 au au au au au (λg sd r2 lk=>?_);have e1:=(r2.at 5 rfl).symm.trans (r5.at 5 rfl);have e2:sd.a=sd1.a:=by injection e1 with e1;injection e1
  have e3:sd.aX=sd1.aX:=by unfold Sl.aX;rw[e2]
  have q1:=h1.lt (f1 b (by rw[<-e3];exact lk));have q2:=(lF.own.lt hb).1;have q3:=nV w1;omega
 unfold QT;generalize uO M=L at*;generalize GY M=M0 at*;have hn6:=gF.n;rw[aK]at hn6;refine⟨s6,rfl,λn x wr=>∃(j:Nat)(F':Nat->Prop),x=j/\j+n=L.length/\SF F' wr s o t ((L.take j).foldl (wi O) M0) occ/\aJ F5 F' w5 wr,⟨L.length,0,F5,rfl,aa,h5,aJ.refl _ _⟩,?_⟩;rintro n us x Yi ⟨j,F',rfl,hj,hS,hT⟩;have zr:=hT.mod.size;have Iq:RdK Yi s6 3 (L.map eV):=hT.mod.rdK au gF λ_ b hb hf=>hsF b hb hf
 apply Br.mk<;>intro hb
 ·replace hb:=lM hb;obtain⟨y,hy⟩:=bX (l:=L) (i:=j) aa;have hy':(L.map eV)[j]? =some (eV y):=by rw[aW,hy];rfl
  have xk:L.take (j+1)=L.take j++[y]:=by rw[dq,hy];rfl
  have wk:=nE (j:=j);have hsm:=hd y (aQ hy);refine⟨Iq.jX (i:=(j:Int)) au aa hb,_,_,_,Iq.bH hy',λbZ CH cP ug=>?_⟩;have dO:Ext Yi cP:=(aU CH).af ug (ak _);have z17:=yL CH ug;refine(Rh (hS.ext dO) ((hO5.uZ hT).ext dO) y hsm ((hk5.aao O (L.take j)).mono (by rw[cS];omega))).mono ?_;rintro e dA ⟨rfl,F2,hS2,Ii⟩;refine⟨rfl,Ii.mod.same _ aa (λhf=>by have:=hS.lt hf;omega),n-1,aa,j+1,F2,wk,aa,?_,(hT.trans (aJ.aq dO)).trans Ii⟩;rw[xk,og];exact hS2
 ·replace hb:=lW hb;rw[dN aa]at hS;exact⟨by rw[hn6],F',hS,T5.trans hT⟩
end
open Go.fY
abbrev iq:TypeId:=73
abbrev xB(b:Bx):Value:=.agg #[b.1.1,b.1.2.1,b.1.2.2,b.2.1,b.2.2.1,b.2.2.2]
def awC(n:Int):(if 140737488355328<(if(-140737488355328)>n then(-140737488355328)else n)then 140737488355328 else(if(-140737488355328)>n then(-140737488355328)else n))=dD n:=by
 unfold dD
 repeat' split
 all_goals omega
def gV(n:Int)(w:World):kh 257 #[n] w (vI (dD n)):=by apply aa6.vc;exact⟨by rw[awC],rfl⟩
def aa7(a b:Int)(w:World):kh 268 #[a,b] w (Value.int .i64 (dU a b)):=by apply aa8.vc;refine(gV a w).mono ?_;rintro e w1 ⟨rfl,rfl⟩;refine⟨_,rfl,(gV b w1).mono ?_⟩;rintro e w2 ⟨rfl,rfl⟩;have h1:=sw a;have h2:=sw b;refine⟨_,rfl,?_⟩;rw[wI];refine(gV _ w2).mono ?_;rintro e w3 ⟨rfl,rfl⟩;exact⟨_,rfl,rfl,rfl⟩
def JZ(a b:Int)(w:World):kh 270 #[a,b] w (Value.int .i64 (nh a b)):=by apply aa9.vc;refine(gV a w).mono ?_;rintro e w1 ⟨rfl,rfl⟩;refine⟨_,rfl,(gV b w1).mono ?_⟩;rintro e w2 ⟨rfl,rfl⟩;have h1:=sw a;have h2:=sw b;refine⟨_,rfl,?_⟩;rw[wI];refine(gV _ w2).mono ?_;rintro e w3 ⟨rfl,rfl⟩;exact⟨_,rfl,rfl,rfl⟩
def p16:(2^(min (16:Int).toNat 64):Int)=65536:=by decide
def pd(n:Int)(w:World):kh 198 #[n] w (vI (bY n)):=by apply Sr.vc;refine(gV n w).eL ?_;rw[p16];exact⟨_,rfl,by rw[tj _ au];rfl,rfl⟩
def aba{x:Int}(h: -140737488355328<=x/\x<=140737488355328):tI .i64 x 65535=x%65536:=by
 unfold tI;have e:(BitVec.ofInt IntKind.i64.bits x &&&BitVec.ofInt IntKind.i64.bits 65535).toNat=(x%65536).toNat:=by
  show(BitVec.ofInt 64 x &&&BitVec.ofInt 64 65535).toNat=_;rw[zL];have h1:(BitVec.ofInt 64 65535).toNat=2^16-1:=by decide
  rw[h1,Nat.and_two_pow_sub_one_eq_mod,zg];omega
 rw[e,Int.toNat_of_nonneg aa];exact wI
def BH(n:Int)(w:World):kh 355 #[n] w (vI (uL n)):=by apply VW.vc;refine(gV n w).eL ?_;exact⟨_,rfl,by rw[aba (sw n)];rfl,rfl⟩
def sB(n:Int)(w:World):kh 213 #[n] w (vI (uM n)):=by
 apply afp.vc;rw[p16];have e:(if 2147483648<(if(-2147483648)>n then(-2147483648)else n)then 2147483648 else(if(-2147483648)>n then(-2147483648)else n))=min (max n (-2147483648)) 2147483648:=by
  repeat' split
  all_goals omega
 rw[e,wI];exact⟨rfl,rfl⟩
def ane(p q r:Option Addr):One [.pointer p,q,r]:=by intro v hv;simp at hv;rcases hv with rfl|rfl|rfl<;>rfl
def HO(a:Addr)(w:World):ed 271 #[a] w (Value.agg #[.pointer (ae (some a) 0),.pointer (ae (some a) 1),.pointer (ae (some a) 2)]):=by
 apply abb.vc;intro w0 e0;have x0:Ext w w0.drew:=(aU e0).drew;have hr:Row w0.drew w [pno,pno,pno] 311:=by rw[e0];exact(Row.new w [_,_,_] _).ext (Ext.dr _)
 refine⟨⟨rfl,hr.wr bo⟩,λw1 e1=>?_⟩;rw[hr.bB (vs:=[.pointer (ae (some a) 0),.pointer (ae (some a) 1),.pointer (ae (some a) 2)]) bo (ane _ _ _),dC bo]at e1;have hr1:Row w1 w [.pointer (ae (some a) 0),.pointer (ae (some a) 1),.pointer (ae (some a) 2)] 311:=hr.st e1;exact⟨_,_,_,Lo.wv hr1,rfl,x0.af e1 (ak _)⟩
def VX(f:Int->Int->Int)(v:Ce)(k:Nat):LV:=[vI (if 0<k then f 0 v.1 else v.1),vI (if 1<k then f 1 v.2.1 else v.2.1),vI (if 2<k then f 2 v.2.2 else v.2.2)]
def vO(f:Int->Int->Int)(v:Ce)(fv:Value)(w:World)(hf:∀w',Ext w w'->∀i x:Int,0<=i->i<3->bu Tryz.prog fv [vI i,vI x] w' λe w''=>e=vI (f i x)/\Ext w' w''):
  ed 266 #[fQ v,fv] w ((fQ (Gl f v))):=by
 apply afq.vc;intro w0 e0 w1 e1;have x0:=aU e0;have z0:=fD e0;have r0:Row w0 w (VX f v 0) iq:=Row.nw e0;have x1:=aU e1;have z1:=fD e1;refine(HO ⟨w.heap.size,0,none⟩ w1).bf λw2 x2=>?_
 have z2:=x2.size;refine⟨_,_,_,rfl,x2.k,λn x wr=>∃k:Nat,x=k/\k+n=3/\Row wr w (VX f v k) iq/\Ext w wr/\w2.heap.size<=wr,⟨3,rfl,0,rfl,rfl,r0.ext (x1.tr x2),x0.tr (x1.tr x2),ak _⟩,?_⟩;rintro n us x wr ⟨k,rfl,hk,hr,xr,zr⟩;have hl:∀k,(VX f v k).length=3:=λ_=>rfl
 have wk:=nE (j:=k);apply Br.mk<;>intro hb
 ·replace hb:=lM hb;have H6:k=0\/k=1\/k=2:=by omega
  have step:∀(j:Nat)(y:Int),k=j->j<3->(VX f v j)[j]? =some (vI y)->putCells (VX f v j) j [(f j y)]=VX f v (j+1)->
    aO (eE (ae (aB w.heap.size) j)) (∃(cJ:Int),ld wr (ae (aB w.heap.size) j)=some (vI cJ)/\
     bu Tryz.prog fv [vI (k:Int),cJ] wr (λe cp=>∃(dn:Int),e=dn/\cp.heap[w0.heap.size]? =wr.heap[w0.heap.size]?/\
     aO (eE (ae (aB w.heap.size) j)) (((ae (aB w.heap.size) j).isSome=true/\Wr cp (ae (aB w.heap.size) j) 1)/\bM (ae (aB w.heap.size) j)≠some w0.heap.size/\(∀bZ:World,bZ=bB cp (ae (aB w.heap.size) j) [dn]->
     ∃n11,n11<n/\aR [ai,ai,ai]/\∃k':Nat,aC ((k:Int)+1)=k'/\k'+n11=3/\Row bZ w (VX f v k') iq/\Ext w bZ/\w2.heap.size<=bZ)))):=by
   intro j y hj h3 h1 h2;subst hj;refine lC rfl ⟨y,hr.at k h1,dY (hf wr xr k y aa aa) ?_⟩;rintro e cp ⟨rfl,cY⟩;have z14:=cY.size;have aBi:=hr.ext cY;obtain⟨p1,p2⟩:=aBi.ft (j:=k) (v:=vI (f k y)) (by rw[hl];exact h3) rfl;refine⟨_,rfl,cY.k,lC rfl ⟨⟨rfl,p1⟩,?_,λbZ CH=>?_⟩⟩
   ·rw[cB];intro q;have q:w.heap.size=w0.heap.size:=by simpa[bM]using q
    omega
   obtain⟨q1,q2⟩:=p2 bZ CH;rw[h2]at q1;have z16:=q2.size;exact⟨n-1,aa,rfl,k+1,wk,aa,q1,q2.ext (xr.tr cY) λi hi=>by omega,aa⟩
  refine⟨⟨aa,aa⟩,?_⟩;rcases H6 with h|h|h
  ·exact⟨_,by rw[h];rfl,step 0 v.1 h au rfl rfl⟩
  ·exact⟨_,by rw[h];rfl,step 1 v.2.1 h au rfl rfl⟩
  ·exact⟨_,by rw[h];rfl,step 2 v.2.2 h au rfl rfl⟩
 ·replace hb:=lW hb;have H6:k=3:=by omega
  subst H6;exact⟨_,_,_,Lo.wv hr,λeQ wx=>⟨rfl,xr.af wx aa⟩⟩
def cW(v:Ce)(i:Int)(w:World):ed 210 #[fQ v,i] w (vI (dj v i)):=by
 apply afr.vc;intro w0 e0;have x0:=aU e0;have r0:Row w0 w (eV v) iq:=Row.nw e0;refine Br.mk (λh=>?_) (λh=>Br.mk (λh2=>?_) (λh2=>(HO ⟨w.heap.size,0,none⟩ w0).mono ?_))
 ·replace h:=lM h;exact⟨by unfold dj;rw[if_neg aa,if_neg aa,if_neg aa],x0⟩
 ·simp only[cC,ge_iff_le]at h2;exact⟨by unfold dj;rw[if_neg aa,if_neg aa,if_neg aa],x0⟩
 ·simp only[fg,ge_iff_le]at h h2;rintro e w1 ⟨rfl,x1⟩;have hr:=r0.ext x1;refine⟨_,_,_,rfl,⟨aa,aa⟩,?_⟩;have h3:i=0\/i=1\/i=2:=by omega
  rcases h3 with rfl|rfl|rfl
  ·exact⟨_,rfl,lC rfl ⟨_,hr.at 0 rfl,rfl,x0.tr x1⟩⟩
  ·exact⟨_,rfl,lC rfl ⟨_,hr.at 1 rfl,rfl,x0.tr x1⟩⟩
  ·exact⟨_,rfl,lC rfl ⟨_,hr.at 2 rfl,rfl,x0.tr x1⟩⟩
def abc(b:Ce)(i n:Int){g:Nat}{w:World}(hr:Row w g (eV b) iq):ed 267 #[i,n,g] w (vI (dU n (dj b i))):=by apply abd.vc;refine⟨_,_,_,Lo.wv hr,(cW b i w).bf λw1 x1=>?_⟩;refine⟨_,rfl,(aa7 n _ w1).eL ?_⟩;exact⟨_,rfl,rfl,x1⟩
def abe(b:Ce)(i n:Int){g:Nat}{w:World}(hr:Row w g (eV b) iq):ed 269 #[i,n,g] w (vI (nh n (dj b i))):=by apply abf.vc;refine⟨_,_,_,Lo.wv hr,(cW b i w).bf λw1 x1=>?_⟩;refine⟨_,rfl,(JZ n _ w1).eL ?_⟩;exact⟨_,rfl,rfl,x1⟩
def jw(a b:Ce)(w:World):ed 206 #[fQ a,fQ b] w ((fQ (iY a b))):=by
 apply ajc.vc;intro w0 e0 w1 e1 w2 e2;have x0:=aU e0;have z0:=fD e0;have x1:=aU e1;have z1:=fD e1;have r1:Row w1 w0 (eV b) iq:=Row.nw e1;have x2:=aU e2;have z2:=fD e2;have yz:=x0.tr (x1.tr x2);refine(vO (λi n=>dU n (dj b i)) a (.func (.func 267) #[] #[w0]) w2 λw' x' i x _ _=>bR (by kernel_rfl) rfl (abc b i x ((r1.ext x2).ext x'))).bf λw3 x3=>?_
 have z3:=x3.size;exact⟨_,_,_,rfl,x3.k,x3.k,λw7 e7=>⟨rfl,(yz.tr x3).af e7 aa⟩⟩
def vD(a b:Ce)(w:World):ed 207 #[fQ a,fQ b] w ((fQ (uJ a b))):=by
 apply ajd.vc;intro w0 e0 w1 e1 w2 e2;have x0:=aU e0;have z0:=fD e0;have x1:=aU e1;have z1:=fD e1;have r1:Row w1 w0 (eV b) iq:=Row.nw e1;have x2:=aU e2;have z2:=fD e2;have yz:=x0.tr (x1.tr x2);refine(vO (λi n=>nh n (dj b i)) a (.func (.func 269) #[] #[w0]) w2 λw' x' i x _ _=>bR (by kernel_rfl) rfl (abe b i x ((r1.ext x2).ext x'))).bf λw3 x3=>?_
 have z3:=x3.size;exact⟨_,_,_,rfl,x3.k,x3.k,λw7 e7=>⟨rfl,(yz.tr x3).af e7 aa⟩⟩
def VY(ax m i n:Int){g h:Nat}{w:World}{τ:TypeId}(hr:Row w g [ax] τ)(hh:Row w h [m] τ):ed 272 #[i,n,g,h] w (vI (if i=ax then dD m else n)):=by
 apply VZ.vc;refine⟨ax,hr.at 0 rfl,Br.mk (λq=>⟨m,hh.at 0 rfl,(gV m w).mono ?_⟩) (λq=>?_)⟩
 ·rintro e w1 ⟨rfl,rfl⟩;exact⟨_,rfl,by rw[if_pos (by simpa using q)],Ext.bT _⟩
 ·exact⟨by rw[if_neg (by simpa using q)],Ext.bT _⟩
def jh(v:Ce)(ax m:Int)(w:World):ed 211 #[fQ v,ax,m] w ((fQ (fV v ax m))):=by
 apply afs.vc;intro w0 e0 w1 e1 w2 e2 w3 e3;have x0:=aU e0;have z0:=fD e0;have x1:=aU e1;have z1:=fD e1;have r1:Row w1 w0 [ax] 3:=Row.nw e1;have x2:=aU e2;have z2:=fD e2;have r2:Row w2 w1 [m] 3:=Row.nw e2;have x3:=aU e3;have z3:=fD e3;have OL:=x0.tr (x1.tr (x2.tr x3));refine(vO (λi own=>if i=ax then dD m else own) v (.func (.func 272) #[] #[w0,w1]) w3 λw' x' i x _ _=>bR (by kernel_rfl) rfl (VY ax m i x ((r1.ext (x2.tr x3)).ext x') ((r2.ext x3).ext x'))).bf λw4 x4=>?_
 have z4:=x4.size;exact⟨_,_,_,rfl,x4.k,x4.k,λw8 e8=>⟨rfl,(OL.tr x4).af e8 aa⟩⟩
abbrev fR:TypeId:=202
abbrev pE(b:Bx):LV:=[vI b.1.1,vI b.1.2.1,vI b.1.2.2,vI b.2.1,vI b.2.2.1,vI b.2.2.2]
def xG{w:World}{g o:Nat}{cs:LV}{τ:TypeId}(hr:Row w g cs τ){v:Value}(h:cs[o]? =some v):ah w (jM g o) 0 [v]:=hr.bH (o:=o) (λj hj=>by
 match j,hj with
 |0,_=>exact h)
def tP{w:World}{g o:Nat}{cs:LV}{τ:TypeId}(hr:Row w g cs τ){x y z:Value}(h:cs[o]? =some x)(h1:cs[o+1]? =some y)(h2:cs[o+2]? =some z):ah w (jM g o) 0 [x,y,z]:=hr.bH (o:=o) (λj hj=>by
 match j,hj with
 |0,_=>exact h
 |1,_=>exact h1
 |2,_=>exact h2)
def aqP{a:Int}(h:cH a):aC (Int.tdiv (if 0>a then 0 else a) 2)=max a 0/2:=by
 have e:(if 0>a then 0 else a)=max a 0:=by split<;>omega
 unfold cH at h;rw[e,uI aa,wI]
def awa(a:Int):(if 0>a then 0 else a)=max a 0:=by split<;>omega
def UC(aw:Ce)(wd h:Int)(hw:cH wd)(w:World):ed 217 #[fQ aw,wd,h] w ((xB (F8 aw wd h))):=by
 apply Zc.vc;rw[aqP hw,awa h];intro w0 e0 w1 e1 w2 e2 w3 e3;have x0:=aU e0;have z0:=fD e0;have r0:Row w0 w (eV aw) iq:=Row.nw e0;have x1:=aU e1;have z1:=fD e1;have x3:Ext w1 w3:=(aU e2).af e3 (ak _);have z3:=yL e2 e3;have cJ:=x1.tr (x3.tr (Ext.dr w3));have zd:=nV w3;constructor
 all_goals
  refine(vD aw (max wd 0/2,0,max wd 0/2) w3.drew).bf λw4 x4=>?_
  have z4:=x4.size
  refine⟨_,_,_,rfl,x4.k,x4.k,x4.k,Lo.wv (r0.ext (cJ.tr x4)),(jw aw (max wd 0/2,max h 0,max wd 0/2) w4).bf λw8 x8=>?_⟩
  have z8:=x8.size
  exact⟨_,_,_,rfl,x8.k,x8.k,x8.k,λbN ui=>⟨rfl,(x0.tr (cJ.tr (x4.tr x8))).af ui aa⟩⟩
structure eJ where
 aw:Ce
 speed:Ce
 wd:Int
 ht:Int
 fG:Bool
abbrev pc(b:eJ):LV:=[vI b.aw.1,vI b.aw.2.1,vI b.aw.2.2,vI b.speed.1,vI b.speed.2.1,vI b.speed.2.2,vI b.wd,vI b.ht,.bool b.fG]
abbrev Ip(b:eJ):Value:=.agg #[b.aw.1,b.aw.2.1,b.aw.2.2,b.speed.1,b.speed.2.1,b.speed.2.2,b.wd,b.ht,.bool b.fG]
abbrev DR:TypeId:=75
def eJ.box(b:eJ):Bx:=F8 b.aw b.wd b.ht
def kC(b:eJ)(hw:cH b.wd)(w:World):ed 149 #[Ip b] w ((xB b.box)):=by
 apply IP.vc;intro w0 e0 w1 e1;have x1:Ext w w1:=(aU e0).aZ e1;have z0:=fD e0;have z1:=fD e1;refine(UC b.aw b.wd b.ht hw w1).bf λw2 x2=>?_
 have z2:=x2.size;exact⟨_,_,_,_,_,_,rfl,x2.k,x2.k,λw9 e9=>⟨rfl,(x1.tr x2).af e9 aa⟩⟩
def zH(v:Ce)(w:World):ed 138 #[fQ v] w ((fQ (ba v))):=by
 apply ah5.vc;intro w0 e0 w1 e1;have x0:=aU e0;have z0:=fD e0;have r0:Row w0 w (eV v) iq:=Row.nw e0;have x1:Ext w0 w1.drew:=(aU e1).drew;have z1:w1.drew.heap.size=w0.heap.size+1:=by show w1.heap.size=_;rw[e1];simp
 have r1:=r0.ext x1;refine(pd v.1 w1.drew).eL ?_;refine⟨_,rfl,rfl,rfl,xG r1 rfl,xG r1 rfl,(pd v.2.1 w1.drew).eL ?_⟩;refine⟨_,rfl,rfl,rfl,xG r1 rfl,(pd v.2.2 w1.drew).eL ?_⟩;exact⟨_,rfl,rfl,rfl,λw8 e8=>⟨by unfold ba;rfl,(x0.tr x1).af e8 aa⟩⟩
def BG(a b c d:Int)(w:World):kh 390 #[a,b,c,d] w (vI (if a=b then c else d)):=by apply P3.vc;exact Br.mk (λh=>⟨by rw[if_pos (by simpa using h)],rfl⟩) (λh=>⟨by rw[if_neg (by simpa using h)],rfl⟩)
def Zd(b:Bx)(w:World):ab 378 #[xB b] w λe w'=>∃lo hi:Ce,e=Value.tuple #[fQ lo,fQ hi,.bool (wN b)]/\(wN b=true->lo=ba b.1/\hi=fj b)/\Ext w w':=by
 apply Ze.vc;intro w0 e0 w1 e1 w2 e2;have x0:=aU e0;have z0:=fD e0;have r0:Row w0 w (pE b) fR:=Row.nw e0;have x1:=aU e1;have z1:=fD e1;have x2:=aU e2;have z2:=fD e2;refine(zH b.1 w2).bf λw3 x3=>?_
 have z3:=x3.size;refine⟨_,_,_,rfl,x3.k,x3.k,x3.k,λw7 e7 w8 e8=>(jw b.2 (-1,-1,-1) w8).mono ?_⟩;have x8:Ext w3 w8:=(aU e7).af e8 (ak _);have z8:=yL e7 e8;have r8:Row w8 w3 (eV (ba b.1)) rV:=by rw[e8];exact Row.set (by rw[e7];exact Row.new w3 [_,_,_] _) _
 rintro e w9 ⟨rfl,x9⟩;have z9:=x9.size;refine⟨_,_,_,rfl,x9.k,x9.k,x9.k,x9.k,(zH (iY b.2 (-1,-1,-1)) w9).bf λbw cJ=>?_⟩;have z13:=cJ.size;refine⟨_,_,_,rfl,cJ.k,cJ.k,cJ.k,cJ.k,λcP ug dA Ot=>?_⟩;have dc:Ext bw dA:=(aU ug).af Ot (ak _);have z18:=yL ug Ot;have r18:Row dA bw (eV (zI b)) rV:=by rw[Ot];exact Row.set (by rw[ug];exact Row.new bw [_,_,_] _) _
 have aoE:=x9.tr (cJ.tr dc);have Wz:=x0.tr (x1.tr (x2.tr (x3.tr (x8.tr aoE))));have rb:=r0.ext (x1.tr (x2.tr (x3.tr (x8.tr aoE))));have rl:=r8.ext aoE;refine⟨λn x wr=>∃k:Nat,x=k/\k+n=3/\Ext dA wr/\∀j:Nat,j<k->iV b j=false,⟨3,rfl,rfl,rfl,rfl,rfl,0,rfl,rfl,Ext.bT _,λj hj=>by omega⟩,?_⟩;rintro n us x wr ⟨k,rfl,hk,xr,ht⟩;have zr:=xr.size;have xd:=Ext.dr wr;have zd:=nV wr;have wk:=nE (j:=k);refine Br.mk (λhb=>(cW b.1 k wr.drew).mono ?_) (λhb=>(BG b.1.1 b.2.1 (ba b.1).1 (zI b).1 wr.drew).mono ?_)
 ·replace hb:=lM hb;rintro e dL ⟨rfl,gG⟩;have z25:=gG.size;have x25d:=xr.tr (xd.tr gG);refine⟨_,rfl,gG.k,gG.k,gG.k,gG.k,gG.k,tP (rb.ext x25d) rfl rfl rfl,(cW b.2 k dL).bf λgO jl=>?_⟩;have z27:=jl.size;have next:iV b k=false->∀j:Nat,j<k+1->iV b j=false:=λh j hj=>by
   by_cases q:j<k
   ·exact ht j q
   ·rw[show j=k from by omega];exact h
  refine⟨_,rfl,jl.k,jl.k,jl.k,jl.k,jl.k,Br.mk (λh1=>(BH _ gO).mono ?_) (λh1=>?_)⟩
  ·rintro e gI ⟨rfl,rfl⟩;have h1:=eK h1;refine⟨_,rfl,rfl,rfl,rfl,rfl,rfl,Br.mk (λh2=>λia e31 sY e32=>?_) (λh2=>?_)⟩
   ·have h2:=eK h2;have hth:iV b k=true:=by unfold iV;rw[h1,<-h1,h2];simp[h1]
    have hsp:wN b=false:=by
     have h3:(k:Int)=0\/(k:Int)=1\/(k:Int)=2:=by omega
     unfold wN;rcases h3 with q|q|q<;>(rw[q]at hth;rw[hth];simp)
    refine⟨(0,0,0),(0,0,0),by rw[hsp],λq=>absurd (hsp.symm.trans q) au,((Wz.tr (x25d.tr jl)).af e31 aa).af e32 aa⟩
   ·have h2:=eK h2;exact⟨n-1,aa,rfl,rfl,rfl,rfl,rfl,k+1,wk,aa,x25d.tr jl,next (by unfold iV;simp[h2])⟩
  ·have h1:=eK h1;exact⟨n-1,aa,rfl,rfl,rfl,rfl,rfl,k+1,wk,aa,x25d.tr jl,next (by unfold iV;simp[h1])⟩
 ·replace hb:=lW hb;have hsp:wN b=true:=by unfold wN;rw[show iV b 0=false from ht 0 aa,show iV b 1=false from ht 1 aa,show iV b 2=false from ht 2 aa];rfl
  have rb':=rb.ext (xr.tr xd);have rl':=rl.ext (xr.tr xd);have rt':=r18.ext (xr.tr xd);rintro e jV ⟨rfl,rfl⟩;refine⟨_,rfl,rfl,rfl,rfl,rfl,rfl,xG rt' rfl,xG rl' rfl,xG rb' rfl,xG rb' rfl,xG rt' rfl,xG rl' rfl,xG rb' rfl,xG rb' rfl,(BG b.1.2.1 b.2.2.1 (ba b.1).2.1 (zI b).2.1 wr.drew).eL ?_⟩;refine⟨_,rfl,rfl,rfl,rfl,rfl,rfl,xG rt' rfl,xG rl' rfl,xG rb' rfl,xG rb' rfl,(BG b.1.2.2 b.2.2.2 (ba b.1).2.2 (zI b).2.2 wr.drew).eL ?_⟩;refine⟨_,rfl,rfl,rfl,rfl,rfl,rfl,λlG e39 nT e40 kO e41 nS e42=>?_⟩;have r39:Row lG bw (eV ((fj b).1,(zI b).2.1,(zI b).2.2)) rV:=by rw[e39];exact Row.set rt' [_,_,_]
  have r40:Row nT bw (eV ((fj b).1,(fj b).2.1,(zI b).2.2)) rV:=r39.st e40;have r41:Row kO bw (eV (fj b)) rV:=r40.st e41;have r42:Row nS bw (eV (fj b)) rV:=(r41.ext (Ext.dr kO)).same (by rw[e42];exact setRow_other _ _ _ _ aa);have yT:Ext w nS:=(((((Wz.tr (xr.tr xd)).af e39 aa).af e40 aa).af e41 aa).drew).af e42 aa;exact⟨Lo.wv r42,λiO Yn=>⟨ba b.1,fj b,by rw[hsp];rfl,λ_=>⟨rfl,rfl⟩,yT.af Yn aa⟩⟩
def UD(b:Bx)(w:World):ed 255 #[xB b] w ((xB (nL b))):=by
 apply P4.vc;intro w0 e0 w1 e1;have x0:=aU e0;have z0:=fD e0;have r0:Row w0 w (pE b) fR:=Row.nw e0;have x1:Ext w0 w1.drew:=(aU e1).drew;have z1:w1.drew.heap.size=w0.heap.size+1:=by show w1.heap.size=_;rw[e1];simp
 have r1:=r0.ext x1;refine(JZ b.1.2.1 1 w1.drew).eL ?_;refine⟨_,rfl,rfl,rfl,tP r1 rfl rfl rfl,tP r1 rfl rfl rfl,(jh b.1 1 (nh b.1.2.1 1) w1.drew).bf λw4 x4=>?_⟩;have z4:=x4.size;refine⟨_,_,_,rfl,x4.k,x4.k,tP (r1.ext x4) rfl rfl rfl,(jh b.2 1 b.1.2.1 w4).bf λw8 x8=>?_⟩;have z8:=x8.size;exact⟨_,_,_,rfl,x8.k,x8.k,λbN ui=>⟨rfl,(x0.tr (x1.tr (x4.tr x8))).af ui aa⟩⟩
abbrev oe(b:Bx):List (LV):=(ky b).map λc=>[fQ c]
abbrev adG(g:Nat):Value:=.func (.func 377) #[] #[g]
def Zn(b:Bx)(g:Nat)(W0:World)(hb:Row W0 g (pE b) fR):Iter Tryz.prog (adG g) W0 (λi=>i=g) (oe b):=by
 refine⟨⟨_,_,_,rfl,by kernel_rfl⟩,?_⟩;intro y B J Jx F0 W hB hsJ hsX yQ hRd hround h0;refine bR (by kernel_rfl) (by rfl) ?_;apply Og.vc;have hbW:Row W g (pE b) fR:=hb.same (hRd g rfl).2.2;refine⟨_,_,_,_,_,_,Lo.wv hbW,(Zd b W).mono ?_⟩;rintro e w6 ⟨lo,hi,rfl,hsp,x6⟩;refine⟨_,_,_,_,_,_,_,rfl,λcp yF c9 pC bZ CH cP ug=>?_⟩;have cY:=aU yF;have z14:=fD yF;have dO:Ext w6 cP:=(((cY.aZ pC).af CH (ak _)).af ug aa);have z17:cP.heap.size=w6.heap.size+2:=by rw[ug,setRow_size,CH,setRow_size,pC];simp[z14]
 have xW:=x6.tr dO;have zW:=xW.size;obtain⟨Q,hQ⟩:∃Q:Nat->wPp,Q=λk wr=>∃F,J k F wr/\∀i,F i->(F0 i\/cP.heap.size<=i):=⟨_,rfl⟩
 have z6:=x6.size;have hF0:∀i,F0 i->i<w6.heap.size:=λi hi=>gK (yQ _ _ _ h0 i hi) z6
 have init:Q 0 cP:=by rw[hQ];exact⟨F0,hsJ _ _ _ _ h0 (Below.mono xW hB) λi hi=>xW.heap (yQ _ _ _ h0 i hi),λi hi=>.inl hi⟩
 have round:∀{k:Nat}{wr:World}{x:LV},cP.heap.size<=wr->(oe b)[k]? =some x->Q k wr->bu Tryz.prog y x wr λe w'=>cP.heap.size<=w'.heap.size/\(∀i,i<cP.heap.size->¬F0 i->w'.heap[i]? =wr.heap[i]?)/\((e=true/\Q (k+1) w')\/(e=false/\∃F',Jx () F' w')):=λ{k wr x} hz hx h=>by
  rw[hQ]at h⊢;obtain⟨F,hJ,h2⟩:=h;refine bJ (hround _ _ _ _ hx hJ) ?_;have aV:∀{w':World}{F2:Nat->Prop},Step F F2 wr w'->cP.heap.size<=w'.heap.size/\(∀i,i<cP.heap.size->¬F0 i->w'.heap[i]? =wr.heap[i]?):=λgm=>⟨by have:=gm.size;omega,λi hi hn=>gm.same i aa λhf=>(h2 i hf).elim hn aa⟩
  rintro e w' (⟨rfl,F2,WH,gm⟩|⟨rfl,F2,WH,gm⟩)
  ·refine⟨(aV gm).1,(aV gm).2,.inl ⟨rfl,F2,WH,λi hi=>?_⟩⟩;rcases gm.sub i hi with hf|hf
   ·exact h2 i hf
   ·exact .inr aa
  ·exact⟨(aV gm).1,(aV gm).2,.inr ⟨rfl,F2,WH⟩⟩
 have fin:∀{wr:World},Q (oe b).length wr->∃F',J (oe b).length F' wr:=λh=>by rw[hQ]at h;obtain⟨F,hJ,-⟩:=h;exact⟨F,hJ⟩
 have n6:¬F0 w6:=λq=>by have:=hF0 _ q;omega
 have n14:¬F0 cp:=λq=>by have:=hF0 _ q;omega
 have nR:cP.heap.size=w6.heap.size+2:=z17
 cases hspan:wN b with
 |false=>
  have Et:oe b=[]:=by unfold oe ky;rw[hspan];rfl
  rw[Et]at fin⊢;exact⟨λn x wr=>wr=cP,⟨0,rfl,rfl,rfl⟩,λn us x wr hwr=>by
   subst hwr;exact Br.mk (λh=>by cases h) (λ_=>⟨⟨_,rfl⟩,.inl (fin init)⟩)⟩
 |true=>
  obtain⟨rfl,rfl⟩:=hsp hspan;have hc:ky b=My (ba b.1) (fj b):=by unfold ky;rw[hspan];rfl
  have Ir:∀{jy jz jx:Nat},jy<cg (ba b.1).2.1 (fj b).2.1->jz<cg (ba b.1).2.2 (fj b).2.2->jx<cg (ba b.1).1 (fj b).1->
    (oe b)[(jy*cg (ba b.1).2.2 (fj b).2.2+jz)*cg (ba b.1).1 (fj b).1+jx]? =some [fQ ((ba b.1).1+(jx:Int),(ba b.1).2.1+(jy:Int),(ba b.1).2.2+(jz:Int))]:=λh1 h2 h3=>by
   unfold oe;rw[hc,aW,Xo _ _ h1 h2 h3];rfl
  have cX:(oe b).length=cg (ba b.1).2.1 (fj b).2.1*cg (ba b.1).2.2 (fj b).2.2*cg (ba b.1).1 (fj b).1:=by unfold oe;rw[aK,hc,adD]
  obtain⟨⟨a1,a2⟩,⟨a3,a4⟩,a5,a6⟩:=vF b.1;obtain⟨⟨b1,b2⟩,⟨b3,b4⟩,b5,b6⟩:=Xl b;generalize oe b=xs at*;generalize ba b.1=a at*;generalize fj b=z at*;have hny:∀j:Nat,a.2.1+(j:Int)<=z.2.1↔j<cg a.2.1 z.2.1:=λj=>by unfold cg;omega
  have hnz:∀j:Nat,a.2.2+(j:Int)<=z.2.2↔j<cg a.2.2 z.2.2:=λj=>by unfold cg;omega
  have hnx:∀j:Nat,a.1+(j:Int)<=z.1↔j<cg a.1 z.1:=λj=>by unfold cg;omega
  have hmy:cg a.2.1 z.2.1<=4294967297:=by unfold cg;omega
  have hmz:cg a.2.2 z.2.2<=4294967297:=by unfold cg;omega
  have hmx:cg a.1 z.1<=4294967297:=by unfold cg;omega
  generalize cg a.2.1 z.2.1=ny at*;generalize cg a.2.2 z.2.2=nz at*;generalize cg a.1 z.1=nx at*;refine⟨λn v wr=>∃jy:Nat,v=a.2.1+jy/\jy+n=ny/\Q (jy*nz*nx) wr/\cP.heap.size<=wr,⟨ny,rfl,rfl,0,aa,aa,by rw[Nat.zero_mul,Nat.zero_mul];exact init,ak _⟩,?_⟩;rintro n2 us3 v dh ⟨jy,rfl,hjy,hq,zr⟩;refine Br.mk (λ_=>Br.mk (λhc1=>?_) (λhc1=>?_)) (λh=>by cases h)
  ·replace hc1:=lM hc1;have ly:=(hny jy).1 hc1;refine⟨λn v wr=>∃jz:Nat,v=a.2.2+jz/\jz+n=nz/\Q ((jy*nz+jz)*nx) wr/\cP.heap.size<=wr,⟨nz,rfl,rfl,0,aa,aa,by rw[Nat.add_zero];exact hq,zr⟩,?_⟩;rintro n10 azN v iZ ⟨jz,rfl,hjz,hq,zr⟩;apply Br.mk<;>intro nA
   ·replace nA:=lM nA;have lz:=(hnz jz).1 nA;refine⟨λn v wr=>∃jx:Nat,v=a.1+jx/\jx+n=nx/\Q ((jy*nz+jz)*nx+jx) wr/\cP.heap.size<=wr,⟨nx,rfl,rfl,0,aa,aa,by rw[Nat.add_zero];exact hq,zr⟩,?_⟩;rintro n18 azQ v ke ⟨jx,rfl,hjx,hq,zr⟩;apply Br.mk<;>intro Lf
    ·replace Lf:=lM Lf;have lx:=(hnx jx).1 Lf;refine bJ (round zr (Ir ly lz lx) hq) ?_;have wk:aC (a.1+(jx:Int)+1)=a.1+((jx+1:Nat):Int):=by rw[wI];omega
     rintro e mG ⟨z36,k36,q⟩;have k1:=k36 w6 aa n6;have k2:=k36 cp aa n14;rcases q with⟨rfl,hq2⟩|⟨rfl,hx2⟩
     ·exact⟨true,rfl,k1,k2,Br.mk (λh=>by cases h) (λ_=>⟨n18-1,aa,rfl,rfl,jx+1,wk,aa,hq2,z36⟩)⟩
     ·exact⟨false,rfl,k1,k2,Br.mk (λ_=>⟨⟨_,rfl⟩,.inr hx2⟩) (λh=>by cases h)⟩
    ·replace Lf:=lW Lf;have e:jx=nx:=by have:=mt (hnx jx).2 Lf;omega
     subst e;have wk:aC (a.2.2+(jz:Int)+1)=a.2.2+((jz+1:Nat):Int):=by rw[wI];omega
     refine⟨n10-1,aa,rfl,rfl,jz+1,wk,aa,?_,zr⟩;have:(jy*nz+(jz+1))*jx=(jy*nz+jz)*jx+jx:=by rw[<-Nat.add_assoc,pP _ 1,Nat.one_mul]
     rw[this];exact hq
   ·replace nA:=lW nA;have e:jz=nz:=by have:=mt (hnz jz).2 nA;omega
    subst e;have wk:aC (a.2.1+(jy:Int)+1)=a.2.1+((jy+1:Nat):Int):=by rw[wI];omega
    refine⟨n2-1,aa,rfl,rfl,jy+1,wk,aa,?_,zr⟩;rw[pP jy 1,Nat.one_mul];exact hq
  ·replace hc1:=lW hc1;have e:jy=ny:=by have:=mt (hny jy).2 hc1;omega
   subst e;rw[<-cX]at hq;exact⟨⟨_,rfl⟩,.inl (fin hq)⟩
def UO(b:Bx)(w:World):ab 357 #[xB b] w λe w'=>e=(adG w)/\Row w' w (pE b) fR/\Ext w w':=by apply UP.vc;intro w0 e0;exact⟨rfl,by rw[e0];exact Row.new w [_,_,_,_,_,_] _,(aU e0)⟩
def Zl{b:Bx}{n:Nat}{x y z:Int}(h:(oe b)[n]? =some [.agg #[vI x,vI y,vI z]]):(ky b)[n]? =some (x,y,z):=by
 unfold oe at h;rw[aW]at h
 cases hc:(ky b)[n]? with
 |none=>rw[hc]at h;cases h
 |some c=>
  rw[hc]at h;simp only[mT]at h;injection h with h;injection h with h _;injection h with h;injection h with h;injection h with h1 h;injection h with h2 h;injection h with h3 _;injection h1 with _ h1;injection h2 with _ h2;injection h3 with _ h3;exact congrArg some (Prod.ext h1 (Prod.ext h2 h3))
def adH{b:Bx}{c:Ce}(h:c∈ky b):pQ c:=by
 unfold ky at h;split at h
 ·have h1:=Qg h;have h2:=vF b.1;have h3:=Xl b;unfold pQ cH;omega
 ·cases h
def Zm{v:Value}{V:Ce->Int}{w:World}(hV:Tl v V w)(hv:kq v=[])(b:Bx)(fp:Value)(hfp:kq fp=[])(p:Int->Bool)(hp:∀(x:Int)(w':World),bu Tryz.prog fp [vI x] w' λe w''=>e=Value.bool (p x)/\Ext w' w''):
  ab 317 #[v,xB b,fp] w λe w'=>∃c:Ce,e=Value.tuple #[fQ c,.bool (j8 V b p)]/\Ext w w':=by
 apply UQ.vc;rw[hv,uj];intro w0 e0 w1 e1;rw[hfp,uj];intro w2 e2 w3 e3 w4 e4;have x0:=aU e0;have z0:=fD e0;have x1:=aU e1;have z1:=fD e1;have x2:=aU e2;have z2:=fD e2;have r2:∃τ,Row w2 w1 [fp] τ:=⟨_,by rw[e2];exact Row.new w1 [_] _⟩;have x3:=aU e3;have z3:=fD e3;have x4:=aU e4;have z4:=fD e4;have E9:=x0.tr (x1.tr (x2.tr (x3.tr x4)));obtain⟨τ2,r2⟩:=r2;refine(UO b w4).mono ?_;rintro e w5 ⟨rfl,hb5,x5⟩;have z5:=x5.size;have l5:=hb5.lt;have Yt:=E9.tr x5;have r5:=r2.ext (x3.tr (x4.tr x5));refine⟨_,rfl,x5.k,x5.k,x5.k,x5.k,x5.k,oe b,λi=>i=w4.heap.size,λ_=>False,
  λn F x y z bb w'=>(∀i,¬F i)/\(∀c∈(ky b).take n,p (V c)=false)/\Mod (λi=>w5.heap.size<=i) w5 w',
  λo F x y z bb w'=>(∀i,¬F i)/\bb=j8 V b p/\Mod (λi=>i=w2.heap.size\/i=w3.heap.size\/w5.heap.size<=i) w5 w',?_,?_,?_,λn F x y z bb w' h i hi=>(h.1 i hi).elim,λo F x y z bb w' h i hi=>(h.1 i hi).elim,λi hi=>?_,λue vt=>?_,?_,?_,?_⟩
 ·intro x hx;obtain⟨c,-,rfl⟩:=bc.1 hx;exact⟨_,_,_,rfl⟩
 ·rintro n F x y z bb di dh ⟨h1,h2,h3⟩ kQ -;exact⟨h1,h2,h3.tr ⟨kQ.os,kQ.tape,kQ.output,kQ.size,λi hi hn=>kQ.block i (C6 hn)⟩ λi hi=>.inl hi⟩
 ·rintro o F x y z bb di dh ⟨h1,h2,h3⟩ kQ -;exact⟨h1,h2,h3.tr ⟨kQ.os,kQ.tape,kQ.output,kQ.size,λi hi hn=>kQ.block i (C6 hn)⟩ λi hi=>.inl (.inr (.inr hi))⟩
 ·subst hi;exact⟨aa,id,aa,aa,aa,aa,aa,trivial⟩
 ·exact⟨Zn b _ ue (hb5.same (vt.ext.block _ aa)),rfl,rfl,rfl,λi h=>h,λc hc=>by simp at hc,Mod.aq vt.ext⟩
 ·rintro n F us Jp Ba vp b52 lU CI vS yC hx hI vQ e58 pH TX;have Iv:Ext yC pH:=(aU e58).af TX (ak _);have z59:pH.heap.size=yC.heap.size+1:=by rw[TX,setRow_size,e58];simp
  have z56:=hI.2.2.size;refine⟨Iv,λnv fL agC=>?_⟩;obtain⟨hF,lp,hM⟩:=agC;have zr:=fL.size;have hc:=Zl hx;have pL:=aQ hc;have z57:=hM.size;have ht:(ky b).take (n+1)=(ky b).take n++[(lU,CI,vS)]:=by rw[dq,hc];rfl
  obtain⟨D,hD1,hD2⟩:=hV;refine bJ (hD2 nv.drew (λi hi=>?_) (lU,CI,vS) (adH pL)) ?_
  ·have:=hD1 i hi;have:=Yt.size;exact(hM.same i aa aa).trans (Yt.k)
  rintro e lV ⟨rfl,qF⟩;have zd:=nV nv;have z60:=qF.size;have agD:=hM.trans (Mod.aq ((Ext.dr nv).tr qF));refine⟨_,rfl,qF.k,qF.k,qF.k,qF.k,qF.k,qF.k,Lo.wv (agD.row r5 aa),bJ (hp _ lV) ?_⟩;rintro e jU ⟨rfl,rD⟩;have z62:=rD.size;have Tu:=agD.trans (Mod.aq rD);refine⟨_,rfl,rD.k,rD.k,rD.k,rD.k,rD.k,rD.k,Br.mk (λhq=>λH4 e64 O3 e65=>?_) (λhq=>?_)⟩
  ·have hq:p (V (lU,CI,vS))=true:=hq;have aoI:j8 V b p=true:=List.any_eq_true.2 ⟨_,pL,hq⟩;have ayv:O3.heap.size=jU.heap.size:=by rw[e65,setRow_size,e64,setRow_size]
   have aoJ:∀i,i≠w2.heap.size->i≠w3.heap.size->O3.heap[i]? =jU.heap[i]? :=λi h1 h2=>by rw[e65,setRow_other _ _ _ _ h2,e64,setRow_other _ _ _ _ h1]
   have agE:Mod (λi=>i=w2.heap.size\/i=w3.heap.size) jU O3:=⟨by rw[e65,e64];rfl,by rw[e65,e64];rfl,by rw[e65,e64];rfl,aa,λi _ hn=>aoJ i (λq=>hn (.inl q)) (λq=>hn (.inr q))⟩;refine⟨rfl,λ_=>False,⟨rfl,rfl,rfl,λi h=>h,aoI.symm,(Tu.mono λi _ h=>.inr (.inr h)).trans (agE.mono λi _ h=>h.elim .inl λh=>.inr (.inl h))⟩,?_⟩;have Ic:=((Mod.aq (F:=λi=>i=w2.heap.size\/i=w3.heap.size) (((Ext.dr nv).tr qF).tr rD))).trans agE;refine Step.late ⟨λi hi=>?_,Ic.size,λi hi hn=>Ic.same i hi λq=>hn (.inr ?_)⟩
   ·rcases hi with h|h
    ·exact h.elim
    ·exact .inl (.inr h)
   ·rcases q with rfl|rfl<;>simp
  ·have hq:p (V (lU,CI,vS))=false:=hq;have Tv:=((Ext.dr nv).tr qF).tr rD;refine⟨λ_=>False,⟨rfl,rfl,rfl,λi h=>h,λc hc=>?_,Tu⟩,Step.late ⟨λi hi=>?_,Tv.size,λi hi _=>Tv.block i hi⟩⟩
   ·rw[ht,dp]at hc;rcases hc with hc|hc
    ·exact lp c hc
    ·rw[ig.1 hc];exact hq
   ·rcases hi with h|h
    ·exact h.elim
    ·exact .inl (.inr h)
 ·rintro F us CJ Bf DB b73 CE ⟨hF,lp,hM⟩ WB uh e75 pB e76;have z74:=hM.size;have cX:(oe b).length=(ky b).length:=by unfold oe;simp
  rw[cX,kB]at lp;have aoI:j8 V b p=false:=by unfold j8;rw[List.any_eq_false];exactλc hc=>by rw[lp c hc];decide
  refine⟨by rw[e76,setRow_other _ _ _ _ aa,e75,setRow_other _ _ _ _ aa];exact WB,λuc fL=>⟨(0,0,0),by rw[aoI],?_⟩⟩;have O1:Ext w CE:=hM.ext Yt λi hi=>by have:=Yt.size;omega
  have O2:Ext w pB:=(O1.af e75 aa).af e76 aa;exact(Mod.oX fL).ext O2 λi hi=>by have:=Yt.size;omega
 ·rintro F us Oy H9 Ev b83 w84 ⟨hF,rfl,hM⟩ WB;refine⟨WB,λw85 fL=>⟨(Oy,H9,Ev),rfl,?_⟩⟩;have TV:Ext w w84:=hM.ext Yt λi hi=>by have:=Yt.size;omega
  exact(Mod.oX fL).ext TV λi hi=>by have:=Yt.size;omega
def Gm{v:Value}{V:Ce->Int}{w:World}(hV:Tl v V w)(hv:kq v=[])(b:Bx)(fp:Value)(hfp:kq fp=[])(p:Int->Bool)(hp:∀(x:Int)(w':World),bu Tryz.prog fp [x] w' λe w''=>e=Value.bool (p x)/\Ext w' w''):
  ed 254 #[v,xB b,fp] w (Value.bool (j8 V b p)):=by
 apply Zo.vc;intro w0 e0;have x0:=aU e0;have z0:=fD e0;refine(Zm (hV.ext x0) hv b fp hfp p hp).mono ?_;rintro e w1 ⟨c,rfl,x1⟩;have z1:=x1.size;refine⟨_,_,_,_,rfl,x1.k,λw6 e6 w7 e7=>⟨rfl,(x0.tr x1).tr ((aU e6).af e7 (ak _))⟩⟩
def sC{v:Value}{V:Ce->Int}{w:World}(hV:Tl v V w)(hv:kq v=[])(b:Bx):ed 194 #[v,xB b] w (Value.bool (j8 V b aD)):=by
 apply IT.vc;intro w0 e0;have x0:=aU e0;have z0:=fD e0;refine(Gm (hV.ext x0) hv b (.func (.func 187) #[] #[]) rfl aD λx w'=>bR (by kernel_rfl) rfl ((qV x w').mono ?_)).mono ?_
 ·rintro e w'' ⟨rfl,rfl⟩;exact⟨rfl,Ext.bT _⟩
 rintro e w1 ⟨rfl,x1⟩;exact⟨_,rfl,x1.k,rfl,x0.tr x1⟩
def qd{v:Value}{V:Ce->Int}{w:World}(hV:Tl v V w)(hv:kq v=[])(b:Bx):ed 195 #[v,xB b] w (Value.bool (j8 V (nL b) aD)):=by
 apply Mz.vc;intro w0 e0;have x0:=aU e0;have z0:=fD e0;refine(UD b w0).bf λw1 x1=>?_
 refine⟨_,_,_,_,_,_,rfl,x1.k,(sC (hV.ext (x0.tr x1)) hv (nL b)).bf λw8 x8=>?_⟩;have z1:=x1.size;exact⟨_,rfl,x8.k,rfl,x0.tr (x1.tr x8)⟩
open Tryz
variable{R:eWp}{w:World}{a0 a1 a2 a3 aM aI aP cO cR da gJ gC fB aG aH aS eU ja jb Wf Wg Ox gg gj fq:Int}
def Ml.vc{a0:Value}(h:(λA=>
 Aw w A 202 λw0=>
 ab 254 #[a0,.agg A,.func (.func 261) #[] #[]] w0 (Rb λb2 w1=>Kp w w0 w1/\
 R b2 w1)) #[aG,aH,aS,eU,ja,jb]):ab 202 #[a0,.agg #[aG,aH,aS,eU,ja,jb]] w R:=
 cq bz func202 h
def Y8.vc{a0:Value}(h:(λA=>
 Aw w A 202 λw0=>
 ab 254 #[a0,.agg A,.func (.func 262) #[] #[]] w0 (Rb λb2 w1=>Kp w w0 w1/\
 R b2 w1)) #[aG,aH,aS,eU,ja,jb]):ab 203 #[a0,.agg #[aG,aH,aS,eU,ja,jb]] w R:=
 cq bz func203 h
def Mm.vc(h:
 R (Ga (a0==4)) w):ab 261 #[a0] w R:=
 cq bz func261 h
def Mn.vc(h:
 Aw w #[aM,aI,aP,cO,cR,da] 202 λw0=>
 Aw w0 #[a1] 3 λw1=>
 Aw w1 #[a2] 3 λw2=>
 R (Value.func (.func 379) #[] #[w,.pointer (aB w0),.pointer (aB w1)]) w2):ab 358 #[.agg #[aM,aI,aP,cO,cR,da],a1,a2] w R:=
 cq bz func358 h
def Gb.vc{a0:Value}{c0:Addr}{c1:Addr}{c2:Addr}(h:(λA B C=>
 gU w.drew (ae (some c0) 0) λx0 x1 x2=>
 jr w.drew C λx3=>
 gU w.drew B λx4 x5 x6=>
 jr w.drew C λx7=>
 ab 210 #[.agg #[x0,x1,x2],x3] w.drew (λe w8=>∃(x9:Int),e=x9/\
 ah w8 C 0 [x7]/\ah w8 B 0 [x4,x5,x6]/\ab 210 #[.agg #[x4,x5,x6],x7] w8 (λe br=>∃(bS:Int),e=bS/\
 jr br A λcr=>
 Br (cr>0)
 (ab 198 #[(aC ((aC (bS+65536))-1))] br (λe bw=>∃(cY:Int),e=cY/\
 rP (λI15 n16=>I15 n16 cY bw) λI15 n16 axl dc fm=>
 jr fm.drew A λfk=>
 ab 213 #[dc] fm.drew (λe dh=>∃(iB:Int),e=iB/\
 ah dh A 0 [fk]/\Br (decide (iB<(aC (bS+fk))))
 (ab 213 #[dc] dh (λe ie=>∃(gG:Int),e=gG/\
 bu Tryz.prog a0 [dc,(aC (gG-bS))] ie (λe kN=>∃(Yp:Bool),e=Yp/\
 Br (!Yp)
 (R pz kN)
 (∃n20,n20<n16/\I15 n20 ((aC (dc+1))) kN))))
 (R pz dh))))
 (ab 198 #[x9] br (λe iZ=>∃(kz:Int),e=kz/\
 rP (λI30 n31=>I30 n31 ((aC (kz-1))) iZ) λI30 n31 axm gA ke=>
 jr ke.drew A λoP=>
 ab 213 #[(aC (gA+1))] ke.drew (λe jD=>∃(nC:Int),e=nC/\
 ah jD A 0 [oP]/\Br (decide (nC>(aC (x9+oP))))
 (ab 213 #[(aC (gA+1))] jD (λe lG=>∃(rE:Int),e=rE/\
 bu Tryz.prog a0 [gA,(aC (rE-x9))] lG (λe kO=>∃(b42:Bool),e=b42/\
 Br (!b42)
 (R pz kO)
 (∃n35,n35<n31/\I30 n35 ((aC (gA-1))) kO))))
 (R pz jD))))))) (some c2) (ae (some c0) 3) (some c1)):ab 379 #[a0,c0,c1,c2] w R:=
 cq ⟨[(3,⟨[(7,.int .i64)],[],[]⟩),(7,⟨[(8,.int .i64)],[],[]⟩)],[],[]⟩ func379 h
def PV.vc(h:(λA B=>
 Aw w #[aM,aI,aP,cO,cR,da] 202 λw0=>
 Aw w0 #[ai,ai,ai,ai,ai,ai] 202 λw1=>
 ab 213 #[a2] w1.drew (Ri λx3 w2=>K2 w w0 w1.drew w2 (
 ah w2 B 0 A/\ah w2 w 0 [aM,aI,aP]/\ab 211 #[.agg #[aM,aI,aP],a1,x3] w2 (mg λx5 x6 x7 w4=>K2 w w0 w2 w4 (
 ah w4 B 0 A/\ab 213 #[(aC (a2+1))] w4 (Ri λx9 w8=>K2 w w0 w4 w8 (
 ah w8 B 0 A/\ab 211 #[.agg #[cO,cR,da],a1,x9] w8 (mg λbS cr cJ br=>K2 w w0 w8 br (
 Sw br w0 #[x5,x6,x7,bS,cr,cJ] λcp=>
 R (tO #[x5,x6,x7,bS,cr,cJ]) cp))))))))) [cO,cR,da] (jM w 3)):ab 359 #[.agg #[aM,aI,aP,cO,cR,da],a1,a2] w R:=
 cq bz func359 h
def Uv.vc{a0:Value}(h:(λA B C D E G=>
 aO (kq a0) (
 Aw w #[a0] 95 λw0=>
 Aw w0 C 202 λw1=>
 Aw w1 #[a2] 3 λw2=>
 Aw w2 #[ai] 3 λw3=>(λAa Ab=>
 Aw w3 G 4 λw4=>
 Br (a2<0)
 (Sw w4 w2 #[ai] λw5=>
 Sw w5 w3 G λw6=>
 R E w6)
 (Br (a2>=3)
 (Sw w4 w2 #[ai] λw7=>
 Sw w7 w3 G λw8=>
 R E w8)
 (ab 358 #[.agg C,a2,vI A] w4 (Rv λv10 w9=>Ab w4 w9 (
 ∃(ajH:List (LV))(arO F13:Nat->Prop)(I14:Nat->(Nat->Prop)->Int->Bool->wPp)(X15:Option Nat->(Nat->Prop)->Int->Bool->wPp),
 (∀x∈ajH,∃(dw dO:Int),x=[vI dw,vI dO])/\
 (∀(n18:Nat)(F19:Nat->Prop)(fe:Int)(b21:Bool)(dh jE:World),I14 n18 F19 fe b21 dh->Below w9 dh jE->(∀i,F19 i->jE.heap[i]? =dh.heap[i]?)->I14 n18 F19 fe b21 jE)/\
 (∀(n24:Option Nat)(F25:Nat->Prop)(nU:Int)(Yp:Bool)(iZ gI:World),X15 n24 F25 nU Yp iZ->Below w9 iZ gI->(∀i,F25 i->gI.heap[i]? =iZ.heap[i]?)->X15 n24 F25 nU Yp gI)/\
 (∀(n30:Nat)(F31:Nat->Prop)(mP:Int)(b33:Bool)(ke:World),I14 n30 F31 mP b33 ke->∀i,F31 i->i<ke.heap.size/\i≠w9.heap.size/\i≠w9.heap.size+1)/\
 (∀(n35:Option Nat)(F36:Nat->Prop)(mO:Int)(b38:Bool)(lG:World),X15 n35 F36 mO b38 lG->∀i,F36 i->i<lG.heap.size/\i≠w9.heap.size/\i≠w9.heap.size+1)/\
 (∀i,arO i->i<w9.heap.size/\¬F13 i/\i≠w.heap.size/\i≠w0.heap.size/\i≠w1.heap.size/\i≠w2.heap.size/\i≠w3.heap.size/\True)/\
 (∀nT:World,PW w9 w9 nT->Iter Tryz.prog (v10) nT arO ajH/\aR [a0]/\aR D/\aR [a2]/\I14 0 F13 (0) false nT)/\
 (∀(n41:Nat)(F42:Nat->Prop)(aFw:Nat->Value)(qE:Int)(b45:Bool)(oq A9:Int)(lI:World),ajH[n41]? =some [vI oq,vI A9]->I14 n41 F42 qE b45 lI->
 Below lI lI lI/\∀nB:World,Rec (w9.heap.size+1) lI nB->I14 n41 F42 qE b45 nB->
 ab 359 #[.agg C,a2,oq] nB.drew (C2 λvp tG lU CI vS OY yR=>Ab nB.drew yR (
 ah yR w 0 [a0]/\ab 194 #[a0,.agg #[vp,tG,lU,CI,vS,OY]] yR (Rb λb58 nv=>Ab yR nv (
 Br b58
 (Sw nv w2 #[A9] λpH=>
 Sw pH w3 #[true] λlV=>
 true=true/\∃F61:Nat->Prop,(aR [a0]/\aR D/\aR [a2]/\X15 none F61 A9 true lV)/\Step (λi=>(F42 i\/i∈Aa)\/lI.heap.size<=i) (λi=>F61 i\/i∈Aa) nB lV)
 (∃F62:Nat->Prop,(aR [a0]/\aR D/\aR [a2]/\I14 (n41+1) F62 qE b45 nv)/\Step (λi=>(F42 i\/i∈Aa)\/lI.heap.size<=i) (λi=>F62 i\/i∈Aa) nB nv))))))/\
 (∀(F63:Nat->Prop)(axo:Nat->Value)(Be:Int)(b66:Bool)(pI:World),I14 ajH.length F63 Be b66 pI->pI.heap[w9.heap.size]? =some B->
 Sw pI w2 #[vI A] λE8=>
 Sw E8 w3 G λOZ=>
 OZ.heap[w9.heap.size]? =some B/\∀wu:World,Rec w9 OZ wu->
 R (eP #[vI A,false]) wu)/\
 (∀(F71:Nat->Prop)(aFA:Nat->Value)(K0:Int)(b74:Bool)(uh:World),X15 none F71 K0 b74 uh->uh.heap[w9.heap.size]? =some B->
 uh.heap[w9.heap.size]? =some B/\∀pB:World,Rec w9 uh pB->
 R (eP #[K0,b74]) pB)))))) ([w.heap.size,w0.heap.size,w1.heap.size,w2.heap.size,w3.heap.size]:List Nat) (K5 w w0 w1 w2 w3))) (if 4194304<(if(-4194304)>a3 then(-4194304)else a3)then 4194304 else(if(-4194304)>a3 then(-4194304)else a3)) (.deferred (some [])) #[aG,aH,aS,eU,ja,jb] [aG,aH,aS,eU,ja,jb] (Value.tuple #[ai,false]) #[false]):ab 319 #[a0,.agg #[aG,aH,aS,eU,ja,jb],a2,a3] w R:=
 cq ⟨[],[],[(7,⟨[],[(3,[.int .i64]),(4,[.bool])],[]⟩,[.sc (.int .i64),.sc (.int .i64)])]⟩ func319 h
def adp.vc(h:(λA=>
 Aw w #[aM,aI,aP,cO,cR,da] 202 λw0=>
 Aw w0 A 73 λw1=>
 Aw w1 #[ai,ai,ai,ai,ai,ai] 202 λw2=>
 ab 206 #[.agg #[aM,aI,aP],.agg A] w2.drew (mg λx4 x5 x6 w3=>K3 w w0 w1 w2.drew w3 (
 ah w3 (aB w0) 0 [aG,aH,aS]/\ah w3 (jM w 3) 0 [cO,cR,da]/\ab 206 #[.agg #[cO,cR,da],.agg A] w3 (mg λx8 x9 bL w7=>K3 w w0 w1 w3 w7 (
 Sw w7 w1 #[x4,x5,x6,x8,x9,bL] λbE=>
 R (tO #[x4,x5,x6,x8,x9,bL]) bE))))) #[aG,aH,aS]):ab 320 #[.agg #[aM,aI,aP,cO,cR,da],.agg #[aG,aH,aS]] w R:=
 cq bz func320 h
def PX.vc{a0:Value}(h:(λA=>
 Aw w A 202 λw0=>
 Aw w0 #[ai,ai,ai,ai,ai,ai] 202 λw1=>
 ab 319 #[a0,.agg A,a2,a3] w1 (Xf λx3 b4 w2=>K2 w w0 w1 w2 (
 ab 211 #[.agg #[ai,ai,ai],a2,x3] w2.drew (mg λx6 x7 x8 w5=>K2 w w0 w2.drew w5 (
 ah w5 w 0 [aG,aH,aS,eU,ja,jb]/\ab 320 #[.agg A,.agg #[x6,x7,x8]] w5 (C2 λbL bS cr cJ cY dn w9=>K2 w w0 w5 w9 (
 Sw w9 w0 #[bL,bS,cr,cJ,cY,dn] λbZ=>
 R (eP #[.agg #[bL,bS,cr,cJ,cY,dn],b4]) bZ))))))) #[aG,aH,aS,eU,ja,jb]):ab 263 #[a0,.agg #[aG,aH,aS,eU,ja,jb],a2,a3] w R:=
 cq bz func263 h
def Ud.vc{a0:Value}(h:(λA B=>
 Aw w #[aG,aH,aS,eU,ja,jb] 202 λw0=>
 Aw w0 #[gg,gj,fq] 73 λw1=>
 Aw w1 #[ai,ai,ai,ai,ai,ai] 202 λw2=>
 Aw w2 B 253 λw3=>(λAa=>
 Aw w3 B 253 λw4=>
 ∃I5:Nat->Int->Int->Int->Int->Int->Int->Int->wPp,
 (∃n6,aR [gg,gj,fq]/\aR A/\I5 n6 (0) aG aH aS eU ja jb w4)/\
 ∀(n6:Nat)(us7:Nat->Value)(x8 x9 bL bS cr cJ cY:Int)(c9:World),I5 n6 x8 x9 bL bS cr cJ cY c9->
 Br (x8<3)
 (((0:Int)<=x8/\x8<((3:Nat):Int))/\∃(dO:Int),([(1:Int),ai,(2:Int)]:LV)[(x8:Int).toNat*1]? =some (vI dO)/\
 ab 210 #[.agg #[gg,gj,fq],dO] c9.drew (Ri λdQ dA=>K3 w w0 w1 c9.drew dA (
 ah dA w 0 [x9,bL,bS,cr,cJ,cY]/\ab 263 #[a0,.agg #[x9,bL,bS,cr,cJ,cY],dO,dQ] dA (Mo λfk fX iB jn gG nU Yp eQ=>K3 w w0 w1 dA eQ (
 Sw eQ w #[fk,fX,iB,jn,gG,nU] λiZ=>
 (0:Int)<=dO/\dO<((3:Nat):Int)/\(true=true/\Wr iZ (ae Aa ((dO:Int).toNat*1)) 1)/\bM (ae Aa ((dO:Int).toNat*1))≠some w.heap.size/\bM (ae Aa ((dO:Int).toNat*1))≠some w0.heap.size/\bM (ae Aa ((dO:Int).toNat*1))≠some w1.heap.size/\(Pw iZ (ae Aa ((dO:Int).toNat*1)) [.bool Yp] λgI=>
 ∃n16,n16<n6/\aR [gg,gj,fq]/\aR A/\I5 n16 ((aC (x8+1))) fk fX iB jn gG nU gI))))))
 (lQ c9.drew Aa λb30 b31 b32=>
 Sw c9.drew w1 #[x9,bL,bS,cr,cJ,cY] λjV=>
 ah jV Aa 0 [.bool b30,b31,b32]/\Wt jV ⟨w2,0,none⟩ 3/\Nb w2 w/\Nb w2 w0/\Nb w2 w1/\(Pw jV (aB w2) [.bool b30,b31,b32] λke=>
 lQ ke (aB w2) λb35 b36 b37=>
 R (eP #[.agg #[x9,bL,bS,cr,cJ,cY],.agg #[b35,b36,b37]]) ke))) (aB w3)) [ai,ai,ai,ai,ai,ai] #[false,false,false]):ab 212 #[a0,.agg #[aG,aH,aS,eU,ja,jb],.agg #[gg,gj,fq]] w R:=
 cq ⟨[(3,⟨[(12,.int .i64)],[(0,[.int .i64,.int .i64,.int .i64,.int .i64,.int .i64,.int .i64])],[]⟩)],[],[]⟩ func212 h
def Uw.vc(h:(λA B=>
 Aw w #[aM,aI,aP,cO,cR,da] 202 λw0=>
 Aw w0 #[aG,aH,aS,eU,ja,jb] 202 λw1=>
 R ((aC ((if(aC (0-A))>A then(aC (0-A))else A)+(if(aC (0-B))>B then(aC (0-B))else B)))) w1.drew) (aC (aG-aM)) (aC (aS-aP))):ab 264 #[.agg #[aM,aI,aP,cO,cR,da],.agg #[aG,aH,aS,eU,ja,jb]] w R:=
 cq bz func264 h
def Ux.vc{a0:Value}(h:(λ(A:Array Value)(B:Array Value)(C:Array Value) D (E:LV) (G:LV) H L=>
 Aw w A 202 λw0=>
 Aw w0 #[gg,gj,fq] 73 λw1=>
 Aw w1 B 202 λw2=>(λAa=>
 Aw w2 C 253 λw3=>
 ab 212 #[a0,.agg A,.agg #[gg,gj,fq]] w3 (pa λx5 x6 x7 x8 x9 bL b11 b12 KX w4=>(λ(Ab:Array Value)(Ac:LV) Ad=>K3 w w0 w1 w3 w4 (
 Aw w4 B 202 λcp=>(λAe=>
 Aw cp C 253 λc9=>
 Sw c9 w4 Ab λbZ=>
 Wt bZ ⟨cp,0,none⟩ 3/\Nb cp w/\Nb cp w0/\Nb cp w1/\Nb cp w4/\(Pw bZ Ae [.bool b11,b12,KX] λcP=>
 ∃J18:wPp,
 ((0:Int)<=0/\(0:Int)<D/\Mp cP (ae Ae H) λb19=>
 Br (!b19)
 ((0:Int)<=2/\(2:Int)<D/\Mp cP (ae Ae L) λb20=>
 Br (!b20)
 (lQ cP.drew Ae λb21 b22 b23=>
 Sw cP.drew w1 Ab λie=>
 ah ie Ae 0 [.bool b21,b22,b23]/\Wt ie ⟨w2,0,none⟩ 3/\Nb w2 w/\Nb w2 w0/\Nb w2 w1/\Nb w2 w4/\(Pw ie Aa [.bool b21,b22,b23] λdL=>
 lQ dL Aa λWh Yp Yq=>
 R (eP #[.agg Ab,.agg #[Wh,Yp,Yq]]) dL))
 (Br (a3<=0)
 (lQ cP.drew Ae λb29 b30 b31=>
 Sw cP.drew w1 Ab λsY=>
 ah sY Ae 0 [.bool b29,b30,b31]/\Wt sY ⟨w2,0,none⟩ 3/\Nb w2 w/\Nb w2 w0/\Nb w2 w1/\Nb w2 w4/\(Pw sY Aa [.bool b29,b30,b31] λjV=>
 lQ jV Aa λb34 b35 b36=>
 R (eP #[.agg Ab,.agg #[b34,b35,b36]]) jV))
 (ab 195 #[a0,.agg A] cP (Rb λb38 jD=>Ad cP jD (
 Br (!b38)
 (lQ jD.drew Ae λb39 b40 b41=>
 Sw jD.drew w1 Ab λnS=>
 ah nS Ae 0 [.bool b39,b40,b41]/\Wt nS ⟨w2,0,none⟩ 3/\Nb w2 w/\Nb w2 w0/\Nb w2 w1/\Nb w2 w4/\(Pw nS Aa [.bool b39,b40,b41] λiO=>
 lQ iO Aa λb44 b45 b46=>
 R (eP #[.agg Ab,.agg #[b44,b45,b46]]) iO))
 (aR E/\aR [gg,gj,fq]/\aR G/\aR Ac/\J18 jD))))))
 (Br (a3<=0)
 (lQ cP.drew Ae λb47 b48 b49=>
 Sw cP.drew w1 Ab λyR=>
 ah yR Ae 0 [.bool b47,b48,b49]/\Wt yR ⟨w2,0,none⟩ 3/\Nb w2 w/\Nb w2 w0/\Nb w2 w1/\Nb w2 w4/\(Pw yR Aa [.bool b47,b48,b49] λw51=>
 lQ w51 Aa λb52 b53 b54=>
 R (eP #[.agg Ab,.agg #[b52,b53,b54]]) w51))
 (ab 195 #[a0,.agg A] cP (Rb λb56 yS=>Ad cP yS (
 Br (!b56)
 (lQ yS.drew Ae λb57 b58 b59=>
 Sw yS.drew w1 Ab λlV=>
 ah lV Ae 0 [.bool b57,b58,b59]/\Wt lV ⟨w2,0,none⟩ 3/\Nb w2 w/\Nb w2 w0/\Nb w2 w1/\Nb w2 w4/\(Pw lV Aa [.bool b57,b58,b59] λvr=>
 lQ vr Aa λb62 b63 b64=>
 R (eP #[.agg Ab,.agg #[b62,b63,b64]]) vr))
 (aR E/\aR [gg,gj,fq]/\aR G/\aR Ac/\J18 yS))))))/\
 ∀axw:Nat->Value,∀(vR:World),J18 vR->
 ab 263 #[a0,.agg A,(1:Int),vI (if 65536<a3 then 65536 else a3)] vR (Mo λvT yD CJ Bf DB K0 b74 pI=>(λ(Af:Array Value)=>Ad vR pI (
 Aw pI B 202 λuh=>
 Sw uh pI Af λpB=>(λAg Ah Ai=>
 Aw pB C 253 λuc=>
 Wt uc ⟨pB,0,none⟩ 3/\Nb pB w/\Nb pB w0/\Nb pB w1/\Nb pB w4/\Nb pB pI/\(Pw uc Ai [.bool false,true,false] λuf=>(λAj=>
 Aw uf B 202 λK9=>
 Sw K9 uf Af λH5=>
 ab 263 #[a0,.agg Af,(0:Int),gg] H5 (Mo λEv O0 TV x85 x86 xl b88 wA=>Aj H5 wA (
 Sw wA uf #[Ev,O0,TV,x85,x86,xl] λwB=>
 (0:Int)<=0/\(0:Int)<D/\(true=true/\Wr wB Ag 1)/\bM Ag≠some w.heap.size/\bM Ag≠some w0.heap.size/\bM Ag≠some w1.heap.size/\bM Ag≠some w4.heap.size/\bM Ag≠some pI.heap.size/\bM Ag≠some uf.heap.size/\(Pw wB Ag [.bool b88] λrF=>
 ab 263 #[a0,.agg #[Ev,O0,TV,x85,x86,xl],(2:Int),fq] rF (Mo λTf Wi x94 Wj Wk La b98 w91=>Aj rF w91 (
 Sw w91 uf #[Tf,Wi,x94,Wj,Wk,La] λIu=>
 (0:Int)<=2/\(2:Int)<D/\(true=true/\Wr Iu Ah 1)/\bM Ah≠some w.heap.size/\bM Ah≠some w0.heap.size/\bM Ah≠some w1.heap.size/\bM Ah≠some w4.heap.size/\bM Ah≠some pI.heap.size/\bM Ah≠some uf.heap.size/\(Pw Iu Ah [.bool b98] λsZ=>
 ab 263 #[a0,.agg #[Tf,Wi,x94,Wj,Wk,La],(1:Int),(aC (0-(aC (yD-aH))))] sZ (Mo λBg Ew Wl Ex Js Ey anM Jt=>(λ(Ak:Array Value)=>Aj sZ Jt (
 Sw Jt uf Ak λud=>
 ab 264 #[.agg A,.agg Ak] ud.drew (Ri λyH Wm=>Aj ud.drew Wm (
 ah Wm (aB w4) 0 Ac/\ah Wm w 0 E/\ab 264 #[.agg A,.agg Ab] Wm (Ri λWn Bh=>Aj Wm Bh (
 Br (yH<=Wn)
 (lQ Bh.drew Ae λarT abN Tg=>
 Sw Bh.drew w1 Ab λWo=>
 ah Wo Ae 0 [.bool arT,abN,Tg]/\Wt Wo ⟨w2,0,none⟩ 3/\Nb w2 w/\Nb w2 w0/\Nb w2 w1/\Nb w2 w4/\Nb w2 pI/\Nb w2 uf/\(Pw Wo Aa [.bool arT,abN,Tg] λoF=>
 lQ oF Aa λaxy axz axA=>
 R (eP #[.agg Ab,.agg #[axy,axz,axA]]) oF))
 (lQ Bh.drew Ai λarU arV arW=>
 Sw Bh.drew w1 Ak λoG=>
 ah oG Ai 0 [.bool arU,arV,arW]/\Wt oG ⟨w2,0,none⟩ 3/\Nb w2 w/\Nb w2 w0/\Nb w2 w1/\Nb w2 w4/\Nb w2 pI/\Nb w2 uf/\(Pw oG Aa [.bool arU,arV,arW] λarX=>
 lQ arX Aa λaxB anN axC=>
 R (eP #[.agg Ak,.agg #[axB,anN,axC]]) arX)))))))) #[Bg,Ew,Wl,Ex,Js,Ey])))))))) (K6 w w0 w1 w4 pI uf))) (ae (aB pB) H) (ae (aB pB) L) (aB pB))) #[vT,yD,CJ,Bf,DB,K0]))) (aB cp))) #[x5,x6,x7,x8,x9,bL] [x5,x6,x7,x8,x9,bL] (K4 w w0 w1 w4))) (aB w2)) #[aG,aH,aS,eU,ja,jb] #[ai,ai,ai,ai,ai,ai] #[false,false,false] ((3:Nat):Int) [aG,aH,aS,eU,ja,jb] [ai,ai,ai,ai,ai,ai] ((0:Int).toNat*1) ((2:Int).toNat*1)):ab 204 #[a0,.agg #[aG,aH,aS,eU,ja,jb],.agg #[gg,gj,fq],a3] w R:=
 cq ⟨[],[(4,⟨[],[],[]⟩)],[]⟩ func204 h
def DK.vc{aM:Bool}{aI:Bool}{aP:Bool}(h:(λA=>
 Aw w #[aM,aI,aP] 253 λw0=>
 Aw w0 #[aG,aH,aS] 73 λw1=>
 Aw w1 #[ai,ai,ai] 73 λw2=>
 lQ w2 w λb3 b4 b5=>
 ∃I6:Nat->Int->Int->Int->Int->wPp,
 (∃n7,aR A/\I6 n7 (0) aG aH aS w2)/\
 ∀(n7:Nat)(us8:Nat->Value)(x9 bL bS cr:Int)(bw:World),I6 n7 x9 bL bS cr bw->
 Br (x9<3)
 (((0:Int)<=x9/\x9<((3:Nat):Int))/\∃(Ym:Bool),([.bool b3,b4,b5]:LV)[(x9:Int).toNat*1]? =some (.bool Ym)/\
 Br Ym
 (ab 211 #[.agg #[bL,bS,cr],x9,(0:Int)] bw (mg λdO dc dQ bZ=>K2 w0 w1 bw bZ (
 Sw bZ w0 #[dO,dc,dQ] λeQ=>
 ∃n14,n14<n7/\aR A/\I6 n14 ((aC (x9+1))) dO dc dQ eQ)))
 (∃n14,n14<n7/\aR A/\I6 n14 ((aC (x9+1))) bL bS cr bw))
 (Sw bw w1 #[bL,bS,cr] λdi=>
 R (tO #[bL,bS,cr]) di)) [ai,ai,ai]):ab 208 #[.agg #[aM,aI,aP],.agg #[aG,aH,aS]] w R:=
 cq ⟨[(2,⟨[(8,.int .i64)],[(0,[.int .i64,.int .i64,.int .i64])],[]⟩)],[],[]⟩ func208 h
def IL.vc{fB:Bool}(h:(λ(A:LV)=>
 Aw w #[aM,aI,aP,cO,cR,da,gJ,gC,fB] 75 λw0=>
 Aw w0 #[aG,aH,aS] 73 λw1=>
 Aw w1 #[ai,ai,ai] 73 λw2=>
 ab 206 #[.agg #[aM,aI,aP],.agg #[aG,aH,aS]] w2 (mg λx4 x5 x6 w3=>(λAa=>K3 w w0 w1 w2 w3 (
 Aw w3 #[ai,ai,ai] 73 λw7=>
 Sw w7 w3 #[x4,x5,x6] λw8=>
 ab 265 #[x4] w8.drew (Ri λbL w9=>Aa w8.drew w9 (
 ah w9 w 0 A/\ah w9 (jM w3 2) 0 [x6]/\ah w9 (jM w3 1) 0 [x5]/\ab 265 #[x5] w9 (Ri λcr bE=>Aa w9 bE (
 ah bE w 0 A/\ah bE (jM w3 2) 0 [x6]/\ab 265 #[x6] bE (Ri λcY bw=>Aa bE bw (
 ah bw w 0 A/\ab 207 #[.agg #[bL,cr,cY],.agg #[aM,aI,aP]] bw (mg λdw dO dc c9=>Aa bw c9 (
 Sw c9 w1 #[dw,dO,dc] λfm=>
 R (tO #[dw,dO,dc]) fm)))))))))) (K4 w w0 w1 w3))) [aM,aI,aP]):ab 205 #[.agg #[aM,aI,aP,cO,cR,da,gJ,gC,fB],.agg #[aG,aH,aS]] w R:=
 cq bz func205 h
def DL.vc(h:(λA=>
 R (vI (if 70368744177664<A then 70368744177664 else A)) w) (if(-70368744177664)>a0 then(-70368744177664)else a0)):ab 265 #[a0] w R:=
 cq bz func265 h
def Uy.vc(h:
 ab 257 #[a0] w (fw λx1 w0=>Br (x1<0)
 (R (eP #[.int .u64 (fC (aC (0-x1))),true]) w0)
 (R (eP #[.int .u64 (fC x1),false]) w0))):ab 258 #[a0] w R:=
 cq bz func258 h
def PY.vc{a1:Bool}{a2:Bool}(h:
 Aw w #[a1] 4 λw0=>
 Aw w0 #[a2] 4 λw1=>
 Br (a0>=140737488355328)
 (Wr w1 w 1/\(Pw w1 w [.bool false] λw2=>
 Mp w2 (aB w0) λb3=>
 Br b3
 (ab 318 #[.int .u64 140737488355328,.pointer (aB w0),w] w2 (λe w4=>∃(x5:Int),e=Value.int .u64 x5/\
 R ((aC (0-(aC x5)))) w4))
 (R ((aC 140737488355328)) w2)))
 (Mp w1 (aB w0) λb6=>
 Br b6
 (ab 318 #[.int .u64 a0,.pointer (aB w0),w] w1 (λe w7=>∃(x8:Int),e=Value.int .u64 x8/\
 R ((aC (0-(aC x8)))) w7))
 (R ((aC a0)) w1))):ab 260 #[.int .u64 a0,a1,a2] w R:=
 cq bz func260 h
def IM.vc{c0:Addr}{c1:Addr}(h:(λA=>
 Mp w (some c0) λb0=>
 Br b0
 (Mp w (some c1) λb1=>
 Br b1
 (R (Value.int .u64 (fC (a0+1))) w)
 A)
 A) (R (Value.int .u64 a0) w)):ab 318 #[.int .u64 a0,c0,c1] w R:=
 cq bz func318 h
def DM.vc(h:(λA B C D=>
 R (eP #[.int .u64 (fC ((fC ((fC ((D.fdiv A)*((a1:Int).fdiv A)))+(((fC ((fC ((D.fdiv A)*B))+(((fC (C*B)):Int).fdiv A))):Int).fdiv A)))+(((fC ((tI .u64 (fC ((fC ((D.fdiv A)*B))+(((fC (C*B)):Int).fdiv A))) 4294967295)+(fC (C*((a1:Int).fdiv A))))):Int).fdiv A))),.int .u64 (fC (a0*a1))]) w) (2^(min (32:Int).toNat 64)) (tI .u64 a1 4294967295) (tI .u64 a0 4294967295) (a0:Int)):ab 259 #[.int .u64 a0,.int .u64 a1] w R:=
 cq bz func259 h
def Y9.vc(h:
 ab 258 #[a0] w (ah0 λx1 b2 w0=>ab 258 #[a1] w0 (ah0 λx4 b5 w3=>ab 259 #[.int .u64 x1,.int .u64 x4] w3 (λe w6=>∃(x7 x8:Int),e=Value.tuple #[.int .u64 x7,.int .u64 x8]/\
 Br (x7>0)
 (ab 260 #[.int .u64 140737488355328,.bool (((Int.tmod x8 65536):Int) !=0),.bool (!(b2==b5))] w6 (fw λbL w9=>R bL w9))
 (ab 260 #[.int .u64 ((x8:Int).fdiv (2^(min (16:Int).toNat 64))),.bool (((Int.tmod x8 65536):Int) !=0),.bool (!(b2==b5))] w6 (fw λcr bE=>R cr bE)))))):ab 200 #[a0,a1] w R:=
 cq bz func200 h
def zD.vc(h:(λA=>
 ab 200 #[vI (if 65536<A then 65536 else A),(16384:Int)] w (fw λx1 w0=>R x1 w0)) (if(-65536)>a0 then(-65536)else a0)):ab 199 #[a0] w R:=
 cq bz func199 h
def DN.vc{fB:Bool}{a1:Value}{fq:Bool}(h:
 Aw w #[aM,aI,aP,cO,cR,da,gJ,gC,fB] 75 λw0=>
 Aw w0 #[gg,gj,fq] 101 λw1=>
 Aw w1 #[ai,ai,ai,ai,ai,ai,ai,ai,false] 75 λw2=>
 ab 199 #[gg] w2.drew (Ri λx4 w3=>K3 w w0 w1 w2.drew w3 (
 ah w3 (jM w0 1) 0 [gj]/\ab 199 #[gj] w3 (Ri λx6 w5=>(λAa=>K3 w w0 w1 w3 w5 (
 Sw w5 w #[aM,aI,aP,x4,cR,da,gJ,gC,fB] λw7=>
 Sw w7 w Aa λw8=>
 Sw w8 w1 Aa λw9=>
 R (Value.agg Aa) w9)) #[aM,aI,aP,x4,cR,x6,gJ,gC,fB])))):ab 139 #[.agg #[aM,aI,aP,cO,cR,da,gJ,gC,fB],a1,.agg #[gg,gj,fq]] w R:=
 cq bz func139 h
def zE.vc{c0:Addr}{c1:Addr}(h:(λA=>
 eO w.drew A λp0=>
 eO w.drew A λp1=>
 aO (eE p1) (jr w.drew p1 λx2=>
 aO (eE p0) (((p0).isSome=true/\Wr w.drew p0 1)/\(Pw w.drew p0 [vI (if(aC (0-a2))>(aC (x2-a1))then(aC (0-a2))else(aC (x2-a1)))] λw3=>
 Mp w3 (ae (some c1) 2) λb4=>
 Br b4
 (eO w3 A λp5=>
 aO (eE p5) (((p5).isSome=true/\Wr w3 p5 1)/\(Pw w3 p5 [a0] λw6=>
 R pz w6)))
 (R pz w3))))) (some c0)):ab 201 #[a0,a1,a2,c0,c1] w R:=
 cq bz func201 h
def DP.vc{fB:Bool}{a1:Value}{fq:Bool}(h:(λ(A:Array Value) B=>
 Aw w A 75 λw0=>(λAa Ab=>
 Aw w0 #[gg,gj,fq] 101 λw1=>
 Aw w1 #[ai,ai,ai,ai,ai,ai,ai,ai,false] 75 λw2=>
 ab 149 #[.agg A] w2 (C2 λx4 x5 x6 x7 x8 x9 w3=>(λ(Ac:Array Value) Ad=>K3 w w0 w1 w2 w3 (
 Aw w3 #[ai,ai,ai,ai,ai,ai] 202 λbr=>(λ(Ae:Array Value)=>
 Aw br #[pno] 250 λbE=>
 Sw bE w3 #[x4,x5,x6,x7,x8,x9] λbN=>
 Sw bN br #[.pointer (jM w 4)] λbw=>
 ab 202 Ac bw (Rb λYm cp=>Ad bw cp (
 Br Ym
 (ab 201 #[B,(4096:Int),B,.pointer (aB br),.pointer Ab] cp (Rt λbZ=>Ad cp bZ (
 jR bZ w λdO dc dQ fe fk fX iB jn b25=>(λ(Af:Array Value)=>
 Sw bZ w1 Af λkN=>
 R (Value.agg Af) kN) #[dO,dc,dQ,fe,fk,fX,iB,jn,b25])))
 (ab 203 Ac cp (Rb λYq gO=>Ad cp gO (
 Br Yq
 (ab 201 #[(6144:Int),(1024:Int),B,.pointer (aB br),.pointer Ab] gO (Rt λgI=>Ad gO gI (
 jR gI w λtF oO mP gA jW py oP mO b38=>(λ(Ag:Array Value)=>
 Sw gI w1 Ag λlG=>
 R (Value.agg Ag) lG) #[tF,oO,mP,gA,jW,py,oP,mO,b38])))
 (Mp gO Aa λb40=>
 Br b40
 (ab 195 Ac gO (Rb λb42 kO=>Ad gO kO (
 Wr kO Aa 1/\Nq Aa w1/\Nq Aa w3/\(Pw kO Aa [.bool b42] λiO=>
 ab 201 Ae iO (Rt λkf=>Ad iO kf (
 jR kf w λxm oq A9 Es Jp Ba vp tG b53=>(λ(Ah:Array Value)=>
 Sw kf w1 Ah λw54=>
 R (Value.agg Ah) w54) #[xm,oq,A9,Es,Jp,Ba,vp,tG,b53]))))))
 (Wr gO Aa 1/\Nq Aa w1/\Nq Aa w3/\(Pw gO Aa [.bool false] λyS=>
 ab 201 Ae yS (Rt λyC=>Ad yS yC (
 jR yC w λH8 Fa Iv qF KY rD Bo Lb b65=>(λ(Ai:Array Value)=>
 Sw yC w1 Ai λvR=>
 R (Value.agg Ai) vR) #[H8,Fa,Iv,qF,KY,rD,Bo,Lb,b65]))))))))))) #[(28672:Int),(4096:Int),(262144:Int),.pointer (aB br),.pointer Ab])) #[a1,.agg #[x4,x5,x6,x7,x8,x9]] (K2 w1 w3))) (jM w0 2) (aB w0)) #[aM,aI,aP,cO,cR,da,gJ,gC,fB] (8192:Int)):ab 140 #[.agg #[aM,aI,aP,cO,cR,da,gJ,gC,fB],a1,.agg #[gg,gj,fq]] w R:=
 cq bz func140 h
def Gc.vc{fB:Bool}{a1:Value}{fq:Bool}(h:(λA B C D E G H L=>
 Aw w L 75 λw0=>
 Aw w0 #[gg,gj,fq] 101 λw1=>
 Aw w1 #[ai,ai,ai,ai,ai,ai,ai,ai,false] 75 λw2=>
 ab 149 #[.agg L] w2 (C2 λx4 x5 x6 x7 x8 x9 w3=>(λAa Ab Ac Ad=>K3 w w0 w1 w2 w3 (
 Aw w3 C 202 λbr=>
 Sw br w3 Ab λbE=>(λAe=>
 ∃CK:Option Addr->Option Addr->wPp,
 ((ab 205 D bE.drew (mg λcY dn dw bw=>(λAf Ag Ah=>Ac bE.drew bw (
 ah bw Ad 0 Aa/\(ab 204 Af bw (pa λdc dQ fe fk fX iB b24 b25 Wh cP=>Ac bw cP (
 (Aw cP C 202 λgO=>
 Aw gO E 253 λiZ=>
 Sw iZ cP #[dc,dQ,fe,fk,fX,iB] λgI=>
 Wt gI ⟨gO,0,none⟩ 3/\Nb gO w/\Nb gO w0/\Nb gO w1/\Nb gO w3/\Nb gO cP/\(Pw gI (aB gO) [.bool b24,b25,Wh] λpw=>
 aR B/\aR G/\aR A/\aR Aa/\CK (aB cP) (aB gO) pw))/\(Aw cP E 253 λia=>
 Aw ia C 202 λsY=>
 Sw sY ia #[dc,dQ,fe,fk,fX,iB] λjV=>
 Wt jV ⟨cP,0,none⟩ 3/\Nb cP w/\Nb cP w0/\Nb cP w1/\Nb cP w3/\Nb cP ia/\(Pw jV (aB cP) [.bool b24,b25,Wh] λke=>
 aR B/\aR G/\aR A/\aR Aa/\CK (aB ia) (aB cP) ke)))))/\(Aw bw C 202 λiD=>
 (ab 204 Af iD (pa λmO nC rq rE kA yT b43 b44 b45 mG=>Ah iD mG (
 Aw mG E 253 λIw=>
 Sw Iw bw #[mO,nC,rq,rE,kA,yT] λoE=>
 Wt oE ⟨mG,0,none⟩ 3/\Nb mG w/\Nb mG w0/\Nb mG w1/\Nb mG w3/\Nb mG bw/\(Pw oE (aB mG) [.bool b43,b44,b45] λlI=>
 aR B/\aR G/\aR A/\aR Aa/\CK Ag (aB mG) lI))))/\(Aw iD E 253 λnB=>
 ab 204 Af nB (pa λvp tG lU CI vS OY b57 b58 b59 yR=>Ah nB yR (
 Sw yR bw #[vp,tG,lU,CI,vS,OY] λlV=>
 Wt lV ⟨iD,0,none⟩ 3/\Nb iD w/\Nb iD w0/\Nb iD w1/\Nb iD w3/\Nb iD bw/\(Pw lV (aB iD) [.bool b57,b58,b59] λvr=>
 aR B/\aR G/\aR A/\aR Aa/\CK Ag (aB iD) vr)))))/\(Aw bw E 253 λjU=>
 (ab 204 Af jU (pa λLb Be rG yB vT yD b70 b71 b72 Ov=>Ac jU Ov (
 Aw Ov C 202 λJu=>
 Sw Ju Ov #[Lb,Be,rG,yB,vT,yD] λCE=>
 Wt CE ⟨bw,0,none⟩ 3/\Nb bw w/\Nb bw w0/\Nb bw w1/\Nb bw w3/\Nb bw Ov/\(Pw CE Ag [.bool b70,b71,b72] λuh=>
 aR B/\aR G/\aR A/\aR Aa/\CK (aB Ov) Ag uh))))/\(Aw jU C 202 λpB=>
 ab 204 Af pB (pa λx78 Yl Oy H9 Ev O0 b84 b85 b86 uc=>K5 w w0 w1 w3 jU pB uc (
 Sw uc jU #[x78,Yl,Oy,H9,Ev,O0] λIx=>
 Wt Ix ⟨bw,0,none⟩ 3/\Nb bw w/\Nb bw w0/\Nb bw w1/\Nb bw w3/\Nb bw jU/\(Pw Ix Ag [.bool b84,b85,b86] λTW=>
 aR B/\aR G/\aR A/\aR Aa/\CK (aB jU) Ag TW))))))) #[a1,.agg Ab,.agg #[cY,dn,dw],H] (aB bw) (K5 w w0 w1 w3 bw)))/\(Aw bE.drew C 202 λwB=>
 (ab 205 D wB (mg λOz Tf Wi rF=>(λAi Aj=>Ac wB rF (
 ox bE wB rF/\
 ah rF Ad 0 Aa/\(ab 204 Ai rF (pa λWj Wk La x98 Yr Bi anO anP af3 Iy=>Ac rF Iy (
 ox bE rF Iy/\
 Aw Iy E 253 λabP=>
 Sw abP bE.drew.heap.size #[Wj,Wk,La,x98,Yr,Bi] λBj=>
 Wt Bj ⟨Iy,0,none⟩ 3/\Nb Iy w/\Nb Iy w0/\Nb Iy w1/\Nb Iy w3/\bM (aB Iy)≠some bE.drew.heap.size/\(Pw Bj (aB Iy) [.bool anO,anP,af3] λyI=>
 aR B/\aR G/\aR A/\aR Aa/\CK Ae (aB Iy) yI))))/\(Aw rF E 253 λIa=>
 ab 204 Ai Ia (pa λru lJ yH lK Wn af4 abN Tg anQ Wp=>Ac Ia Wp (
 ox bE Ia Wp/\
 Sw Wp bE.drew.heap.size #[ru,lJ,yH,lK,Wn,af4] λoF=>
 Wt oF ⟨rF,0,none⟩ 3/\Nb rF w/\Nb rF w0/\Nb rF w1/\Nb rF w3/\bM Aj≠some bE.drew.heap.size/\(Pw oF Aj [.bool abN,Tg,anQ] λJv=>
 aR B/\aR G/\aR A/\aR Aa/\CK Ae Aj Jv)))))) #[a1,.agg Ab,.agg #[Oz,Tf,Wi],H] (aB rF)))/\(Aw wB E 253 λEz=>
 ab 205 D Ez (mg λaf5 Wq Ws CL=>Ac Ez CL (
 ox bE Ez CL/\
 ah CL Ad 0 Aa/\ab 204 #[a1,.agg Ab,.agg #[af5,Wq,Ws],H] CL (pa λIb Wu af6 af7 af8 af9 anR anT anU oG=>Ac CL oG (
 ox bE CL oG/\
 Sw oG bE.drew.heap.size #[Ib,Wu,af6,af7,af8,af9] λaga=>
 Wt aga ⟨wB,0,none⟩ 3/\Nb wB w/\Nb wB w0/\Nb wB w1/\Nb wB w3/\bM (aB wB)≠some bE.drew.heap.size/\(Pw aga (aB wB) [.bool anR,anT,anU] λanV=>
 aR B/\aR G/\aR A/\aR Aa/\CK Ae (aB wB) anV)))))))/\(Aw bE.drew E 253 λvu=>
 (ab 205 D vu (mg λWv agb anW ta=>(λAk=>Ac vu ta (
 ah ta Ad 0 Aa/\(ab 204 Ak ta (pa λanX agc agd age Th agf anY anZ an1 rz=>Ac ta rz (
 Aw rz C 202 λan2=>
 Sw an2 rz #[anX,agc,agd,age,Th,agf] λagh=>
 Wt agh ⟨bE.drew.heap.size,0,none⟩ 3/\Nq Ae w/\Nq Ae w0/\Nq Ae w1/\Nq Ae w3/\Nq Ae rz/\(Pw agh Ae [.bool anY,anZ,an1] λan3=>
 aR B/\aR G/\aR A/\aR Aa/\CK (aB rz) Ae an3))))/\(Aw ta C 202 λagi=>
 ab 204 Ak agi (pa λan4 an5 an6 an7 an8 an9 aoa aob aoc agj=>K5 w w0 w1 w3 ta agi agj (
 Sw agj ta #[an4,an5,an6,an7,an8,an9] λagk=>
 Wt agk ⟨bE.drew.heap.size,0,none⟩ 3/\Nq Ae w/\Nq Ae w0/\Nq Ae w1/\Nq Ae w3/\Nq Ae ta/\(Pw agk Ae [.bool aoa,aob,aoc] λaod=>
 aR B/\aR G/\aR A/\aR Aa/\CK (aB ta) Ae aod)))))) #[a1,.agg Ab,.agg #[Wv,agb,anW],H]))/\(Aw vu C 202 λagl=>
 ab 205 D agl (mg λagm agn ago OJ=>K5 w w0 w1 w3 vu agl OJ (
 ah OJ Ad 0 Aa/\ab 204 #[a1,.agg Ab,.agg #[agm,agn,ago],H] OJ (pa λagp CM aoe aof aog aoh aoi aoj aok agq=>K5 w w0 w1 w3 vu OJ agq (
 Sw agq vu #[agp,CM,aoe,aof,aog,aoh] λagr=>
 Wt agr ⟨bE.drew.heap.size,0,none⟩ 3/\Nq Ae w/\Nq Ae w0/\Nq Ae w1/\Nq Ae w3/\Nq Ae vu/\(Pw agr Ae [.bool aoi,aoj,aok] λaol=>
 aR B/\aR G/\aR A/\aR Aa/\CK (aB vu) Ae aol))))))))/\
 ∀arZ:Nat->Value,∀(Jw aom:Option Addr)(Ti:World),CK Jw aom Ti->
 aO (eE Jw) (gU Ti.drew (ae Jw 0) λabQ aon EA=>
 ab 207 #[.agg #[abQ,aon,EA],.agg #[x4,x5,x6]] Ti.drew (mg λaoo EB Jy Jz=>Ac Ti.drew Jz (
 ah Jz w 0 [aM,aI,aP]/\ab 206 #[.agg #[aM,aI,aP],.agg #[aoo,EB,Jy]] Jz (mg λWw ags Wx Tj=>Ac Jz Tj (
 Sw Tj w #[Ww,ags,Wx,cO,cR,da,gJ,gC,fB] λyJ=>
 lQ yJ aom λaxF axG axH=>
 ab 208 #[.agg #[axF,axG,axH],.agg #[cO,cR,da]] yJ (mg λOK agt agu aop=>Ac yJ aop (
 Sw aop w #[Ww,ags,Wx,OK,agt,agu,gJ,gC,fB] λabR=>
 C3 abR Jw λaxI axJ axL axM axN axO=>
 ab 195 #[a1,.agg #[axI,axJ,axL,axM,axN,axO]] abR (Rb λaxQ aoq=>(λAl=>Ac abR aoq (
 Sw aoq w Al λar0=>
 Sw ar0 w1 Al λar1=>
 R (Value.agg Al) ar1)) #[Ww,ags,Wx,OK,agt,agu,gJ,gC,axQ]))))))))) (aB bE.drew.heap.size))) [x4,x5,x6,x7,x8,x9] #[x4,x5,x6,x7,x8,x9] (K4 w w0 w1 w3) (aB w3))) [ai,ai,ai,ai,ai,ai,ai,ai,false] [aM,aI,aP,cO,cR,da,gJ,gC,fB] #[ai,ai,ai,ai,ai,ai] #[.agg #[aM,aI,aP,cO,cR,da,gJ,gC,fB],.agg #[cO,cR,da]] #[false,false,false] [gg,gj,fq] (32768:Int) #[aM,aI,aP,cO,cR,da,gJ,gC,fB]):ab 141 #[.agg #[aM,aI,aP,cO,cR,da,gJ,gC,fB],a1,.agg #[gg,gj,fq]] w R:=
 cq ⟨[],[(3,⟨[(8,.ptr),(9,.ptr)],[],[]⟩)],[]⟩ func141 h
def Gd.vc{fB:Bool}{a1:Value}{fq:Bool}(h:(λA=>
 Aw w #[aM,aI,aP,cO,cR,da,gJ,gC,fB] 75 λw0=>
 Aw w0 #[gg,gj,fq] 101 λw1=>
 Aw w1 #[ai,ai,ai,ai,ai,ai,ai,ai,false] 75 λw2=>
 ∃I3:Nat->Int->Int->Int->Int->Int->Int->Int->Int->Int->Bool->wPp,
 (∃n4,aR [gg,gj,fq]/\aR A/\I3 n4 (0) aM aI aP cO cR da gJ gC fB w2)/\
 ∀(n4:Nat)(us5:Nat->Value)(x6 x7 x8 x9 bL bS cr cJ cY:Int)(Ym:Bool)(bZ:World),I3 n4 x6 x7 x8 x9 bL bS cr cJ cY Ym bZ->
 Br (x6<3)
 (((0:Int)<=x6/\x6<((3:Nat):Int))/\∃(v18:Value),([.func (.func 139) #[] #[],.func (.func 140) #[] #[],.func (.func 141) #[] #[]]:LV)[(x6:Int).toNat*1]? =some (v18)/\
 bu Tryz.prog v18 [.agg #[x7,x8,x9,bL,bS,cr,cJ,cY,Ym],a1,.agg #[gg,gj,fq]] bZ (ah1 λfe fk fX iB jn gG nU jl Yq fm=>K3 w w0 w1 bZ fm (
 Sw fm w #[fe,fk,fX,iB,jn,gG,nU,jl,Yq] λgI=>
 ∃n17,n17<n4/\aR [gg,gj,fq]/\aR A/\I3 n17 ((aC (x6+1))) fe fk fX iB jn gG nU jl Yq gI)))
 (Sw bZ w1 #[x7,x8,x9,bL,bS,cr,cJ,cY,Ym] λpw=>
 R (tO #[x7,x8,x9,bL,bS,cr,cJ,cY,Ym]) pw)) [ai,ai,ai,ai,ai,ai,ai,ai,false]):ab 80 #[.agg #[aM,aI,aP,cO,cR,da,gJ,gC,fB],a1,.agg #[gg,gj,fq]] w R:=
 cq ⟨[(2,⟨[(10,.int .i64)],[(0,[.int .i64,.int .i64,.int .i64,.int .i64,.int .i64,.int .i64,.int .i64,.int .i64,.bool])],[]⟩)],[],[]⟩ func80 h
def DQ.vc{fB:Bool}{a1:Value}(h:(λA B C D E G H=>
 Aw w H 75 λw0=>
 Aw w0 #[gg,gj,fq] 73 λw1=>
 Aw w1 #[ai,ai,ai,ai,ai,ai,ai,ai,false] 75 λw2=>
 ab 149 #[.agg H] w2 (C2 λx4 x5 x6 x7 x8 x9 w3=>(λAa Ab Ac Ad=>K3 w w0 w1 w2 w3 (
 Aw w3 C 202 λbr=>
 Sw br w3 Ab λbE=>(λAe=>
 ∃CK:Option Addr->wPp,
 ((ab 205 D bE.drew (mg λcY dn dw bw=>(λAf Ag Ah=>Ac bE.drew bw (
 ah bw Ad 0 Aa/\(ab 212 Af bw (pa λdc dQ fe fk fX iB b24 b25 Wh cP=>Ac bw cP (
 (Aw cP C 202 λgO=>
 Aw gO E 253 λiZ=>
 Sw iZ cP #[dc,dQ,fe,fk,fX,iB] λgI=>
 Wt gI ⟨gO,0,none⟩ 3/\Nb gO w/\Nb gO w0/\Nb gO w1/\Nb gO w3/\Nb gO cP/\(Pw gI (aB gO) [.bool b24,b25,Wh] λpw=>
 aR B/\aR G/\aR A/\aR Aa/\CK (aB cP) pw))/\(Aw cP E 253 λia=>
 Aw ia C 202 λsY=>
 Sw sY ia #[dc,dQ,fe,fk,fX,iB] λjV=>
 Wt jV ⟨cP,0,none⟩ 3/\Nb cP w/\Nb cP w0/\Nb cP w1/\Nb cP w3/\Nb cP ia/\(Pw jV (aB cP) [.bool b24,b25,Wh] λke=>
 aR B/\aR G/\aR A/\aR Aa/\CK (aB ia) ke)))))/\(Aw bw C 202 λiD=>
 (ab 212 Af iD (pa λmO nC rq rE kA yT b43 b44 b45 mG=>Ah iD mG (
 Aw mG E 253 λIw=>
 Sw Iw bw #[mO,nC,rq,rE,kA,yT] λoE=>
 Wt oE ⟨mG,0,none⟩ 3/\Nb mG w/\Nb mG w0/\Nb mG w1/\Nb mG w3/\Nb mG bw/\(Pw oE (aB mG) [.bool b43,b44,b45] λlI=>
 aR B/\aR G/\aR A/\aR Aa/\CK Ag lI))))/\(Aw iD E 253 λnB=>
 ab 212 Af nB (pa λvp tG lU CI vS OY b57 b58 b59 yR=>Ah nB yR (
 Sw yR bw #[vp,tG,lU,CI,vS,OY] λlV=>
 Wt lV ⟨iD,0,none⟩ 3/\Nb iD w/\Nb iD w0/\Nb iD w1/\Nb iD w3/\Nb iD bw/\(Pw lV (aB iD) [.bool b57,b58,b59] λvr=>
 aR B/\aR G/\aR A/\aR Aa/\CK Ag vr)))))/\(Aw bw E 253 λjU=>
 (ab 212 Af jU (pa λLb Be rG yB vT yD b70 b71 b72 Ov=>Ac jU Ov (
 Aw Ov C 202 λJu=>
 Sw Ju Ov #[Lb,Be,rG,yB,vT,yD] λCE=>
 Wt CE ⟨bw,0,none⟩ 3/\Nb bw w/\Nb bw w0/\Nb bw w1/\Nb bw w3/\Nb bw Ov/\(Pw CE Ag [.bool b70,b71,b72] λuh=>
 aR B/\aR G/\aR A/\aR Aa/\CK (aB Ov) uh))))/\(Aw jU C 202 λpB=>
 ab 212 Af pB (pa λx78 Yl Oy H9 Ev O0 b84 b85 b86 uc=>K5 w w0 w1 w3 jU pB uc (
 Sw uc jU #[x78,Yl,Oy,H9,Ev,O0] λIx=>
 Wt Ix ⟨bw,0,none⟩ 3/\Nb bw w/\Nb bw w0/\Nb bw w1/\Nb bw w3/\Nb bw jU/\(Pw Ix Ag [.bool b84,b85,b86] λTW=>
 aR B/\aR G/\aR A/\aR Aa/\CK (aB jU) TW))))))) #[a1,.agg Ab,.agg #[cY,dn,dw]] (aB bw) (K5 w w0 w1 w3 bw)))/\(Aw bE.drew C 202 λwB=>
 (ab 205 D wB (mg λOz Tf Wi rF=>(λAi=>Ac wB rF (
 ox bE wB rF/\
 ah rF Ad 0 Aa/\(ab 212 Ai rF (pa λWj Wk La x98 Yr Bi anO anP af3 Iy=>Ac rF Iy (
 ox bE rF Iy/\
 Aw Iy E 253 λabP=>
 Sw abP bE.drew.heap.size #[Wj,Wk,La,x98,Yr,Bi] λBj=>
 Wt Bj ⟨Iy,0,none⟩ 3/\Nb Iy w/\Nb Iy w0/\Nb Iy w1/\Nb Iy w3/\bM (aB Iy)≠some bE.drew.heap.size/\(Pw Bj (aB Iy) [.bool anO,anP,af3] λyI=>
 aR B/\aR G/\aR A/\aR Aa/\CK Ae yI))))/\(Aw rF E 253 λIa=>
 ab 212 Ai Ia (pa λru lJ yH lK Wn af4 abN Tg anQ Wp=>Ac Ia Wp (
 ox bE Ia Wp/\
 Sw Wp bE.drew.heap.size #[ru,lJ,yH,lK,Wn,af4] λoF=>
 Wt oF ⟨rF,0,none⟩ 3/\Nb rF w/\Nb rF w0/\Nb rF w1/\Nb rF w3/\bM (aB rF)≠some bE.drew.heap.size/\(Pw oF (aB rF) [.bool abN,Tg,anQ] λJv=>
 aR B/\aR G/\aR A/\aR Aa/\CK Ae Jv)))))) #[a1,.agg Ab,.agg #[Oz,Tf,Wi]]))/\(Aw wB E 253 λEz=>
 ab 205 D Ez (mg λaf5 Wq Ws CL=>Ac Ez CL (
 ox bE Ez CL/\
 ah CL Ad 0 Aa/\ab 212 #[a1,.agg Ab,.agg #[af5,Wq,Ws]] CL (pa λIb Wu af6 af7 af8 af9 anR anT anU oG=>Ac CL oG (
 ox bE CL oG/\
 Sw oG bE.drew.heap.size #[Ib,Wu,af6,af7,af8,af9] λaga=>
 Wt aga ⟨wB,0,none⟩ 3/\Nb wB w/\Nb wB w0/\Nb wB w1/\Nb wB w3/\bM (aB wB)≠some bE.drew.heap.size/\(Pw aga (aB wB) [.bool anR,anT,anU] λanV=>
 aR B/\aR G/\aR A/\aR Aa/\CK Ae anV)))))))/\(Aw bE.drew E 253 λvu=>
 (ab 205 D vu (mg λWv agb anW ta=>(λAj=>Ac vu ta (
 ah ta Ad 0 Aa/\(ab 212 Aj ta (pa λanX agc agd age Th agf anY anZ an1 rz=>Ac ta rz (
 Aw rz C 202 λan2=>
 Sw an2 rz #[anX,agc,agd,age,Th,agf] λagh=>
 Wt agh ⟨bE.drew.heap.size,0,none⟩ 3/\Nq Ae w/\Nq Ae w0/\Nq Ae w1/\Nq Ae w3/\Nq Ae rz/\(Pw agh Ae [.bool anY,anZ,an1] λan3=>
 aR B/\aR G/\aR A/\aR Aa/\CK (aB rz) an3))))/\(Aw ta C 202 λagi=>
 ab 212 Aj agi (pa λan4 an5 an6 an7 an8 an9 aoa aob aoc agj=>K5 w w0 w1 w3 ta agi agj (
 Sw agj ta #[an4,an5,an6,an7,an8,an9] λagk=>
 Wt agk ⟨bE.drew.heap.size,0,none⟩ 3/\Nq Ae w/\Nq Ae w0/\Nq Ae w1/\Nq Ae w3/\Nq Ae ta/\(Pw agk Ae [.bool aoa,aob,aoc] λaod=>
 aR B/\aR G/\aR A/\aR Aa/\CK (aB ta) aod)))))) #[a1,.agg Ab,.agg #[Wv,agb,anW]]))/\(Aw vu C 202 λagl=>
 ab 205 D agl (mg λagm agn ago OJ=>K5 w w0 w1 w3 vu agl OJ (
 ah OJ Ad 0 Aa/\ab 212 #[a1,.agg Ab,.agg #[agm,agn,ago]] OJ (pa λagp CM aoe aof aog aoh aoi aoj aok agq=>K5 w w0 w1 w3 vu OJ agq (
 Sw agq vu #[agp,CM,aoe,aof,aog,aoh] λagr=>
 Wt agr ⟨bE.drew.heap.size,0,none⟩ 3/\Nq Ae w/\Nq Ae w0/\Nq Ae w1/\Nq Ae w3/\Nq Ae vu/\(Pw agr Ae [.bool aoi,aoj,aok] λaol=>
 aR B/\aR G/\aR A/\aR Aa/\CK (aB vu) aol))))))))/\
 ∀arZ:Nat->Value,∀(Jw:Option Addr)(ajL:World),CK Jw ajL->
 aO (eE Jw) (gU ajL.drew (ae Jw 0) λTk abQ aon=>
 ab 207 #[.agg #[Tk,abQ,aon],.agg #[x4,x5,x6]] ajL.drew (mg λEC aoo EB abS=>Ac ajL.drew abS (
 ah abS w 0 [aM,aI,aP]/\ab 206 #[.agg #[aM,aI,aP],.agg #[EC,aoo,EB]] abS (mg λpJ Ww ags aor=>(λAk=>Ac abS aor (
 Sw aor w Ak λar2=>
 Sw ar2 w1 Ak λyJ=>
 R (Value.agg Ak) yJ)) #[pJ,Ww,ags,cO,cR,da,gJ,gC,fB]))))) (aB bE.drew.heap.size))) [x4,x5,x6,x7,x8,x9] #[x4,x5,x6,x7,x8,x9] (K4 w w0 w1 w3) (aB w3))) [ai,ai,ai,ai,ai,ai,ai,ai,false] [aM,aI,aP,cO,cR,da,gJ,gC,fB] #[ai,ai,ai,ai,ai,ai] #[.agg #[aM,aI,aP,cO,cR,da,gJ,gC,fB],.agg #[gg,gj,fq]] #[false,false,false] [gg,gj,fq] #[aM,aI,aP,cO,cR,da,gJ,gC,fB]):ab 144 #[.agg #[aM,aI,aP,cO,cR,da,gJ,gC,fB],a1,.agg #[gg,gj,fq]] w R:=
 cq ⟨[],[(3,⟨[(8,.ptr)],[],[]⟩)],[]⟩ func144 h
def ah2.vc{a0:Value}(h:
 rP (λI0 n1=>I0 n1 (0) w) λI0 n1 Bn x3 w4=>
 Br (x3<3)
 (bu Tryz.prog a0 [x3] w4 (yM λb7 w6=>Br (!b7)
 (R false w6)
 (∃n5,n5<n1/\I0 n5 ((aC (x3+1))) w6)))
 (R true w4)):ab 215 #[a0] w R:=
 cq (Mq 2 4) func215 h
def IN.vc{c0:Addr}{c1:Addr}(h:(λA B=>
 gU w.drew (ae (some c0) 0) λx0 x1 x2=>
 gU w.drew A λx3 x4 x5=>
 ab 210 #[.agg #[x0,x1,x2],a0] w.drew (fw λx7 w6=>ah w6 A 0 [x3,x4,x5]/\ab 210 #[.agg #[x3,x4,x5],a0] w6 (fw λx9 w8=>Br (x7<x9)
 (gU w8 (ae (some c1) 0) λbL bS cr=>
 gU w8 B λcJ cY dn=>
 ab 210 #[.agg #[bL,bS,cr],a0] w8 (fw λdO bZ=>ah bZ B 0 [cJ,cY,dn]/\ab 210 #[.agg #[cJ,cY,dn],a0] bZ (fw λdQ dA=>R (Ga (decide (dO<dQ))) dA)))
 (R false w8)))) (ae (some c1) 3) (ae (some c0) 3)):ab 216 #[a0,c0,c1] w R:=
 cq bz func216 h
def PZ.vc(h:
 Aw w #[aM,aI,aP,cO,cR,da] 202 λw0=>
 Aw w0 #[aG,aH,aS,eU,ja,jb] 202 λw1=>
 ab 215 #[.func (.func 216) #[] #[w,.pointer (aB w0)]] w1 (yM λb3 w2=>R b3 w2)):ab 148 #[.agg #[aM,aI,aP,cO,cR,da],.agg #[aG,aH,aS,eU,ja,jb]] w R:=
 cq bz func148 h
def P2.vc{c0:Addr}{c1:Addr}(h:(λA B C=>
 gU w.drew (ae (some c0) 3) λx0 x1 x2=>
 gU w.drew C λx3 x4 x5=>
 gU w.drew B λx6 x7 x8=>
 gU w.drew A λx9 bL bS=>
 ab 210 #[.agg #[x0,x1,x2],a0] w.drew (fw λcJ bN=>ah bN A 0 [x9,bL,bS]/\ah bN B 0 [x6,x7,x8]/\ah bN C 0 [x3,x4,x5]/\ab 210 #[.agg #[x3,x4,x5],a0] bN (fw λdn cp=>ah cp A 0 [x9,bL,bS]/\ah cp B 0 [x6,x7,x8]/\ab 210 #[.agg #[x6,x7,x8],a0] cp (fw λdO bZ=>ah bZ A 0 [x9,bL,bS]/\ab 210 #[.agg #[x9,bL,bS],a0] bZ (fw λdQ dA=>R ((aC ((if dn<cJ then dn else cJ)-(if dQ>dO then dQ else dO)))) dA))))) (ae (some c1) 0) (ae (some c0) 0) (ae (some c1) 3)):ab 209 #[a0,c0,c1] w R:=
 cq bz func209 h
def Za.vc{fB:Bool}{Ox:Bool}(h:(λ(A:LV)(B:LV)(C:Array Value)(D:LV)(E:Array Value)(G:Array Value)(H:Array Value)=>
 Aw w #[aM,aI,aP,cO,cR,da,gJ,gC,fB] 75 λw0=>(λAa=>
 Aw w0 #[aG,aH,aS,eU,ja,jb,Wf,Wg,Ox] 75 λw1=>
 Aw w1 H 73 λw2=>(λAb=>
 Aw w2 H 73 λw3=>(λAc=>
 ∃J4:Option Addr->Option Addr->wPp,
 ((ab 149 G w3.drew (C2 λx6 x7 x8 x9 bL bS w5=>(λ(Ad:Array Value) Ae Af=>Ab w3.drew w5 (
 ah w5 Aa 0 A/\(ab 149 E w5 (C2 λcJ cY dn dw dO dc bN=>Ab w5 bN (
 (Aw bN C 202 λfm=>
 Aw fm C 202 λeQ=>
 Sw eQ bN Ad λdi=>
 Sw di fm #[cJ,cY,dn,dw,dO,dc] λdh=>
 aR B/\aR A/\aR D/\aR D/\J4 (aB bN) (aB fm) dh)/\(Aw bN C 202 λjE=>
 Aw jE C 202 λie=>
 Sw ie jE Ad λdL=>
 Sw dL bN #[cJ,cY,dn,dw,dO,dc] λkN=>
 aR B/\aR A/\aR D/\aR D/\J4 (aB jE) (aB bN) kN))))/\(Aw w5 C 202 λgO=>
 (ab 149 E gO (C2 λkz tF oO mP gA jW iZ=>Af gO iZ (
 Aw iZ C 202 λiD=>
 Sw iD w5 Ad λmG=>
 Sw mG iZ #[kz,tF,oO,mP,gA,jW] λjD=>
 aR B/\aR A/\aR D/\aR D/\J4 Ae (aB iZ) jD)))/\(Aw gO C 202 λtH=>
 ab 149 E tH (C2 λrE kA yT vU qE xm lG=>K6 w w0 w1 w2 w5 gO tH lG (
 Sw lG w5 Ad λIw=>
 Sw Iw gO #[rE,kA,yT,vU,qE,xm] λoE=>
 aR B/\aR A/\aR D/\aR D/\J4 Ae (aB gO) oE))))/\(Aw w5 C 202 λlI=>
 (ab 149 E lI (C2 λBa vp tG lU CI vS nB=>Af lI nB (
 Aw nB C 202 λyC=>
 Sw yC nB Ad λnv=>
 Sw nv w5 #[Ba,vp,tG,lU,CI,vS] λvQ=>
 aR B/\aR A/\aR D/\aR D/\J4 (aB nB) Ae vQ)))/\(Aw lI C 202 λpH=>
 ab 149 E pH (C2 λKY rD Bo Lb Be rG lV=>K6 w w0 w1 w2 w5 lI pH lV (
 Sw lV lI Ad λpI=>
 Sw pI w5 #[KY,rD,Bo,Lb,Be,rG] λE8=>
 aR B/\aR A/\aR D/\aR D/\J4 (aB lI) Ae E8)))))) #[x6,x7,x8,x9,bL,bS] (aB w5) (K5 w w0 w1 w2 w5)))/\(Aw w3.drew C 202 λOZ=>
 (ab 149 G OZ (C2 λBf DB K0 O1 Lc O2 wu=>Ab OZ wu (
 ox w3 OZ wu/\
 ah wu Aa 0 A/\(ab 149 E wu (C2 λx78 Yl Oy H9 Ev O0 uc=>Ab wu uc (
 ox w3 wu uc/\
 Aw uc C 202 λw84=>
 Sw w84 w3.drew.heap.size #[Bf,DB,K0,O1,Lc,O2] λw85=>
 Sw w85 uc #[x78,Yl,Oy,H9,Ev,O0] λw86=>
 aR B/\aR A/\aR D/\aR D/\J4 Ac (aB uc) w86)))/\(Aw wu C 202 λIx=>
 ab 149 E Ix (C2 λx89 x90 Oz Tf Wi x94 TW=>Ab Ix TW (
 ox w3 Ix TW/\Kp wu Ix TW/\
 Sw TW w3.drew.heap.size #[Bf,DB,K0,O1,Lc,O2] λw95=>
 Sw w95 wu #[x89,x90,Oz,Tf,Wi,x94] λIz=>
 aR B/\aR A/\aR D/\aR D/\J4 Ac (aB wu) Iz))))))/\(Aw OZ C 202 λw97=>
 ab 149 G w97 (C2 λYr Bi pK Bg Ew Wl w98=>Ab w97 w98 (
 ox w3 w97 w98/\Kp OZ w97 w98/\
 ah w98 Aa 0 A/\ab 149 E w98 (C2 λJs Ey Tm ru lJ yH Bj=>Ab w98 Bj (
 ox w3 w98 Bj/\Kp OZ w98 Bj/\
 Sw Bj w3.drew.heap.size #[Yr,Bi,pK,Bg,Ew,Wl] λBh=>
 Sw Bh OZ #[Js,Ey,Tm,ru,lJ,yH] λWy=>
 aR B/\aR A/\aR D/\aR D/\J4 Ac (aB OZ) Wy))))))/\(Aw w3.drew C 202 λJA=>
 (ab 149 G JA (C2 λar3 ar4 ar5 agx abT ajM ED=>Ab JA ED (
 ox w3 JA ED/\
 ah ED Aa 0 A/\(ab 149 E ED (C2 λWq Ws aot Ib Wu af6 yK=>Ab ED yK (
 ox w3 ED yK/\
 Aw yK C 202 λaxR=>
 Sw axR yK #[ar3,ar4,ar5,agx,abT,ajM] λaxS=>
 Sw axS w3.drew.heap.size #[Wq,Ws,aot,Ib,Wu,af6] λaxT=>
 aR B/\aR A/\aR D/\aR D/\J4 (aB yK) Ac axT)))/\(Aw ED C 202 λTn=>
 ab 149 E Tn (C2 λaou aov aow aox aoy Wv ajN=>Ab Tn ajN (
 ox w3 Tn ajN/\Kp ED Tn ajN/\
 Sw ajN ED #[ar3,ar4,ar5,agx,abT,ajM] λaxU=>
 Sw axU w3.drew.heap.size #[aou,aov,aow,aox,aoy,Wv] λaxV=>
 aR B/\aR A/\aR D/\aR D/\J4 (aB ED) Ac axV))))))/\(Aw JA C 202 λrz=>
 ab 149 G rz (C2 λagc agd age Th agf axW To=>Ab rz To (
 ox w3 rz To/\Kp JA rz To/\
 ah To Aa 0 A/\ab 149 E To (C2 λaxX axY axZ ax0 ax1 ax2 ajO=>Ab To ajO (
 ox w3 To ajO/\Kp JA To ajO/\
 Sw ajO JA #[agc,agd,age,Th,agf,axW] λax3=>
 Sw ax3 w3.drew.heap.size #[axX,axY,axZ,ax0,ax1,ax2] λax4=>
 aR B/\aR A/\aR D/\aR D/\J4 (aB JA) Ac ax4)))))))/\
 ∀aCC:Nat->Value,∀(Tp Tq:Option Addr)(agy:World),J4 Tp Tq agy->
 C3 agy Tp λax5 ax6 ax7 ajP ax8 ax9=>
 C3 agy Tq λaya agm agn ago ayb agp=>
 ab 148 #[.agg #[ax5,ax6,ax7,ajP,ax8,ax9],.agg #[aya,agm,agn,ago,ayb,agp]] agy (Rb λayc Tr=>Ab agy Tr (
 Br (!ayc)
 (Sw Tr w1 H λar6=>
 Sw ar6 w2 H λar7=>
 R (eP #[.agg H,.agg H]) ar7)
 (∃aoz:Int->wPp,
 (ab 209 #[ai,Tp,Tq] Tr (Ri λayd ajQ=>Ab Tr ajQ (
 ab 209 #[(2:Int),Tp,Tq] ajQ (Ri λaye ajR=>Ab ajQ ajR (
 Br (ayd>aye)
 (aR B/\aR A/\aR D/\aR D/\aoz (2) ajR)
 (aR B/\aR A/\aR D/\aR D/\aoz (0) ajR))))))/\
 ∀aCD:Nat->Value,∀(abU:Int)(aoA:World),aoz abU aoA->
 ∃ar8:Int->wPp,
 (ab 209 #[abU,Tp,Tq] aoA (Ri λabQ Ti=>Ab aoA Ti (
 aR B/\aR A/\aR D/\aR D/\ar8 ((if 4096<abQ then 4096 else abQ)) Ti)))/\
 ∀aCE:Nat->Value,∀(EA:Int)(Jz:World),ar8 EA Jz->
 ∃aoB:Int->wPp,
 (ab 210 #[.agg #[aM,aI,aP],abU] Jz.drew (Ri λJy abV=>Ab Jz.drew abV (
 ah abV Aa 0 [aG,aH,aS]/\ab 210 #[.agg #[aG,aH,aS],abU] abV (Ri λWw Tj=>Ab abV Tj (
 Br (Jy<=Ww)
 (aR B/\aR A/\aR D/\aR D/\aoB ((aC (0-EA))) Tj)
 (aR B/\aR A/\aR D/\aR D/\aoB EA Tj))))))/\
 ∀aCF:Nat->Value,∀(Wx:Int)(yJ:World),aoB Wx yJ->
 ab 211 #[.agg H,abU,Wx] yJ (mg λar9 asa JB agz=>Ab yJ agz (
 ab 211 #[.agg H,abU,(aC (0-Wx))] agz (mg λagt agu agA aoC=>Ab agz aoC (
 Sw aoC w1 #[ar9,asa,JB] λasb=>
 Sw asb w2 #[agt,agu,agA] λasc=>
 R (eP #[.agg #[ar9,asa,JB],.agg #[agt,agu,agA]]) asc)))))))) (aB w3.drew.heap.size)) (K4 w w0 w1 w2)) (aB w0)) [aG,aH,aS,eU,ja,jb,Wf,Wg,Ox] [aM,aI,aP,cO,cR,da,gJ,gC,fB] #[ai,ai,ai,ai,ai,ai] [ai,ai,ai] #[.agg #[aG,aH,aS,eU,ja,jb,Wf,Wg,Ox]] #[.agg #[aM,aI,aP,cO,cR,da,gJ,gC,fB]] #[ai,ai,ai]):ab 143 #[.agg #[aM,aI,aP,cO,cR,da,gJ,gC,fB],.agg #[aG,aH,aS,eU,ja,jb,Wf,Wg,Ox]] w R:=
 cq ⟨[],[(11,⟨[(10,.int .i64)],[],[]⟩),(9,⟨[(10,.int .i64)],[],[]⟩),(8,⟨[(9,.int .i64)],[],[]⟩),(2,⟨[(6,.ptr),(7,.ptr)],[],[]⟩)],[]⟩ func143 h
def zF.vc{a0:Sl}(h:
 Br (a0.a).isNone
 (R (Value.slice none 0 0) w)
 (Aw w #[] 75 λw0=>
 ∃l1:LV,Rd w0 a0.a l1/\bj 72 9 w0 ⟨(aB w),0,0⟩ a0.n l1/\∀(s2:Sl)(w3:World),aY 75 9 w0 ⟨(aB w),0,0⟩ a0.n l1 s2 w3->Kp w w0 w3/\
 R s2 w3)):ab 142 #[a0] w R:=
 cq bz func142 h
def Uz.vc{a0:Value}{a1:Sl}(h:(λA=>
 ab 142 #[a1] w (rA λs1 w0=>rP (λI2 n3=>I2 n3 (0) w0) λI2 n3 us4 x5 w6=>(λAa Ab=>
 Br (decide (x5<((s1.n:Nat):Int)))
 (rP (λI8 n9=>I8 n9 Ab w6) λI8 n9 agB bS bN=>(λAc Ad=>
 Br (decide (bS<((s1.n:Nat):Int)))
 (∃J14:Option Addr->Option Addr->wPp,
 (gD s1.a x5 s1.n/\jR bN.drew Aa λdn dw dO dc dQ fe fk fX b23=>(λAe=>
 gD s1.a bS s1.n/\jR bN.drew Ac λjn gG nU jl rC kz tF oO b32=>(λAf=>
 (ab 143 Af bN.drew (adq λjW py oP mO nC rq jV=>(Aw jV A 73 λnT=>
 Aw nT A 73 λkO=>
 Sw kO jV #[jW,py,oP] λnS=>
 Sw nS nT #[mO,nC,rq] λiO=>
 J14 (aB jV) (aB nT) iO)/\(Aw jV A 73 λkf=>
 Aw kf A 73 λue=>
 Sw ue kf #[jW,py,oP] λIw=>
 Sw Iw jV #[mO,nC,rq] λoE=>
 J14 (aB kf) (aB jV) oE)))/\(Aw bN.drew A 73 λlI=>
 (ab 143 Af lI (adq λBa vp tG lU CI vS nB=>ox bN lI nB/\
 Aw nB A 73 λyC=>
 Sw yC bN.drew.heap.size #[Ba,vp,tG] λnv=>
 Sw nv nB #[lU,CI,vS] λvQ=>
 J14 Ad (aB nB) vQ))/\(Aw lI A 73 λpH=>
 ab 143 Af pH (adq λKY rD Bo Lb Be rG lV=>ox bN pH lV/\Kp lI pH lV/\
 Sw lV bN.drew.heap.size #[KY,rD,Bo] λpI=>
 Sw pI lI #[Lb,Be,rG] λE8=>
 J14 Ad (aB lI) E8)))/\(Aw bN.drew A 73 λOZ=>
 (ab 143 Af OZ (adq λBf DB K0 O1 Lc O2 wu=>ox bN OZ wu/\
 Aw wu A 73 λuc=>
 Sw uc wu #[Bf,DB,K0] λuf=>
 Sw uf bN.drew.heap.size #[O1,Lc,O2] λK9=>
 J14 (aB wu) Ad K9))/\(Aw OZ A 73 λH5=>
 ab 143 Af H5 (adq λEv O0 TV x85 x86 xl wA=>ox bN H5 wA/\Kp OZ H5 wA/\
 Sw wA OZ #[Ev,O0,TV] λTW=>
 Sw TW bN.drew.heap.size #[x85,x86,xl] λwB=>
 J14 (aB OZ) Ad wB)))) #[.agg Ae,.agg #[jn,gG,nU,jl,rC,kz,tF,oO,b32]]) #[dn,dw,dO,dc,dQ,fe,fk,fX,b23])/\
 ∀ayf:Nat->Value,∀(p91 p92:Option Addr)(Ld:World),J14 p91 p92 Ld->
 ∃J94:wPp,
 (gD s1.a x5 s1.n/\jR Ld.drew Aa λWj Wk La x98 Yr Bi pK Bg af3=>
 gU Ld.drew p91 λWl Ex Js=>
 ab 144 #[.agg #[Wj,Wk,La,x98,Yr,Bi,pK,Bg,af3],a0,.agg #[Wl,Ex,Js]] Ld.drew (ah1 λTm ru lJ yH lK Wn af4 ayg Tg Ia=>gD s1.a x5 s1.n/\((Aa).isSome=true/\Wr Ia Aa 9)/\(Pw Ia Aa [Tm,ru,lJ,yH,lK,Wn,af4,ayg,Tg] λWo=>
 J94 Wo)))/\
 ∀aCJ:Nat->Value,∀(Jv:World),J94 Jv->
 gD s1.a bS s1.n/\jR Jv.drew Ac λabT ajM af5 Wq Ws aot Ib Wu anN=>
 gU Jv.drew p92 λaf7 af8 af9=>
 ab 144 #[.agg #[abT,ajM,af5,Wq,Ws,aot,Ib,Wu,anN],a0,.agg #[af7,af8,af9]] Jv.drew (ah1 λayh aou aov aow aox aoy Wv agb ayi Tn=>gD s1.a bS s1.n/\((Ac).isSome=true/\Wr Tn Ac 9)/\(Pw Tn Ac [ayh,aou,aov,aow,aox,aoy,Wv,agb,ayi] λrz=>
 ∃n13,n13<n9/\I8 n13 ((aC (bS+1))) rz)))
 (∃n7,n7<n3/\I2 n7 Ab bN)) (ae s1.a ((bS:Int).toNat*9)) (aB bN.drew.heap.size))
 (R s1 w6)) (ae s1.a ((x5:Int).toNat*9)) ((aC (x5+1))))) #[ai,ai,ai]):ab 82 #[a0,a1] w R:=
 cq ⟨[(6,⟨[(7,.int .i64)],[],[]⟩),(3,⟨[(14,.int .i64)],[],[]⟩)],[(10,⟨[],[],[]⟩),(9,⟨[(8,.ptr),(9,.ptr)],[],[]⟩)],[]⟩ func82 h
def zA{w v:World}{o:Obj}(e:v=w.alloc o):v.heap.size=w.heap.size+1:=by rw[e];simp
def zR{w v:World}{g:Nat}{c:Array Value}(e:v=w.setRow g c):v.heap.size=w.heap.size:=by rw[e];simp
def Qh{v:Value}{V:Ce->Int}{w:World}(hV:Tl v V w)(hv:kq v=[])(b:Bx):ed 202 #[v,xB b] w (Value.bool (j8 V b λx=>x==4)):=by
 apply Ml.vc;intro w0 e0;have x0:=aU e0;have z0:=zA e0;refine(Gm (hV.ext x0) hv b (.func (.func 261) #[] #[]) rfl (λx=>x==4) λx w'=>bR (by kernel_rfl) rfl (Mm.vc ⟨rfl,Ext.bT _⟩)).bf λw1 x1=>?_
 exact⟨_,rfl,x1.k,rfl,x0.tr x1⟩
def Zk{v:Value}{V:Ce->Int}{w:World}(hV:Tl v V w)(hv:kq v=[])(b:Bx):ed 203 #[v,xB b] w (Value.bool (j8 V b rW)):=by
 apply Y8.vc;intro w0 e0;have x0:=aU e0;have z0:=zA e0;refine(Gm (hV.ext x0) hv b (.func (.func 262) #[] #[]) rfl rW λx w'=>bR (by kernel_rfl) rfl ((oZ x w').mono ?_)).mono ?_
 ·rintro e w'' ⟨rfl,rfl⟩;exact⟨rfl,Ext.bT _⟩
 rintro e w1 ⟨rfl,x1⟩;exact⟨_,rfl,x1.k,rfl,x0.tr x1⟩
def vG(n:Int)(w:World):kh 258 #[n] w (Value.tuple #[.int .u64 (max (dD n) (-(dD n))),.bool (decide (dD n<0))]):=by
 apply Uy.vc;refine(gV n w).eL ?_;have hc:=sw n;refine⟨_,rfl,Br.mk (λh=>?_) (λh=>?_)⟩
 ·have h':dD n<0:=by simpa using h
  rw[wI,xJ aa,h];exact⟨by rw[show max (dD n) (-(dD n))=0-dD n from by omega],rfl⟩
 ·have h':¬dD n<0:=by simpa using h
  rw[xJ aa,h];exact⟨by rw[show max (dD n) (-(dD n))=dD n from by omega],rfl⟩
def Xp{x:Int}(h:0<=x/\x<4294967296):tI .u64 x 4294967295=x:=by
 unfold tI;have e:(BitVec.ofInt IntKind.u64.bits x &&&BitVec.ofInt IntKind.u64.bits 4294967295).toNat=x.toNat:=by
  show(BitVec.ofInt 64 x &&&BitVec.ofInt 64 4294967295).toNat=_;rw[zL];have h1:(BitVec.ofInt 64 4294967295).toNat=2^32-1:=by decide
  rw[h1,Nat.and_two_pow_sub_one_eq_mod,zg];omega
 rw[e,Int.toNat_of_nonneg h.1];exact xJ aa
def p32:(2^(min (32:Int).toNat 64):Int)=4294967296:=by decide
def UL(x:Int)(h:0<=x/\x<=65536)(w:World):kh 259 #[.int .u64 x,.int .u64 16384] w (Value.tuple #[.int .u64 0,.int .u64 (x*16384)]):=by
 apply DM.vc;have f:∀y:Int,y.fdiv 4294967296=y/4294967296:=λy=>tj _ au
 have q1:x/4294967296=0:=by omega
 have q3:x*16384/4294967296=0:=by omega
 rw[p32,Xp (x:=x) aa,Xp (x:=16384) aa];simp only[f];rw[q1,show(16384:Int)/4294967296=0 from by decide,xJ (n:=x*16384) aa,q3,Int.zero_mul,Int.zero_mul,Int.mul_zero];exact⟨congrArg (λn=>Ending.returned (.tuple #[.int .u64 n,.int .u64 (x*16384)])) au,trivial⟩
def aic(q:Int)(hq:0<=q/\q<=100000000000000)(below rest:Bool){c0 c1:Nat}{w:World}{τ τ':TypeId}(h0:Row w c0 [.bool below] τ)(h1:Row w c1 [.bool rest] τ'):
  ab 318 #[.int .u64 q,c0,c1] w λe w'=>e=Value.int .u64 (if below=true/\rest=true then q+1 else q)/\w'=w:=by
 apply IM.vc;refine⟨below,h0.at 0 rfl,?_⟩
 cases below with
 |false=>exact⟨rfl,rfl⟩
 |true=>
  refine⟨rest,h1.at 0 rfl,?_⟩
  cases rest with
  |false=>exact⟨rfl,rfl⟩
  |true=>exact⟨by rw[xJ aa];rfl,rfl⟩
def Gn(q:Int)(hq:0<=q/\q<=100000000000000)(rest below:Bool)(w:World):ed 260 #[.int .u64 q,rest,below] w (vI (if below=true then -(if rest=true then q+1 else q)else q)):=by
 apply PY.vc;intro w0 e0 w1 e1;have x0:=aU e0;have z0:=zA e0;have r0:Row w0 w [.bool rest] 4:=Row.nw e0;have x1:=aU e1;have r1:Row w1 w0 [.bool below] 4:=Row.nw e1;refine uN smo ⟨below,r1.at 0 rfl,?_⟩
 cases below with
 |false=>exact⟨by rw[wI];rfl,x0.tr x1⟩
 |true=>
  refine(aic q hq true rest r1 (r0.ext x1)).eL ?_;refine⟨_,rfl,?_⟩;have e:(if(true=true/\rest=true)then q+1 else q)=if rest=true then q+1 else q:=by simp
  rw[e];have hb:0<=(if rest=true then q+1 else q)/\(if rest=true then q+1 else q)<=100000000000001:=by split<;>omega
  generalize (if rest=true then q+1 else q)=y at*;rw[aL (n:=y) inO,wI];exact⟨by rw[if_pos rfl,Int.zero_sub],x0.tr x1⟩
def adE(n:Int)(h: -65536<=n/\n<=65536)(w:World):ed 200 #[n,(16384:Int)] w (Value.int .i64 (n/4)):=by
 apply Y9.vc;refine(vG n w).mono ?_;rintro e w0 ⟨rfl,rfl⟩;have hc:dD n=n:=oz aa;have hd:dD 16384=16384:=by decide
 rw[hc];refine⟨_,_,rfl,(vG 16384 w0).mono ?_⟩;rintro e w3 ⟨rfl,rfl⟩;rw[hd];refine⟨_,_,rfl,(UL (max n (-n)) aa w3).mono ?_⟩;rintro e w6 ⟨rfl,rfl⟩;refine⟨_,_,rfl,uN rfl ?_⟩;have hf:(max n (-n)*16384).fdiv (2^(min (16:Int).toNat 64))=max n (-n)/4:=by rw[p16,tj _ au];omega
 have hr:Int.tmod (max n (-n)*16384) 65536=max n (-n)%4*16384:=by rw[FP aa];omega
 rw[hf,hr];refine(Gn (max n (-n)/4) aa _ _ w6).mono ?_;rintro e bE ⟨rfl,bS⟩;refine⟨_,rfl,?_,bS⟩;have hs:(!(decide (n<0)==decide ((16384:Int)<0)))=decide (n<0):=by
  by_cases q:n<0
  ·rw[decide_eq_true q];rfl
  ·rw[decide_eq_false q];rfl
 rw[hs];congr 2;by_cases q:n<0
 ·rw[decide_eq_true q,if_pos rfl];by_cases q2:max n (-n)%4=0
  ·rw[q2];show -(max n (-n)/4)=n/4;omega
  ·have:(max n (-n)%4*16384 !=0)=true:=by simp;omega
   rw[this,if_pos rfl];omega
 ·rw[decide_eq_false q];show max n (-n)/4=n/4;omega
def C5(n:Int)(w:World):ed 199 #[n] w (vI (Kc n)):=by
 apply zD.vc;have e:(if 65536<(if(-65536)>n then(-65536)else n)then 65536 else(if(-65536)>n then(-65536)else n))=min (max n (-65536)) 65536:=by
  repeat' split
  all_goals omega
 rw[e];refine(adE _ aa w).bf λw1 x1=>?_
 exact⟨_,rfl,rfl,x1⟩
def UM(b:Bx)(v:Ce)(w:World):ed 320 #[xB b,fQ v] w ((xB (adF b v))):=by
 apply adp.vc;intro w0 e0 w1 e1 w2 e2;have x0:=aU e0;have z0:=zA e0;have r0:Row w0 w (pE b) fR:=Row.nw e0;have x1:=aU e1;have z1:=zA e1;have r1:Row w1 w0 (eV v) iq:=Row.nw e1;have x2:Ext w1 w2.drew:=(aU e2).drew;have z2:w2.drew.heap.size=w1.heap.size+1:=(zA e2:w2.heap.size=_);refine(jw b.1 v w2.drew).bf λw3 x3=>?_
 have z3:=x3.size;refine⟨_,_,_,rfl,x3.k,x3.k,x3.k,Lo.wv (r1.ext (x2.tr x3)),tP (r0.ext (x1.tr (x2.tr x3))) rfl rfl rfl,(jw b.2 v w3).bf λw7 x7=>?_⟩;have z7:=x7.size;exact⟨_,_,_,rfl,x7.k,x7.k,x7.k,λbE A8=>⟨rfl,(x0.tr (x1.tr (x2.tr (x3.tr x7)))).af A8 aa⟩⟩
def UN(b:Bx)(ax k:Int)(hk:cH (k+1))(w:World):ed 359 #[xB b,ax,k] w ((xB (sy b ax k))):=by apply PV.vc;rw[aL hk];intro w0 e0 w1 e1;have x0:=aU e0;have z0:=zA e0;have r0:Row w0 w (pE b) fR:=Row.nw e0;have x1:Ext w0 w1.drew:=(aU e1).drew;have z1:w1.drew.heap.size=w0.heap.size+1:=(zA e1:w1.heap.size=_);have r1:=r0.ext x1;refine(sB k w1.drew).eL ?_;refine⟨_,rfl,rfl,rfl,tP r1 rfl rfl rfl,tP r1 rfl rfl rfl,(jh b.1 ax (uM k) w1.drew).bf λw4 x4=>?_⟩;have z4:=x4.size;refine⟨_,_,_,rfl,x4.k,x4.k,tP (r1.ext x4) rfl rfl rfl,(sB (k+1) w4).eL ?_⟩;refine⟨_,rfl,rfl,rfl,tP (r1.ext x4) rfl rfl rfl,(jh b.2 ax (uM (k+1)) _).bf λbr bL=>?_⟩;have z10:=bL.size;exact⟨_,_,_,rfl,bL.k,bL.k,λcp yF=>⟨rfl,(x0.tr (x1.tr (x4.tr bL))).af yF aa⟩⟩
abbrev sE(b:Bx)(ax d:Int):List (LV):=(du b ax d).map λx=>[vI x.1,vI x.2]
abbrev akS(g:Nat):Value:=.func (.func 379) #[] #[g,.pointer (some ⟨g+1,0,none⟩),.pointer (some ⟨g+2,0,none⟩)]
def Qz(b:Bx)(ax d:Int)(w:World):ab 358 #[xB b,ax,d] w λe w'=>e=(akS w)/\Row w' w (pE b) fR/\Row w' (w.heap.size+1) [ax] 3/\Row w' (w.heap.size+2) [d] 3/\Ext w w':=by apply Mn.vc;intro w0 e0 w1 e1 w2 e2;have z0:=zA e0;have z1:=zA e1;have r0:Row w0 w (pE b) fR:=Row.nw e0;have r1:Row w1 w0 [ax] 3:=Row.nw e1;have r2:Row w2 w1 [d] 3:=Row.nw e2;have x1:=aU e1;have x2:=aU e2;rw[z0]at r1;rw[z1,z0]at r2;exact⟨by rw[z1,z0],r0.ext (x1.tr x2),r1.ext x2,r2,(aU e0).tr (x1.tr x2)⟩
def Ni{k:Int}(h: -2147483648<=k/\k<=2147483648):uM k=k*65536:=by unfold uM;omega
def QA(b:Bx)(ax d:Int)(hb:bU b 100000000000000)(hd: -4194304<=d/\d<=4194304)(g:Nat)(W0:World)(h0:Row W0 g (pE b) fR)(h1:Row W0 (g+1) [ax] 3)(h2:Row W0 (g+2) [d] 3):
  Iter Tryz.prog (akS g) W0 (λi=>i=g\/i=g+1\/i=g+2) (sE b ax d):=by
 refine⟨⟨_,_,_,rfl,by kernel_rfl⟩,?_⟩;intro y B J Jx F0 W hB hsJ hsX yQ hRd hround hJ0;refine bR (by kernel_rfl) (by rfl) ?_;apply Gb.vc;have rows:∀{wr:World},(∀i,(i=g\/i=g+1\/i=g+2)->wr.heap[i]? =W0.heap[i]?)->Row wr g (pE b) fR/\Row wr (g+1) [ax] 3/\Row wr (g+2) [d] 3:=λh=>⟨h0.same (h _ (.inl rfl)),h1.same (h _ (.inr (.inl rfl))),h2.same (h _ (.inr (.inr rfl)))⟩
 obtain⟨q0,q1,q2⟩:=rows λi hi=>(hRd i hi).2.2
 have xd:=Ext.dr W;have EI:=hb.ax au ax;refine⟨_,_,_,tP (o:=0) (q0.ext xd) rfl rfl rfl,_,(q1.ext xd).at 0 rfl,_,_,_,tP (o:=3) (q0.ext xd) rfl rfl rfl,_,(q1.ext xd).at 0 rfl,(cW b.1 ax W.drew).bf λw8 x8=>?_⟩;refine⟨_,rfl,Lo.wv (q1.ext (xd.tr x8)),tP (o:=3) (q0.ext (xd.tr x8)) rfl rfl rfl,(cW b.2 ax w8).bf λbr bL=>?_⟩;have xW:=xd.tr (x8.tr bL);refine⟨_,rfl,_,(q2.ext xW).at 0 rfl,?_⟩;obtain⟨Q,hQ⟩:∃Q:Nat->wPp,Q=λk wr=>∃F,J k F wr/\∀i,(i=g\/i=g+1\/i=g+2)->¬F i/\i<wr.heap.size/\wr.heap[i]? =W0.heap[i]? :=⟨_,rfl⟩
 have ext:∀{k:Nat}{wr wr':World},Q k wr->Ext wr wr'->W.heap.size<=wr->Q k wr':=λ{k wr wr'} h x hz=>by rw[hQ]at h⊢;obtain⟨F,hJ,hk⟩:=h;exact⟨F,hsJ _ _ _ _ hJ (Below.mono x aa) λi hi=>x.heap (yQ _ _ _ hJ i hi),λi hi=>⟨(hk i hi).1,gK (hk i hi).2.1 x.size,(x.heap (hk i hi).2.1).trans (hk i hi).2.2⟩⟩
 have init:Q 0 br:=by refine ext (wr:=W) ?_ xW (ak _);rw[hQ];exact⟨F0,hJ0,hRd⟩
 have qrow:∀{k:Nat}{wr:World},Q k wr->Row wr (g+2) [d] 3:=λh=>by rw[hQ]at h;obtain⟨F,-,hk⟩:=h;exact h2.same (hk _ (.inr (.inr rfl))).2.2
 have round:∀{k:Nat}{wr:World}{x:LV},W.heap.size<=wr->(sE b ax d)[k]? =some x->Q k wr->bu Tryz.prog y x wr λe w'=>W.heap.size<=w'.heap.size/\((e=true/\Q (k+1) w')\/(e=false/\∃F',Jx () F' w')):=λ{k wr x} hz hx h=>by
  rw[hQ]at h⊢;obtain⟨F,hJ,hk⟩:=h;refine bJ (hround _ _ _ _ hx hJ) ?_;rintro e w' (⟨rfl,F2,WH,gm⟩|⟨rfl,F2,WH,gm⟩)
  ·refine⟨by have:=gm.size;omega,.inl ⟨rfl,F2,WH,λi hi=>?_⟩⟩;obtain⟨p1,p2,p3⟩:=hk i hi;refine⟨λhf=>?_,gK p2 gm.size,(gm.same i p2 p1).trans p3⟩;rcases gm.sub i hf with hf|hf
   ·exact p1 hf
   ·omega
  ·exact⟨by have:=gm.size;omega,.inr ⟨rfl,F2,WH⟩⟩
 have fin:∀{wr:World},Q (sE b ax d).length wr->∃F',J (sE b ax d).length F' wr:=λh=>by rw[hQ]at h;obtain⟨F,hJ,-⟩:=h;exact⟨F,hJ⟩
 have zW:=xW.size;apply Br.mk<;>intro CG
 ·have CG:=eK CG;have hL:du b ax d=(List.range (upN (dj b.2 ax) d (bY (dj b.2 ax+65535)))).map λi:Nat=>(bY (dj b.2 ax+65535)+i,(bY (dj b.2 ax+65535)+i)*65536-dj b.2 ax):=by unfold du;rw[if_pos CG]
  have Ir:∀{k:Nat},k<upN (dj b.2 ax) d (bY (dj b.2 ax+65535))->(sE b ax d)[k]? =some [vI (bY (dj b.2 ax+65535)+k),vI ((bY (dj b.2 ax+65535)+k)*65536-dj b.2 ax)]:=λ{k} hk=>by unfold sE;rw[hL,aW,aW,Fq hk];rfl
  have cX:(sE b ax d).length=upN (dj b.2 ax) d (bY (dj b.2 ax+65535)):=by unfold sE;rw[hL];simp
  have TD:bY (dj b.2 ax+65535)=(dj b.2 ax+65535)/65536:=by unfold bY;rw[oz aa]
  generalize sE b ax d=xs at*;generalize dj b.2 ax=top at*;generalize dj b.1 ax=low at*;rw[aL (n:=top+65536) inO,aL (n:=top+65536-1) inO,show top+65536-1=top+65535 from by omega];refine(pd (top+65535) br).bf λbw aAd=>?_
  subst aAd;rw[TD]at Ir cX⊢;have ag2:∀i:Nat,((top+65535)/65536+(i:Int))*65536<top+d↔i<upN top d ((top+65535)/65536):=λi=>aiR aa
  have hn:upN top d ((top+65535)/65536)<=100:=by unfold upN;omega
  generalize upN top d ((top+65535)/65536)=N at*;refine⟨_,rfl,λn x wr=>∃k:Nat,x=(top+65535)/65536+k/\k+n=N/\Q k wr/\W.heap.size<=wr,⟨N,0,aa,aa,init,zW⟩,?_⟩;rintro n us x wr ⟨k,rfl,hk,hq,zr⟩;have xr:=Ext.dr wr;have hqd:=ext hq xr zr;have zrd:W.heap.size<=wr.drew.heap.size:=zr;refine⟨_,(qrow hqd).at 0 rfl,(sB _ wr.drew).mono ?_⟩;rw[Ni aa];rintro e dh ⟨rfl,aAe⟩;subst aAe;refine⟨_,rfl,Lo.wv (qrow hqd),?_⟩;rw[aL (n:=top+d) inO];refine Br.mk (λhc=>(sB _ wr.drew).mono ?_) (λhc=>?_)
  ·have hc:=(ag2 k).1 (by simpa using hc);rw[Ni aa];rintro e ie ⟨rfl,aAf⟩;subst aAf;have wq:aC (((top+65535)/65536+(k:Int))*65536-top)=((top+65535)/65536+(k:Int))*65536-top:=wI;have wk:aC ((top+65535)/65536+(k:Int)+1)=(top+65535)/65536+((k+1:Nat):Int):=by rw[wI];omega
   refine⟨_,rfl,?_⟩;rw[wq];refine bJ (round zrd (Ir hc) hqd) ?_;rintro e kN ⟨z26,⟨rfl,hq2⟩|⟨rfl,hx2⟩⟩
   ·exact⟨true,rfl,Br.mk (λh=>by cases h) (λ_=>⟨n-1,aa,k+1,wk,aa,hq2,z26⟩)⟩
   ·exact⟨false,rfl,Br.mk (λ_=>⟨⟨_,rfl⟩,.inr hx2⟩) (λh=>by cases h)⟩
  ·have hc:¬k<N:=λq=>absurd ((ag2 k).2 q) (by simpa using hc)
   have e:k=N:=by omega
   subst e;rw[<-cX]at hqd;exact⟨⟨_,rfl⟩,.inl (fin hqd)⟩
 ·have CG:=eK CG;have hL:du b ax d=(List.range (tA (dj b.1 ax) d (bY (dj b.1 ax)-1))).map λi:Nat=>(bY (dj b.1 ax)-1-i,(bY (dj b.1 ax)-1-i+1)*65536-dj b.1 ax):=by unfold du;rw[if_neg CG]
  have Ir:∀{k:Nat},k<tA (dj b.1 ax) d (bY (dj b.1 ax)-1)->(sE b ax d)[k]? =some [vI (bY (dj b.1 ax)-1-k),vI ((bY (dj b.1 ax)-1-k+1)*65536-dj b.1 ax)]:=λ{k} hk=>by unfold sE;rw[hL,aW,aW,Fq hk];rfl
  have cX:(sE b ax d).length=tA (dj b.1 ax) d (bY (dj b.1 ax)-1):=by unfold sE;rw[hL];simp
  have TD:bY (dj b.1 ax)=dj b.1 ax/65536:=by unfold bY;rw[oz aa]
  generalize sE b ax d=xs at*;generalize dj b.2 ax=top at*;generalize dj b.1 ax=low at*;refine(pd low br).bf λiZ aAg=>?_
  subst aAg;rw[TD]at Ir cX⊢;have ag2:∀i:Nat,low+d<(low/65536-1-(i:Int)+1)*65536↔i<tA low d (low/65536-1):=λi=>aau
  have hn:tA low d (low/65536-1)<=100:=by unfold tA;omega
  generalize tA low d (low/65536-1)=N at*;have ws:aC (low/65536-1)=low/65536-1:=wI;refine⟨_,rfl,?_⟩;rw[ws];refine⟨λn x wr=>∃k:Nat,x=low/65536-1-k/\k+n=N/\Q k wr/\W.heap.size<=wr,⟨N,0,aa,aa,init,zW⟩,?_⟩;rintro n us x wr ⟨k,rfl,hk,hq,zr⟩;have xr:=Ext.dr wr;have hqd:=ext hq xr zr;have zrd:W.heap.size<=wr.drew.heap.size:=zr;have w1:aC (low/65536-1-(k:Int)+1)=low/65536-1-(k:Int)+1:=wI;rw[w1];refine⟨_,(qrow hqd).at 0 rfl,(sB _ wr.drew).mono ?_⟩;rw[Ni aa];rintro e jD ⟨rfl,aAh⟩;subst aAh;refine⟨_,rfl,Lo.wv (qrow hqd),?_⟩;rw[aL (n:=low+d) inO];refine Br.mk (λhc=>(sB _ wr.drew).mono ?_) (λhc=>?_)
  ·have hc:=(ag2 k).1 (by simpa using hc);rw[Ni aa];rintro e lG ⟨rfl,apq⟩;subst apq;have wq:aC ((low/65536-1-(k:Int)+1)*65536-low)=(low/65536-1-(k:Int)+1)*65536-low:=wI;have wk:aC (low/65536-1-(k:Int)-1)=low/65536-1-((k+1:Nat):Int):=by rw[wI];omega
   refine⟨_,rfl,?_⟩;rw[wq];refine bJ (round zrd (Ir hc) hqd) ?_;rintro e kO ⟨z41,⟨rfl,hq2⟩|⟨rfl,hx2⟩⟩
   ·exact⟨true,rfl,Br.mk (λh=>by cases h) (λ_=>⟨n-1,aa,k+1,wk,aa,hq2,z41⟩)⟩
   ·exact⟨false,rfl,Br.mk (λ_=>⟨⟨_,rfl⟩,.inr hx2⟩) (λh=>by cases h)⟩
  ·have hc:¬k<N:=λq=>absurd ((ag2 k).2 q) (by simpa using hc)
   have e:k=N:=by omega
   subst e;rw[<-cX]at hqd;exact⟨⟨_,rfl⟩,.inl (fin hqd)⟩
def adU{b:Bx}{ax d:Int}{n:Nat}{x y:Int}(h:(sE b ax d)[n]? =some [vI x,vI y]):(du b ax d)[n]? =some (x,y):=by
 unfold sE at h;rw[aW]at h
 cases hc:(du b ax d)[n]? with
 |none=>rw[hc]at h;cases h
 |some c=>
  rw[hc]at h;simp only[mT]at h;injection h with h;injection h with h1 h;injection h with h2 _;injection h1 with _ h1;injection h2 with _ h2;exact congrArg some (Prod.ext h1 h2)
def awc(d:Int):(if 4194304<(if(-4194304)>d then(-4194304)else d)then 4194304 else(if(-4194304)>d then(-4194304)else d))=mi d:=by
 unfold mi
 repeat' split
 all_goals omega
def UZ{v:Value}{V:Ce->Int}{w:World}(hV:Tl v V w)(hv:kq v=[])(b:Bx)(hb:bU b 100000000000000)(ax d:Int)(hax:0<=ax/\ax<3):
  ed 319 #[v,xB b,ax,d] w (Value.tuple #[vI (eX V aD b ax d).1,.bool (eX V aD b ax d).2]):=by
 apply Uv.vc;rw[hv,uj,awc];have hd:=ET d;intro w0 e0 w1 e1 w2 e2 w3 e3 w4 e4;have x0:=aU e0;have z0:=zA e0;have r0:∃τ,Row w0 w [v] τ:=⟨_,by rw[e0];exact Row.new w [_] _⟩;have x1:=aU e1;have z1:=zA e1;have x2:=aU e2;have z2:=zA e2;have x3:=aU e3;have z3:=zA e3;have x4:=aU e4;have z4:=zA e4;have E9:=x0.tr (x1.tr (x2.tr (x3.tr x4)));obtain⟨τ0,r0⟩:=r0;refine uN smo (uN smo ((Qz b ax (mi d) w4).mono ?_));rintro e w9 ⟨rfl,hb9,ha9,hd9,x9⟩;have z9:=x9.size;have l9:=hd9.lt;have Ts:=E9.tr x9;have r9:=r0.ext (x1.tr (x2.tr (x3.tr (x4.tr x9))));refine⟨_,rfl,x9.k,x9.k,x9.k,x9.k,x9.k,sE b ax (mi d),λi=>i=w4.heap.size\/i=w4.heap.size+1\/i=w4.heap.size+2,λ_=>False,
  λn F y bb w'=>(∀i,¬F i)/\(∀x∈(du b ax (mi d)).take n,j8 V (sy b ax x.1) aD=false)/\Mod (λi=>w9.heap.size<=i) w9 w',
  λo F y bb w'=>(∀i,¬F i)/\(y,bb)=eX V aD b ax d/\Mod (λi=>i=w2.heap.size\/i=w3.heap.size\/w9.heap.size<=i) w9 w',?_,?_,?_,λn F y bb w' h i hi=>(h.1 i hi).elim,λo F y bb w' h i hi=>(h.1 i hi).elim,λi hi=>?_,λue vt=>?_,?_,?_,?_⟩
 ·intro x hx;obtain⟨c,-,rfl⟩:=bc.1 hx;exact⟨_,_,rfl⟩
 ·rintro n F y bb di dh ⟨h1,h2,h3⟩ kQ -;exact⟨h1,h2,h3.tr ⟨kQ.os,kQ.tape,kQ.output,kQ.size,λi hi hn=>kQ.block i (C6 hn)⟩ λi hi=>.inl hi⟩
 ·rintro o F y bb di dh ⟨h1,h2,h3⟩ kQ -;exact⟨h1,h2,h3.tr ⟨kQ.os,kQ.tape,kQ.output,kQ.size,λi hi hn=>kQ.block i (C6 hn)⟩ λi hi=>.inl (.inr (.inr hi))⟩
 ·rcases hi with rfl|rfl|rfl<;>exact⟨aa,id,aa,aa,aa,aa,aa,trivial⟩
 ·exact⟨QA b ax (mi d) hb hd _ ue (hb9.same (vt.ext.block _ aa)) (ha9.same (vt.ext.block _ aa)) (hd9.same (vt.ext.block _ aa)),rfl,rfl,rfl,λi h=>h,λc hc=>by simp at hc,Mod.aq vt.ext⟩
 ·rintro n F us y50 b51 tG lU yC hx hI;have z56:=hI.2.2.size;refine⟨Below.refl _ _,λnv fL agC=>?_⟩;obtain⟨hF,lp,hM⟩:=agC;have zr:=fL.size;have hc:=adU hx;have pL:=aQ hc;have px:=QB hb hd _ pL;have z57:=hM.size;have ht:(du b ax (mi d)).take (n+1)=(du b ax (mi d)).take n++[(tG,lU)]:=by rw[dq,hc];rfl
  have zd:=nV nv;have ayQ:Tl v V nv.drew:=by obtain⟨D,hD1,hD2⟩:=hV;refine⟨D,λi hi=>by have:=hD1 i hi;have:=Ts.size;omega,λw' hk=>hD2 w' λi hi=>(hk i hi).trans ?_⟩;have:=hD1 i hi;have:=Ts.size;exact(hM.same i aa aa).trans (Ts.k)
  refine(UN b ax tG (by simp only at px;unfold cH;omega) nv.drew).bf λlV qF=>?_
  have z60:=qF.size;have agD:=hM.trans (Mod.aq ((Ext.dr nv).tr qF));refine⟨_,_,_,_,_,_,rfl,qF.k,qF.k,qF.k,qF.k,qF.k,Lo.wv (agD.row r9 aa),(sC (ayQ.ext qF) hv (sy b ax tG)).bf λjU rD=>?_⟩;have z62:=rD.size;have Tu:=agD.trans (Mod.aq rD);refine⟨_,rfl,rD.k,rD.k,rD.k,rD.k,rD.k,Br.mk (λhq=>λH4 e64 O3 e65=>?_) (λhq=>?_)⟩
  ·have hax2:eX V aD b ax d=(lU,true):=by
    unfold eX;have hf:(du b ax (mi d)).find? (λx=>j8 V (sy b ax x.1) aD)=some (tG,lU):=by
     have hsplit:du b ax (mi d)=(du b ax (mi d)).take n++(tG,lU)::(du b ax (mi d)).drop (n+1):=by
      have h1:=td n (du b ax (mi d));have h2:(du b ax (mi d)).drop n=(tG,lU)::(du b ax (mi d)).drop (n+1):=by have hl:=(cG.1 hc);rw[zV hl.1,hl.2]
      rw[h2]at h1;exact h1.symm
     rw[hsplit,List.find?_append,QC.2 λx hx=>by rw[lp x hx];decide];simp[hq]
    rw[hf]
   have ayv:O3.heap.size=jU.heap.size:=by rw[e65,setRow_size,e64,setRow_size]
   have aoJ:∀i,i≠w2.heap.size->i≠w3.heap.size->O3.heap[i]? =jU.heap[i]? :=λi h1 h2=>by rw[e65,setRow_other _ _ _ _ h2,e64,setRow_other _ _ _ _ h1]
   have agE:Mod (λi=>i=w2.heap.size\/i=w3.heap.size) jU O3:=⟨by rw[e65,e64];rfl,by rw[e65,e64];rfl,by rw[e65,e64];rfl,aa,λi _ hn=>aoJ i (λq=>hn (.inl q)) (λq=>hn (.inr q))⟩;refine⟨rfl,λ_=>False,⟨rfl,rfl,rfl,λi h=>h,hax2.symm,(Tu.mono λi _ h=>.inr (.inr h)).trans (agE.mono λi _ h=>h.elim .inl λh=>.inr (.inl h))⟩,?_⟩;have Ic:=((Mod.aq (F:=λi=>i=w2.heap.size\/i=w3.heap.size) (((Ext.dr nv).tr qF).tr rD))).trans agE;refine Step.late ⟨λi hi=>?_,Ic.size,λi hi hn=>Ic.same i hi λq=>hn (.inr ?_)⟩
   ·rcases hi with h|h
    ·exact h.elim
    ·exact .inl (.inr h)
   ·rcases q with rfl|rfl<;>simp
  ·have Tv:=((Ext.dr nv).tr qF).tr rD;refine⟨λ_=>False,⟨rfl,rfl,rfl,λi h=>h,λc hc=>?_,Tu⟩,Step.late ⟨λi hi=>?_,Tv.size,λi hi _=>Tv.block i hi⟩⟩
   ·rw[ht,dp]at hc;rcases hc with hc|hc
    ·exact lp c hc
    ·rw[ig.1 hc];exact hq
   ·rcases hi with h|h
    ·exact h.elim
    ·exact .inl (.inr h)
 ·rintro F us y70 b73 CE ⟨hF,lp,hM⟩ WB uh e75 pB e76;have z74:=hM.size;have cX:(sE b ax (mi d)).length=(du b ax (mi d)).length:=by unfold sE;simp
  rw[cX,kB]at lp;have hax2:eX V aD b ax d=(mi d,false):=by unfold eX;rw[QC.2 λx hx=>by rw[lp x hx];decide]
  rw[hax2];refine⟨by rw[e76,setRow_other _ _ _ _ aa,e75,setRow_other _ _ _ _ aa];exact WB,λuc fL=>⟨rfl,?_⟩⟩;have O1:Ext w CE:=hM.ext Ts λi hi=>by have:=Ts.size;omega
  have O2:Ext w pB:=(O1.af e75 aa).af e76 aa;exact(Mod.oX fL).ext O2 λi hi=>by have:=Ts.size;omega
 ·rintro F us y80 b83 w84 ⟨hF,hax2,hM⟩ WB;rw[<-hax2];refine⟨WB,λw85 fL=>⟨rfl,?_⟩⟩;have TV:Ext w w84:=hM.ext Ts λi hi=>by have:=Ts.size;omega
  exact(Mod.oX fL).ext TV λi hi=>by have:=Ts.size;omega
def oW{v:Value}{V:Ce->Int}{w:World}(hV:Tl v V w)(hv:kq v=[])(b:Bx)(hb:bU b 100000000000000)(ax d:Int)(hax:0<=ax/\ax<3):
  ed 263 #[v,xB b,ax,d] w (Value.tuple #[xB (bA V aD b ax d).1,.bool (bA V aD b ax d).2]):=by
 apply PX.vc;intro w0 e0 w1 e1;have x0:=aU e0;have z0:=zA e0;have r0:Row w0 w (pE b) fR:=Row.nw e0;have x1:=aU e1;have z1:=zA e1;refine(UZ (hV.ext (x0.tr x1)) hv b hb ax d hax).bf λw2 x2=>?_
 have z2:=x2.size;have zd:=nV w2;refine⟨_,_,rfl,x2.k,x2.k,(jh (0,0,0) ax (eX V aD b ax d).1 w2.drew).bf λw5 x5=>?_⟩;have z5:=x5.size;refine⟨_,_,_,rfl,x5.k,x5.k,Lo.wv (r0.ext (x1.tr (x2.tr ((Ext.dr w2).tr x5)))),(UM b (fV (0,0,0) ax (eX V aD b ax d).1) w5).bf λw9 x9=>?_⟩;have z9:=x9.size;exact⟨_,_,_,_,_,_,rfl,x9.k,x9.k,λbZ CH=>⟨rfl,(x0.tr (x1.tr (x2.tr ((Ext.dr w2).tr (x5.tr x9))))).af CH aa⟩⟩
abbrev Ht:=Bool×Bool×Bool
abbrev hL(h:Ht):LV:=[.bool h.1,.bool h.2.1,.bool h.2.2]
abbrev kr:TypeId:=253
def PB(h:Ht):One (hL h):=by intro v hv;simp at hv;rcases hv with rfl|rfl|rfl<;>rfl
def pD{g h o:Nat}(hn:g≠h):bM (jM g o)≠some h:=λq=>hn (Option.some.inj q)
def qu{g h o n:Nat}(hn:g≠h):bM (ae (jM g o) n)≠some h:=by rw[cB];exact pD hn
def EO{wr:World}{gh go gb:Nat}{h:Ht}{cs:LV}(rh:Row wr gh (hL h) kr)(ro:Row wr go cs kr)(hc:cs.length=3)(gl:gh≠go)(h1:gb≠gh)(h2:gb≠go)(c:Array Value):
  ah wr.drew (aB gh) 0 (hL h)/\∀ie:World,ie=wr.drew.setRow gb c->ah ie (aB gh) 0 (hL h)/\Wr ie (aB go) 3/\∀dL:World,dL=Vc.bB ie (aB go) (hL h)->ah dL (aB go) 0 (hL h)/\Mod (λi=>i=gb\/i=go) wr dL:=by
 have xd:=Ext.dr wr;refine⟨Lo.wv (rh.ext xd),λie Jq=>?_⟩;have rh2:Row ie gh (hL h) kr:=(rh.ext xd).same (by rw[Jq];exact setRow_other _ _ _ _ h1.symm);have ro2:Row ie go cs kr:=(ro.ext xd).same (by rw[Jq];exact setRow_other _ _ _ _ h2.symm);have m24:Mod (λi=>i=gb\/i=go) wr ie:=by refine(Mod.aq xd).trans ⟨by rw[Jq];rfl,by rw[Jq];rfl,by rw[Jq];rfl,by rw[Jq,setRow_size];exact ak _,λi _ hn=>by rw[Jq];exact setRow_other _ _ _ _ λq=>hn (.inl q)⟩
 refine⟨Lo.wv rh2,ro2.wr aa,λdL OX=>?_⟩;rw[ro2.bB (vs:=hL h) (by rw[hc];exact ak _) (PB h),dC (by rw[hc];rfl)]at OX;have r25:Row dL go (hL h) kr:=ro2.st OX;exact⟨Lo.wv r25,m24.trans ⟨by rw[OX];rfl,by rw[OX];rfl,by rw[OX];rfl,by rw[OX,setRow_size];exact ak _,λi _ hn=>by rw[OX];exact setRow_other _ _ _ _ λq=>hn (.inr q)⟩⟩
def PC(V:Ce->Int)(p:Int->Bool)(b:Bx)(d:Ce):Nat->Bx×Ht
 |0=>(b,(false,false,false))
 |1=>((bA V p b 1 d.2.1).1,(false,(bA V p b 1 d.2.1).2,false))
 |2=>((bA V p (bA V p b 1 d.2.1).1 0 d.1).1,((bA V p (bA V p b 1 d.2.1).1 0 d.1).2,(bA V p b 1 d.2.1).2,false))
 |_=>j4 V p b d
def ahR{V:Ce->Int}{p:Int->Bool}{b:Bx}{d:Ce}{m:Int}(hb:bU b m)(hm:m<=99990000000000){k:Nat}(hk:k<3):bU (PC V p b d k).1 100000000000000:=by
 have up:∀{c:Bx}{a:Int},bU c a->a<=100000000000000->bU c 100000000000000:=λh1 h2=>by unfold bU at h1⊢;omega
 have h1:=bV (V:=V) (p:=p) (ax:=1) (d:=d.2.1) hb aa;have h2:=bV (V:=V) (p:=p) (ax:=0) (d:=d.1) h1 aa;have:k=0\/k=1\/k=2:=by omega
 rcases this with rfl|rfl|rfl
 ·exact up hb aa
 ·exact up h1 aa
 ·exact up h2 aa
def FL{v:Value}{V:Ce->Int}{w:World}(hV:Tl v V w)(hv:kq v=[])(b:Bx){m:Int}(hb:bU b m)(hm:m<=99990000000000)(d:Ce):
  ed 212 #[v,xB b,fQ d] w (Value.tuple #[xB (j4 V aD b d).1,.agg (hL (j4 V aD b d).2).toArray]):=by
 apply Ud.vc;intro w0 e0 w1 e1 w2 e2 w3 e3 w4 e4;have x0:=aU e0;have z0:=zA e0;have r0:Row w0 w (pE b) fR:=Row.nw e0;have x1:=aU e1;have z1:=zA e1;have x2:=aU e2;have z2:=zA e2;have x3:=aU e3;have z3:=zA e3;have r3:Row w3 w2 (hL (false,false,false)) kr:=Row.nw e3;have x4:=aU e4;have z4:=zA e4;have r4:Row w4 w3 (hL (false,false,false)) kr:=Row.nw e4;have E9:=x0.tr (x1.tr (x2.tr (x3.tr x4)));refine⟨λn x a1 a2 a3 a4 a5 a6 wr=>∃k:Nat,x=k/\k+n=3/\a1=(PC V aD b d k).1.1.1/\a2=(PC V aD b d k).1.1.2.1/\a3=(PC V aD b d k).1.1.2.2/\a4=(PC V aD b d k).1.2.1/\a5=(PC V aD b d k).1.2.2.1/\a6=(PC V aD b d k).1.2.2.2/\Row wr w (pE (PC V aD b d k).1) fR/\Row wr w3 (hL (PC V aD b d k).2) kr/\Row wr w2 (hL (false,false,false)) kr/\Ext w wr,
  ⟨3,rfl,rfl,0,rfl,rfl,rfl,rfl,rfl,rfl,rfl,rfl,r0.ext (x1.tr (x2.tr (x3.tr x4))),r4,r3.ext x4,E9⟩,?_⟩
 rintro n us x a1 a2 a3 a4 a5 a6 wr ⟨k,rfl,hk,rfl,rfl,rfl,rfl,rfl,rfl,hb',hh,ho,xr⟩;have l3:=hh.lt;apply Br.mk<;>intro hc
 ·have hc:=eK hc;have H6:k=0\/k=1\/k=2:=by omega
  have hnr:=ahR (V:=V) (p:=aD) (d:=d) hb hm (k:=k) aa;obtain⟨a,ha,ha1,ha2,Ou⟩:∃a:Nat,a<3/\([(1:Int),ai,(2:Int)]:LV)[((k:Nat):Int).toNat*1]? =some (vI (a:Int))/\(PC V aD b d (k+1)).1=(bA V aD (PC V aD b d k).1 a (dj d a)).1/\putCells (hL (PC V aD b d k).2) a [.bool (bA V aD (PC V aD b d k).1 a (dj d a)).2]=hL (PC V aD b d (k+1)).2:=by
   rcases H6 with rfl|rfl|rfl
   ·exact⟨1,au,rfl,rfl,rfl⟩
   ·exact⟨0,au,rfl,rfl,rfl⟩
   ·exact⟨2,au,rfl,rfl,rfl⟩
  have zd:=nV wr;refine⟨⟨aa,aa⟩,_,ha1,(cW d a wr.drew).bf λdA dc=>?_⟩;have z18:=dc.size;have arG:=xr.tr ((Ext.dr wr).tr dc);refine⟨_,rfl,dc.k,dc.k,dc.k,Lo.wv (hb'.ext ((Ext.dr wr).tr dc)),(oW (hV.ext arG) hv (PC V aD b d k).1 hnr a (dj d a) aa).bf λeQ fe=>?_⟩;have z20:=fe.size;have afX:=(Ext.dr wr).tr (dc.tr fe);refine⟨_,_,_,_,_,_,_,rfl,fe.k,fe.k,fe.k,λiZ e28=>?_⟩;generalize hy:bA V aD (PC V aD b d k).1 a (dj d a)=y at*;have rb:Row iZ w (pE y.1) fR:=by rw[e28];exact Row.set (hb'.ext afX) [_,_,_,_,_,_]
  have rh:Row iZ w3 (hL (PC V aD b d k).2) kr:=(hh.ext afX).same (by rw[e28];exact setRow_other _ _ _ _ aa);have ro:Row iZ w2 (hL (false,false,false)) kr:=(ho.ext afX).same (by rw[e28];exact setRow_other _ _ _ _ aa);have rC:Ext w iZ:=(arG.tr fe).af e28 (ak _);have Eu:ae (aB w3.heap.size) (((a:Nat):Int).toNat*1)=ae (aB w3.heap.size) a:=by rw[iI,zp]
  obtain⟨p1,p2⟩:=rh.ft (j:=a) (v:=.bool y.2) ha rfl;have wk:=nE (j:=k);rw[Eu];refine⟨aa,aa,⟨rfl,p1⟩,qu aa,qu aa,qu aa,λgI S8=>?_⟩;obtain⟨q1,q2⟩:=p2 gI S8;exact⟨n-1,aa,rfl,rfl,k+1,wk,aa,by rw[ha2],by rw[ha2],by rw[ha2],by rw[ha2],by rw[ha2],by rw[ha2],by rw[ha2];exact rb.same (q2.same _ rb.lt aa),by rw[<-Ou];exact q1,ro.same (q2.same _ ro.lt aa),q2.ext rC λi hi=>by omega⟩
 ·have hc:=eK hc;have H6:k=3:=by omega
  subst H6;obtain⟨q1,q2⟩:=EO (gb:=w1.heap.size) hh ho rfl aa aa aa _;refine⟨_,_,_,q1,λjV e33=>?_⟩;obtain⟨q3,q4,q5⟩:=q2 jV e33;refine⟨q3,⟨rfl,q4⟩,pD aa,pD aa,pD aa,λke e34=>?_⟩;obtain⟨q6,q7⟩:=q5 ke e34;exact⟨_,_,_,q6,rfl,q7.ext xr λi hi=>by omega⟩
def Kv(a b:Bx)(ha:bU a 100000000000000)(hb:bU b 100000000000000)(w:World):ed 264 #[xB a,xB b] w (vI (Kw a b)):=by
 apply Uw.vc;intro w0 e0 w1 e1;have x1:Ext w w1.drew:=((aU e0).aZ e1).drew;unfold bU at ha hb;rw[aL (n:=b.1.1-a.1.1) inO,aL (n:=b.1.2.2-a.1.2.2) inO,aL (n:=0-(b.1.1-a.1.1)) inO,aL (n:=0-(b.1.2.2-a.1.2.2)) inO];have e1:∀y:Int,(if 0-y>y then 0-y else y)=max y (-y):=λy=>by split<;>omega
 rw[e1,e1,wI];exact⟨rfl,x1⟩
def stK(h:Ht)(v:Ce):Nat->Ce
 |0=>v
 |1=>if h.1 then fV v 0 0 else v
 |2=>(λv=>if h.2.1 then fV v 1 0 else v) (if h.1 then fV v 0 0 else v)
 |_=>uW h v
def aan(h:Ht)(v:Ce)(w:World):ed 208 #[.agg (hL h).toArray,fQ v] w ((fQ (uW h v))):=by
 apply DK.vc;intro w0 e0 w1 e1 w2 e2;have x0:=aU e0;have z0:=zA e0;have r0:Row w0 w (hL h) kr:=Row.nw e0;have x1:=aU e1;have z1:=zA e1;have x2:=aU e2;have z2:=zA e2;have yz:=x0.tr (x1.tr x2);refine⟨_,_,_,Lo.wv (r0.ext (x1.tr x2)),λn x a1 a2 a3 wr=>∃k:Nat,x=k/\k+n=3/\(a1,a2,a3)=stK h v k/\Ext w wr/\w2.heap.size<=wr,⟨3,rfl,0,rfl,rfl,rfl,yz,ak _⟩,?_⟩;rintro n us x a1 a2 a3 wr ⟨k,rfl,hk,hs,xr,zr⟩;apply Br.mk<;>intro hc
 ·have hc:=eK hc;have H6:k=0\/k=1\/k=2:=by omega
  obtain⟨r,hr1,jT⟩:∃r:Bool,([.bool h.1,.bool h.2.1,.bool h.2.2]:LV)[((k:Nat):Int).toNat*1]? =some (.bool r)/\stK h v (k+1)=if r then fV (stK h v k) k 0 else stK h v k:=by
   rcases H6 with rfl|rfl|rfl
   ·exact⟨h.1,rfl,rfl⟩
   ·exact⟨h.2.1,rfl,rfl⟩
   ·exact⟨h.2.2,rfl,rfl⟩
  have wk:=nE (j:=k);refine⟨⟨aa,aa⟩,r,hr1,Br.mk (λhq=>(jh (a1,a2,a3) k 0 wr).mono ?_) (λhq=>?_)⟩
  ·rintro e bZ ⟨rfl,dw⟩;have z16:=dw.size;refine⟨_,_,_,rfl,dw.k,dw.k,λeQ wx=>⟨n-1,aa,rfl,k+1,wk,aa,?_,(xr.tr dw).af wx aa,by rw[zR wx];omega⟩⟩;rw[jT,hq,if_pos rfl,<-hs]
  ·exact⟨n-1,aa,rfl,k+1,wk,aa,by rw[jT,hq,if_neg au,<-hs],xr,zr⟩
 ·have hc:=eK hc;have H6:k=3:=by omega
  subst H6;intro di vq;have hs:(a1,a2,a3)=uW h v:=hs;refine⟨by rw[<-hs],xr.af vq aa⟩
def qk{b:Bx}{m n:Int}(h:bU b m)(hmn:m<=n):bU b n:=by unfold bU at h⊢;omega
def Vo{v:Value}{V:Ce->Int}{w:World}(hV:Tl v V w)(hv:kq v=[])(b:Bx){m:Int}(hb:bU b m)(hm:m<=99980000000000)(d:Ce)(up:Int):
  ed 204 #[v,xB b,fQ d,up] w (Value.tuple #[xB (jH V aD b d up).1,.agg (hL (jH V aD b d up).2).toArray]):=by
 apply Ux.vc;have hup:(if 65536<up then 65536 else up)=min up 65536:=by split<;>omega
 rw[hup];intro w0 e0 w1 e1 w2 e2 w3 e3;have x0:=aU e0;have z0:=zA e0;have r0:Row w0 w (pE b) fR:=Row.nw e0;have x1:=aU e1;have z1:=zA e1;have r1:Row w1 w0 (eV d) iq:=Row.nw e1;have x2:=aU e2;have z2:=zA e2;have x3:=aU e3;have z3:=zA e3;have r3:Row w3 w2 (hL (false,false,false)) kr:=Row.nw e3;have OL:=x0.tr (x1.tr (x2.tr x3));refine(FL (hV.ext OL) hv b hb aa d).bf λw4 x4=>?_
 have z4:=x4.size;have hpn:=Mk (V:=V) (p:=aD) (d:=d) hb aa;have hstep:jH V aD b d up=(if((!(j4 V aD b d).2.1&&!(j4 V aD b d).2.2.2)||decide (up<=0)||!j8 V (nL b) aD)=true then j4 V aD b d else if Kw b (bA V aD (bA V aD (bA V aD (bA V aD b 1 (min up 65536)).1 0 d.1).1 2 d.2.2).1 1 (-((bA V aD b 1 (min up 65536)).1.1.2.1-b.1.2.1))).1<=Kw b (j4 V aD b d).1 then j4 V aD b d else((bA V aD (bA V aD (bA V aD (bA V aD b 1 (min up 65536)).1 0 d.1).1 2 d.2.2).1 1 (-((bA V aD b 1 (min up 65536)).1.1.2.1-b.1.2.1))).1,((bA V aD (bA V aD b 1 (min up 65536)).1 0 d.1).2,true,(bA V aD (bA V aD (bA V aD b 1 (min up 65536)).1 0 d.1).1 2 d.2.2).2))):=rfl;generalize j4 V aD b d=mv at*;refine⟨_,_,_,_,_,_,_,_,_,rfl,x4.k,x4.k,x4.k,λcp yF c9 pC bZ CH=>?_⟩;have cY:=aU yF;have z14:=zA yF;have dn:=aU pC;have z15:=zA pC;have r15:Row c9 cp (hL (false,false,false)) kr:=Row.nw pC;have z16:=zR CH;have r16:Row bZ cp (hL (false,false,false)) kr:=r15.same (by rw[CH];exact setRow_other _ _ _ _ aa);have azT:Row bZ w4 (pE mv.1) fR:=by rw[CH];exact Row.set ((by rw[yF];exact Row.new w4 [_,_,_,_,_,_] _:Row cp w4 _ fR).ext dn) [_,_,_,_,_,_]
 have dw:Ext w4 bZ:=(cY.tr dn).af CH (ak _);refine⟨⟨rfl,r16.wr bo⟩,pD aa,pD aa,pD aa,pD aa,λcP ug=>?_⟩;rw[r16.bB (vs:=hL mv.2) bo (PB _),dC bo]at ug;have rh:Row cP cp (hL mv.2) kr:=r16.st ug;have z17:=zR ug;have dO:Ext w4 cP:=dw.af ug aa;have rp:Row cP w4 (pE mv.1) fR:=azT.same (by rw[ug];exact setRow_other _ _ _ _ aa);have ake:=OL.tr (x4.tr dO);have atx:=x1.tr (x2.tr (x3.tr (x4.tr dO)));have ro:Row cP w2 (hL (false,false,false)) kr:=r3.ext (x4.tr dO);have rb:=r0.ext atx;have rd:=r1.ext (x2.tr (x3.tr (x4.tr dO)));have plain:∀wr:World,Ext cP wr->jH V aD b d up=mv->∃(b21:Bool)(b22:Bool)(b23:Bool),ah wr.drew (aB cp.heap.size) 0 [.bool b21,b22,b23]/\
   ∀ie:World,ie=wr.drew.setRow w1 #[mv.1.1.1,mv.1.1.2.1,mv.1.1.2.2,mv.1.2.1,mv.1.2.2.1,mv.1.2.2.2]->
   ah ie (aB cp.heap.size) 0 [.bool b21,b22,b23]/\(true=true/\Wr ie (aB w2.heap.size) 3)/\bM (aB w2.heap.size)≠some w.heap.size/\bM (aB w2.heap.size)≠some w0.heap.size/\bM (aB w2.heap.size)≠some w1.heap.size/\bM (aB w2.heap.size)≠some w4.heap.size/\(∀dL:World,dL=Vc.bB ie (aB w2.heap.size) [.bool b21,b22,b23]->
   ∃(Wh:Bool)(Yp:Bool)(Yq:Bool),ah dL (aB w2.heap.size) 0 [.bool Wh,Yp,Yq]/\
   (Ending.returned (.tuple #[.agg #[mv.1.1.1,mv.1.1.2.1,mv.1.1.2.2,mv.1.2.1,mv.1.2.2.1,mv.1.2.2.2],.agg #[Wh,Yp,Yq]])=Value.tuple #[xB (jH V aD b d up).1,.agg (hL (jH V aD b d up).2).toArray]/\Ext w dL)):=λwr x gm=>by
  have zx:=x.size;obtain⟨q1,q2⟩:=EO (gb:=w1.heap.size) (rh.ext x) (ro.ext x) rfl aa aa aa #[mv.1.1.1,mv.1.1.2.1,mv.1.1.2.2,mv.1.2.1,mv.1.2.2.1,mv.1.2.2.2];refine⟨_,_,_,q1,λie Jq=>?_⟩;obtain⟨q3,q4,q5⟩:=q2 ie Jq;refine⟨q3,⟨rfl,q4⟩,pD aa,pD aa,pD aa,pD aa,λdL OX=>?_⟩;obtain⟨q6,q7⟩:=q5 dL OX;exact⟨_,_,_,q6,by rw[gm],q7.ext (ake.tr x) λi hi=>by omega⟩
 have gm:∀wr:World,Ext cP wr->Tl v V wr:=λwr x=>hV.ext (ake.tr x)
 refine⟨λwj=>Ext cP wj/\¬((!mv.2.1&&!mv.2.2.2)||decide (up<=0)||!j8 V (nL b) aD)=true,?_,?_⟩
 ·refine⟨au,au,mv.2.1,rh.at 0 rfl,Br.mk (λq1=>⟨au,au,mv.2.2.2,rh.at 2 rfl,Br.mk (λq2=>plain cP (Ext.bT _) (by rw[hstep,if_pos (by rw[q1,q2];rfl)])) (λq2=>?_)⟩) (λq1=>?_)⟩
  all_goals
   have hcf:(!mv.2.1&&!mv.2.2.2)=false:=by first|rw[q2,Bool.and_false]|rw[q1,C9]
   refine Br.mk (λq3=>plain cP (Ext.bT _) (by rw[hstep,if_pos (by rw[hcf,q3];rfl)])) (λq3=>(qd (gm cP (Ext.bT _)) hv b).bf λjD mO=>?_)
   exact⟨_,rfl,mO.k,mO.k,mO.k,mO.k,Br.mk (λq4=>plain jD mO (by rw[hstep,if_pos (by rw[hcf,q3,q4];rfl)])) (λq4=>⟨rfl,rfl,rfl,rfl,mO,by rw[hcf,q3,q4];decide⟩)⟩
 ·rintro us vR ⟨rG,hn⟩;rw[if_neg hn]at hstep;have z66:=rG.size;have n1:=bV (V:=V) (p:=aD) (ax:=1) (d:=min up 65536) hb aa;refine(oW (gm vR rG) hv b (qk hb aa) 1 (min up 65536) au).bf λpI yB=>?_
  have z67:=yB.size;have n2:=bV (V:=V) (p:=aD) (ax:=0) (d:=d.1) n1 aa;have n3:=bV (V:=V) (p:=aD) (ax:=2) (d:=d.2.2) n2 aa;have n4:=bV (V:=V) (p:=aD) (ax:=1) (d:= -((bA V aD b 1 (min up 65536)).1.1.2.1-b.1.2.1)) n3 aa;refine⟨_,_,_,_,_,_,_,rfl,yB.k,yB.k,yB.k,yB.k,λuh e75 pB e76 uc e77=>?_⟩;generalize bA V aD b 1 (min up 65536)=hi at*;have z75:=zA e75;have z76:=zR e76;have z77:=zA e77;have rhi:Row pB pI (pE hi.1) fR:=by rw[e76];exact Row.set (by rw[e75];exact Row.new pI [_,_,_,_,_,_] _) [_,_,_,_,_,_]
  have apm:Row uc pB (hL (false,false,false)) kr:=Row.nw e77;have x77:Ext pI uc:=((aU e75).af e76 (ak _)).aZ e77;have rhi:=rhi.ext (aU e77);refine⟨⟨rfl,apm.wr bo⟩,pD aa,pD aa,pD aa,pD aa,pD aa,λuf e78 K9 e79 H5 e80=>?_⟩;rw[apm.bB (vs:=hL (false,true,false)) bo (PB (false,true,false)),dC bo]at e78;have z78:=zR e78;have azX:Row uf pB (hL (false,true,false)) kr:=apm.st e78;have rhi:=rhi.so e78;have x78:Ext pI uf:=x77.af e78 aa;have z79:=zA e79;have z80:=zR e80;have ag0:Ext uf H5:=(aU e79).af e80 (ak _);have azY:Row H5 uf (pE hi.1) fR:=by rw[e80];exact Row.set (by rw[e79];exact Row.new uf [_,_,_,_,_,_] _) [_,_,_,_,_,_]
  have azZ:=azX.ext ag0;have aty:=rG.tr (yB.tr (x78.tr ag0));refine(oW (gm H5 aty) hv hi.1 (qk n1 aa) 0 d.1 au).bf λwA H9=>?_
  have z81:=H9.size;refine⟨_,_,_,_,_,_,_,rfl,H9.k,H9.k,H9.k,H9.k,H9.k,H9.k,λwB e89=>?_⟩;generalize bA V aD hi.1 0 d.1=ax at*;have z89:=zR e89;have atz:Row wB uf (pE ax.1) fR:=by rw[e89];exact Row.set (azY.ext H9) [_,_,_,_,_,_]
  have az0:Row wB pB (hL (false,true,false)) kr:=(azZ.ext H9).same (by rw[e89];exact setRow_other _ _ _ _ aa);have x89:Ext uf wB:=(ag0.tr H9).af e89 (ak _);obtain⟨p1,p2⟩:=az0.ft (j:=0) (v:=.bool ax.2) au rfl;refine⟨au,au,⟨rfl,p1⟩,qu aa,qu aa,qu aa,qu aa,qu aa,qu aa,λrF e90=>?_⟩;obtain⟨q1,q2⟩:=p2 rF e90;have az1:Row rF pB (hL (ax.2,true,false)) kr:=q1;have az2:=atz.same (q2.same _ atz.lt aa);have z90:=q2.size;have x90:Ext pI rF:=q2.ext (x78.tr x89) λi hi=>by omega
  refine(oW (gm rF (rG.tr (yB.tr x90))) hv ax.1 (qk n2 aa) 2 d.2.2 au).bf λw91 Oz=>?_
  have z91:=Oz.size;refine⟨_,_,_,_,_,_,_,rfl,Oz.k,Oz.k,Oz.k,Oz.k,Oz.k,Oz.k,λIu e99=>?_⟩;generalize bA V aD ax.1 2 d.2.2=az at*;have z99:=zR e99;have atB:Row Iu uf (pE az.1) fR:=by rw[e99];exact Row.set (az2.ext Oz) [_,_,_,_,_,_]
  have az3:Row Iu pB (hL (ax.2,true,false)) kr:=(az1.ext Oz).same (by rw[e99];exact setRow_other _ _ _ _ aa);have Yr:Ext pI Iu:=(x90.tr Oz).af e99 aa;obtain⟨p1,p3⟩:=az3.ft (j:=2) (v:=.bool az.2) (show 2<3 by decide) rfl;refine⟨au,au,⟨rfl,p1⟩,qu aa,qu aa,qu aa,qu aa,qu aa,qu aa,λsZ akf=>?_⟩;obtain⟨q1,q3⟩:=p3 sZ akf;have atD:Row sZ pB (hL (ax.2,true,az.2)) kr:=q1;have aDQ:=atB.same (q3.same _ atB.lt aa);have ayX:=q3.size;have Bi:Ext pI sZ:=q3.ext Yr λi hi=>by omega
  have hhi:=n1;have hbb:=hb;unfold bU at hhi hbb;have wr1:aC (hi.1.1.2.1-b.1.2.1)=hi.1.1.2.1-b.1.2.1:=wI;have Yi:aC (0-(hi.1.1.2.1-b.1.2.1))= -(hi.1.1.2.1-b.1.2.1):=by rw[wI];omega
  rw[wr1,Yi];refine(oW (gm sZ (rG.tr (yB.tr Bi))) hv az.1 (qk n3 aa) 1 (-(hi.1.1.2.1-b.1.2.1)) au).bf λJt pK=>?_
  have aHj:=pK.size;refine⟨_,_,_,_,_,_,_,rfl,pK.k,pK.k,pK.k,pK.k,pK.k,pK.k,λud apo=>?_⟩;generalize bA V aD az.1 1 (-(hi.1.1.2.1-b.1.2.1))=ay at*;have ay3:=zR apo;have atF:Row ud pB (hL (ax.2,true,az.2)) kr:=(atD.ext pK).same (by rw[apo];exact setRow_other _ _ _ _ aa);have ru:Ext pI ud:=(Bi.tr pK).af apo aa;have xd:=Ext.dr ud;have zd:=nV ud;have x17d:=rG.tr (yB.tr (ru.tr xd));refine(Kv b ay.1 (qk hb aa) (qk n4 aa) ud.drew).bf λWm lJ=>?_
  have aHk:=lJ.size;refine⟨_,rfl,lJ.k,lJ.k,lJ.k,lJ.k,lJ.k,lJ.k,Lo.wv (rp.ext (x17d.tr lJ)),Lo.wv (rb.ext (x17d.tr lJ)),(Kv b mv.1 (qk hb aa) (qk hpn aa) Wm).bf λBh lK=>?_⟩;have aHl:=lK.size;have Ij:=x17d.tr (lJ.tr lK);refine⟨_,rfl,lK.k,lK.k,lK.k,lK.k,lK.k,lK.k,Br.mk (λq=>?_) (λq=>?_)⟩
  ·have q:=eK q;rw[if_pos q]at hstep;rw[hstep];obtain⟨q1,q2⟩:=EO (gb:=w1.heap.size) (rh.ext Ij) (ro.ext Ij) rfl aa aa aa #[mv.1.1.1,mv.1.1.2.1,mv.1.1.2.2,mv.1.2.1,mv.1.2.2.1,mv.1.2.2.2];refine⟨_,_,_,q1,λie Jq=>?_⟩;obtain⟨q3,q4,q5⟩:=q2 ie Jq;refine⟨q3,⟨rfl,q4⟩,pD aa,pD aa,pD aa,pD aa,pD aa,pD aa,λdL OX=>?_⟩;obtain⟨q6,q7⟩:=q5 dL OX;exact⟨_,_,_,q6,rfl,q7.ext (ake.tr Ij) λi hi=>by omega⟩
  ·have q:=eK q;rw[if_neg q]at hstep;rw[hstep];obtain⟨q1,q2⟩:=EO (gb:=w1.heap.size) (atF.ext (xd.tr (lJ.tr lK))) (ro.ext Ij) rfl aa aa aa #[ay.1.1.1,ay.1.1.2.1,ay.1.1.2.2,ay.1.2.1,ay.1.2.2.1,ay.1.2.2.2];refine⟨_,_,_,q1,λie Jq=>?_⟩;obtain⟨q3,q4,q5⟩:=q2 ie Jq;refine⟨q3,⟨rfl,q4⟩,pD aa,pD aa,pD aa,pD aa,pD aa,pD aa,λdL OX=>?_⟩;obtain⟨q6,q7⟩:=q5 dL OX;exact⟨_,_,_,q6,rfl,q7.ext (ake.tr Ij) λi hi=>by omega⟩
def am0(n:Int):(if 70368744177664<(if(-70368744177664)>n then(-70368744177664)else n)then 70368744177664 else(if(-70368744177664)>n then(-70368744177664)else n))=iW n:=by
 unfold iW
 repeat' split
 all_goals omega
def Cy(n:Int)(w:World):kh 265 #[n] w (vI (iW n)):=by apply DL.vc;exact⟨by rw[am0],rfl⟩
def KI(b:eJ)(d:Ce)(w:World):ed 205 #[Ip b,fQ d] w ((fQ (jA b.aw d))):=by
 apply IL.vc;intro w0 e0 w1 e1 w2 e2;have x0:=aU e0;have z0:=zA e0;have r0:Row w0 w (pc b) DR:=Row.nw e0;have x1:=aU e1;have z1:=zA e1;have x2:=aU e2;have z2:=zA e2;refine(jw b.aw d w2).bf λw3 x3=>?_
 have z3:=x3.size;refine⟨_,_,_,rfl,x3.k,x3.k,x3.k,λw7 e7 w8 e8=>?_⟩;have x8:Ext w3 w8.drew:=((aU e7).af e8 (ak _)).drew;have z8:w8.drew.heap.size=w3.heap.size+1:=by show w8.heap.size=_;rw[zR e8,zA e7]
 have r8:Row w8.drew w3 (eV (iY b.aw d)) iq:=(by rw[e8];exact Row.set (by rw[e7];exact Row.new w3 [_,_,_] _) [_,_,_]:Row w8 w3 _ iq).ext (Ext.dr w8);have rb:=r0.ext (x1.tr (x2.tr (x3.tr x8)));refine(Cy (iY b.aw d).1 w8.drew).eL ?_;refine⟨_,rfl,rfl,rfl,rfl,rfl,tP rb rfl rfl rfl,xG r8 rfl,xG r8 rfl,(Cy (iY b.aw d).2.1 w8.drew).eL ?_⟩;refine⟨_,rfl,rfl,rfl,rfl,rfl,tP rb rfl rfl rfl,xG r8 rfl,(Cy (iY b.aw d).2.2 w8.drew).eL ?_⟩;refine⟨_,rfl,rfl,rfl,rfl,rfl,tP rb rfl rfl rfl,(vD (iW (iY b.aw d).1,iW (iY b.aw d).2.1,iW (iY b.aw d).2.2) b.aw w8.drew).bf λc9 dn=>?_⟩;have z15:=dn.size;exact⟨_,_,_,rfl,dn.k,dn.k,dn.k,dn.k,λfm Td=>⟨rfl,(x0.tr (x1.tr (x2.tr (x3.tr (x8.tr dn))))).af Td aa⟩⟩
abbrev QO:=Int×Int×Bool
abbrev inV(i:QO):Value:=.agg #[i.1,i.2.1,.bool i.2.2]
abbrev inL(i:QO):LV:=[vI i.1,vI i.2.1,.bool i.2.2]
abbrev ai1:TypeId:=101
def tq(b:eJ)(i:QO):eJ:={b with speed:=(Kc i.1,b.speed.2.1,Kc i.2.1)}
def VK(b:eJ)(v:Value)(i:QO)(w:World):ed 139 #[Ip b,v,inV i] w ((Ip (tq b i))):=by
 apply DN.vc;intro w0 e0 w1 e1 w2 e2;have x0:=aU e0;have z0:=zA e0;have x1:=aU e1;have z1:=zA e1;have r1:Row w1 w0 (inL i) ai1:=Row.nw e1;have x2:Ext w1 w2.drew:=(aU e2).drew;have z2:w2.drew.heap.size=w1.heap.size+1:=(zA e2:w2.heap.size=_);refine(C5 i.1 w2.drew).bf λw3 x3=>?_
 have z3:=x3.size;refine⟨_,rfl,x3.k,x3.k,x3.k,xG (r1.ext (x2.tr x3)) rfl,(C5 i.2.1 w3).bf λw5 x5=>?_⟩;have z5:=x5.size;exact⟨_,rfl,x5.k,x5.k,x5.k,λw7 e7 w8 e8 w9 e9=>⟨rfl,((((x0.tr (x1.tr (x2.tr (x3.tr x5)))).af e7 aa).af e8 aa).af e9 aa)⟩⟩
def wS(n jump less least:Int)(j:Bool):Int:=if j then jump else max (n-less) (-least)
def tp(V:Ce->Int)(b:eJ)(i:QO):eJ:=
 if j8 V b.box (λx=>x==4)=true then {b with speed:=(b.speed.1,wS b.speed.2.1 8192 4096 8192 i.2.2,b.speed.2.2)}
 else if j8 V b.box rW=true then {b with speed:=(b.speed.1,wS b.speed.2.1 6144 1024 8192 i.2.2,b.speed.2.2)}
 else {b with speed:=(b.speed.1,wS b.speed.2.1 28672 4096 262144 (i.2.2&&j8 V (nL b.box) aD),b.speed.2.2)}
def vM(b:eJ)(jump less least:Int)(j:Bool){gb gp gi:Nat}{w:World}{τ:TypeId}{i:QO}(hb:Row w gb (pc b) DR)(hp:Row w gp [.pointer (jM gb 4)] τ)(hi:Row w gi [i.1,i.2.1,j] ai1)(hs:cH (b.speed.2.1-less))(hl:0<=least/\least<=1000000)(hn:gb≠gp/\gb≠gi):
  ab 201 #[jump,less,least,gp,gi] w λe w'=>e=pz/\Row w' gb (pc {b with speed:=(b.speed.1,wS b.speed.2.1 jump less least j,b.speed.2.2)}) DR/\Mod (λk=>k=gb) w w':=by
 apply zE.vc;have xd:=Ext.dr w;have hb':=hb.ext xd;have hp':=hp.ext xd;have e1:aC (b.speed.2.1-less)=b.speed.2.1-less:=aL hs;have e2:aC (0-least)= -least:=by rw[wI];omega
 have e3:(if -least>b.speed.2.1-less then -least else b.speed.2.1-less)=max (b.speed.2.1-less) (-least):=by split<;>omega
 refine⟨_,hp'.at 0 rfl,_,hp'.at 0 rfl,lC rfl ⟨_,hb'.at 4 rfl,lC rfl ?_⟩⟩;rw[e1,e2,e3];obtain⟨p1,p2⟩:=hb'.ft (j:=4) (v:=vI (max (b.speed.2.1-less) (-least))) (show 4<9 by decide) rfl;refine⟨⟨rfl,p1⟩,λw3 e3=>?_⟩;obtain⟨q1,q2⟩:=p2 w3 e3;have hm:=(Mod.aq (F:=λk=>k=gb) xd).trans q2;have hi3:=(hi.ext xd).same (q2.same _ (hi.ext xd).lt (Ne.symm hn.2));have hp3:=hp'.same (q2.same _ hp'.lt (Ne.symm hn.1));refine⟨j,hi3.at 2 rfl,?_⟩
 cases j with
 |false=>exact⟨rfl,q1,hm⟩
 |true=>
  obtain⟨p3,p4⟩:=q1.ft (j:=4) (v:=vI jump) (show 4<9 by decide) rfl;refine⟨_,hp3.at 0 rfl,lC rfl ⟨⟨rfl,p3⟩,λw6 e6=>?_⟩⟩;obtain⟨q3,q4⟩:=p4 w6 e6;exact⟨rfl,q3,hm.trans q4⟩
def VL{v:Value}{V:Ce->Int}{w:World}(hV:Tl v V w)(hv:kq v=[])(b:eJ)(hw:cH b.wd)(hs: -1000000<=b.speed.2.1/\b.speed.2.1<=1000000)(i:QO):
  ed 140 #[Ip b,v,inV i] w ((Ip (tp V b i))):=by
 apply DP.vc;intro w0 e0 w1 e1 w2 e2;have x0:=aU e0;have z0:=zA e0;have r0:Row w0 w (pc b) DR:=Row.nw e0;have x1:=aU e1;have z1:=zA e1;have r1:Row w1 w0 (inL i) ai1:=Row.nw e1;have x2:=aU e2;have z2:=zA e2;refine(kC b hw w2).bf λw3 x3=>?_
 have z3:=x3.size;refine⟨_,_,_,_,_,_,rfl,x3.k,x3.k,x3.k,λbr vv bE A8 bN ui bw Dz=>?_⟩;have z10:=zA vv;have z11:=zA A8;have z12:=zR ui;have z13:=zR Dz;have cJ:Ext w3 bw:=(((aU vv).aZ A8).af ui (ak _)).af Dz aa;have rp:∃τ,Row bw br [.pointer (jM w.heap.size 4)] τ:=⟨_,by
  rw[Dz];exact Row.set ((by rw[A8];exact Row.new br [_] _:Row bE br _ _).same (by rw[ui];exact setRow_other _ _ _ _ aa)) [_]⟩
 obtain⟨τ,rp⟩:=rp;have rb:=r0.ext (x1.tr (x2.tr (x3.tr cJ)));have ri:=r1.ext (x2.tr (x3.tr cJ));have xw:=x0.tr (x1.tr (x2.tr (x3.tr cJ)));have fin:∀{bZ:World}{b':eJ},Row bZ w (pc b') DR->Ext w bZ->∃(dO:Int)(dc:Int)(dQ:Int)(fe:Int)(fk:Int)(fX:Int)(iB:Int)(jn:Int)(b25:Bool),ah bZ (aB w.heap.size) 0 [dO,dc,dQ,fe,fk,fX,iB,jn,b25]/\
   ∀kN:World,kN=bZ.setRow w1 #[dO,dc,dQ,fe,fk,fX,iB,jn,b25]->(Ending.returned (.agg #[dO,dc,dQ,fe,fk,fX,iB,jn,b25])=(Ip b')/\Ext w kN):=λhr x=>⟨_,_,_,_,_,_,_,_,_,Lo.wv hr,λkN TB=>⟨rfl,x.af TB aa⟩⟩
 unfold tp;refine(Qh (hV.ext xw) hv b.box).bf λcp cY=>?_
 have z14:=cY.size;refine⟨_,rfl,cY.k,cY.k,Br.mk (λhc=>?_) (λhc=>?_)⟩
 ·rw[if_pos hc];refine(vM b 8192 4096 8192 i.2.2 (rb.ext cY) (rp.ext cY) (ri.ext cY) inO au ⟨aa,aa⟩).mono ?_;rintro e bZ ⟨rfl,hr,hm⟩;exact⟨rfl,hm.same _ aa aa,hm.same _ aa aa,fin hr (hm.ext (xw.tr cY) λk hk=>by omega)⟩
 rw[if_neg (by rw[hc];decide)];refine(Zk (hV.ext (xw.tr cY)) hv b.box).bf λgO jl=>?_
 have z27:=jl.size;have akl:=xw.tr (cY.tr jl);have apy:=rb.ext (cY.tr jl);have apz:=rp.ext (cY.tr jl);have apA:=ri.ext (cY.tr jl);refine⟨_,rfl,jl.k,jl.k,Br.mk (λnA=>?_) (λnA=>⟨_,apA.at 2 rfl,?_⟩)⟩
 ·rw[if_pos nA];refine(vM b 6144 1024 8192 i.2.2 apy apz apA inO au ⟨aa,aa⟩).mono ?_;rintro e bZ ⟨rfl,hr,hm⟩;exact⟨rfl,hm.same _ aa aa,hm.same _ aa aa,fin hr (hm.ext akl λk hk=>by omega)⟩
 rw[if_neg (by rw[nA];decide)];have last:∀(j:Bool)(kO:World),Ext gO kO->Wr kO (jM w0.heap.size 2) 1/\∀iO:World,iO=Vc.bB kO (jM w0.heap.size 2) [.bool j]->Row iO w0 [i.1,i.2.1,.bool j] ai1/\Mod (λk=>k=w0.heap.size) kO iO:=λj kO kA=>(apA.ext kA).ft (j:=2) (v:=.bool j) (show 2<3 by decide) rfl
 refine Br.mk (λhj=>(qd (hV.ext akl) hv b.box).mono ?_) (λhj=>?_)
 ·rintro e kO ⟨rfl,kA⟩;have z41:=kA.size;rw[hj,oU];generalize j8 V (nL b.box) aD=st;obtain⟨p1,p2⟩:=last st kO kA;refine⟨_,rfl,kA.k,kA.k,p1,pD aa,pD aa,λiO Yn=>?_⟩;obtain⟨q1,q2⟩:=p2 iO Yn;have z43:=q2.size;refine(vM (i:=i) b 28672 4096 262144 st ((apy.ext kA).same (q2.same _ aa aa)) ((apz.ext kA).same (q2.same _ aa aa)) q1 inO au ⟨aa,aa⟩).mono ?_;rintro e bZ ⟨rfl,hr,hm⟩;exact⟨rfl,hm.same _ aa aa,hm.same _ aa aa,fin hr (hm.ext (q2.ext (akl.tr kA) λk hk=>by omega) λk hk=>by omega)⟩
 ·rw[hj,C9];obtain⟨p1,p2⟩:=last false gO (Ext.bT _);refine⟨p1,pD aa,pD aa,λiO Yn=>?_⟩;obtain⟨q1,q2⟩:=p2 iO Yn;have z43:=q2.size;refine(vM (i:=i) b 28672 4096 262144 false (apy.same (q2.same _ aa aa)) (apz.same (q2.same _ aa aa)) q1 inO au ⟨aa,aa⟩).mono ?_;rintro e bZ ⟨rfl,hr,hm⟩;exact⟨rfl,hm.same _ aa aa,hm.same _ aa aa,fin hr (hm.ext (q2.ext akl λk hk=>by omega) λk hk=>by omega)⟩
def rN{w w':World}{l:LV}{t:TypeId}(e:w'=w.alloc (.cells l.toArray t)):Row w' w l t:=by rw[e];exact Row.new _ _ _
def rS{w w':World}{g:Nat}{l cs:LV}{t:TypeId}(h:Row w g cs t)(e:w'=w.setRow g l.toArray):Row w' g l t:=h.st e
def GM(V:Ce->Int)(b:eJ):eJ:=
 let y:=jH V aD b.box (jA b.aw b.speed) 32768
 {b with aw:=iY b.aw (uJ y.1.1 b.box.1),speed:=uW y.2 b.speed,fG:=j8 V (nL y.1) aD}
def jj(V:Ce->Int)(b:eJ)(d:Ce):eJ:={b with aw:=iY b.aw (uJ (j4 V aD b.box (jA b.aw d)).1.1 b.box.1)}
def aaR{v:Value}{V:Ce->Int}{w:World}(hV:Tl v V w)(hv:kq v=[])(b:eJ)(hw:cH b.wd){m:Int}(hnb:bU b.box m)(hm:m<=99980000000000)(i:QO):
  ed 141 #[Ip b,v,inV i] w ((Ip (GM V b))):=by
 have hgo:GM V b={b with aw:=iY b.aw (uJ (jH V aD b.box (jA b.aw b.speed) 32768).1.1 b.box.1),speed:=uW (jH V aD b.box (jA b.aw b.speed) 32768).2 b.speed,fG:=j8 V (nL (jH V aD b.box (jA b.aw b.speed) 32768).1) aD}:=rfl;apply Gc.vc;intro w0 e0 w1 e1 w2 e2;have x0:=aU e0;have z0:=zA e0;have r0:Row w0 w (pc b) DR:=Row.nw e0;have x1:=aU e1;have z1:=zA e1;have x2:=aU e2;have z2:=zA e2;refine(kC b hw w2).bf λw3 x3=>?_
 have z3:=x3.size;refine⟨_,_,_,_,_,_,rfl,x3.k,x3.k,x3.k,λbr vv bE A8=>?_⟩;have z10:=zA vv;have z11:=zR A8;have bS:Ext w3 bE:=(aU vv).af A8 (ak _);have rwas:Row bE w3 (pE b.box) fR:=by rw[A8];exact Row.set (by rw[vv];exact Row.new w3 [_,_,_,_,_,_] _) [_,_,_,_,_,_]
 have rb:=r0.ext (x1.tr (x2.tr (x3.tr bS)));have xw:=x0.tr (x1.tr (x2.tr (x3.tr bS)));have apw:=hV.ext xw;have rwas0:=rwas;refine⟨λp q wj=>∃gB gH:Nat,p=aB gB/\q=aB gH/\Row wj gB (pE (jH V aD b.box (jA b.aw b.speed) 32768).1) fR/\Row wj gH (hL (jH V aD b.box (jA b.aw b.speed) 32768).2) kr/\Ext bE wj/\bE.heap.size<=gB,?_,?_⟩
 ·have X:=Ext.dr bE;have rwas:=rwas.ext X;have zd:=nV bE;have hS:=λ(cur:World)(X:Ext bE cur)=>Vo (w:=cur) (apw.ext X) hv b.box hnb hm (jA b.aw b.speed) 32768
  generalize jH V aD b.box (jA b.aw b.speed) 32768=y at*
  repeat' first
   |(refine(KI b b.speed _).mono ?_;rintro e v ⟨rfl,xn⟩;have zn:=xn.size;refine⟨_,_,_,rfl,?_⟩;(repeat (refine⟨xn.k,?_⟩));refine⟨Lo.wv (rwas.ext xn),?_⟩;have X:=X.tr xn;have rwas:=rwas.ext xn;(try have rB:=rB.ext xn);(try have rH:=rH.ext xn);clear xn)
   |(refine(hS _ X).mono ?_;rintro e v ⟨rfl,xn⟩;have zn:=xn.size;refine⟨_,_,_,_,_,_,_,_,_,rfl,?_⟩;(repeat (refine⟨xn.k,?_⟩));have X:=X.tr xn;have rwas:=rwas.ext xn;(try have rB:=rB.ext xn);(try have rH:=rH.ext xn);clear xn)
   |(intro v en;have rBn:Row v _ [ai,ai,ai,ai,ai,ai] fR:=rN en;have xn:=(aU en);have zn:=zA en;have X:=X.tr xn;have rwas:=rwas.ext xn;(try have rB:=rB.ext xn);(try have rH:=rH.ext xn);have rB:=rBn;clear xn en)
   |(intro v en;have rHn:Row v _ (hL (false,false,false)) kr:=rN en;have xn:=(aU en);have zn:=zA en;have X:=X.tr xn;have rwas:=rwas.ext xn;(try have rB:=rB.ext xn);(try have rH:=rH.ext xn);have rH:=rHn;clear xn en)
   |(intro ws es;have zs:=zR es;have rB:Row ws _ (pE y.1) fR:=rS rB es;have rH:=rH.so es;have X:=X.af es aa;refine⟨⟨rfl,rH.wr bo⟩,pD aa,pD aa,pD aa,pD aa,pD aa,λwt et=>?_⟩;rw[rH.bB (vs:=hL y.2) bo (PB _),dC bo]at et;have zt:=zR et;have rB:=rB.so et;have rH:Row wt _ (hL y.2) kr:=rS rH et;exact⟨rfl,rfl,rfl,rfl,_,_,rfl,rfl,rB,rH,X.af et aa,aa⟩)
   |refine And.intro ?_ ?_
 ·rintro us Jw aom wj ⟨gB,gH,rfl,rfl,rB,rH,xj,hgB⟩;have zj:=xj.size;have xd:=Ext.dr wj;have zd:=nV wj;have lB:=rB.lt;have lH:=rH.lt;rw[hgo];generalize jH V aD b.box (jA b.aw b.speed) 32768=y at*;refine lC rfl ⟨_,_,_,tP (o:=0) (rB.ext xd) rfl rfl rfl,(vD y.1.1 b.box.1 wj.drew).bf λJz EC=>?_⟩;have aHT:=EC.size;have Yy:=xj.tr (xd.tr EC);refine⟨_,_,_,rfl,EC.k,EC.k,EC.k,EC.k,tP (rb.ext Yy) rfl rfl rfl,(jw b.aw (uJ y.1.1 b.box.1) Jz).bf λTj pJ=>?_⟩;have aAH:=pJ.size;refine⟨_,_,_,rfl,pJ.k,pJ.k,pJ.k,pJ.k,λyJ aca=>?_⟩;have aHU:=zR aca;have aAI:Ext w yJ:=(xw.tr (Yy.tr pJ)).af aca (ak _);have rH2:Row yJ gH (hL y.2) kr:=(rH.ext (xd.tr (EC.tr pJ))).same (by rw[aca];exact setRow_other _ _ _ _ ((rH.ext (xd.tr (EC.tr pJ))).ne ((rb.ext (Yy.tr pJ))) au));have rB2:Row yJ gB (pE y.1) fR:=(rB.ext (xd.tr (EC.tr pJ))).same (by rw[aca];exact setRow_other _ _ _ _ aa);have n1:gH≠w:=(rH.ext (xd.tr (EC.tr pJ))).ne ((rb.ext (Yy.tr pJ))) au;refine⟨_,_,_,Lo.wv rH2,(aan y.2 b.speed yJ).bf λaop JB=>?_⟩;have aHX:=JB.size;refine⟨_,_,_,rfl,JB.k,JB.k,JB.k,JB.k,λabR apx=>?_⟩;have aHY:=zR apx;have agA:Ext w abR:=(aAI.tr JB).af apx (ak _);have rB3:Row abR gB (pE y.1) fR:=(rB2.ext JB).same (by rw[apx];exact setRow_other _ _ _ _ aa);refine⟨_,_,_,_,_,_,Lo.wv rB3,(qd (hV.ext agA) hv y.1).bf λaoq acb=>?_⟩;have aH0:=acb.size;refine⟨_,rfl,acb.k,acb.k,acb.k,acb.k,λar0 aAJ ar1 aAK=>⟨rfl,((agA.tr acb).af aAJ (ak _)).af aAK aa⟩⟩
def GN{v:Value}{V:Ce->Int}{w:World}(hV:Tl v V w)(hv:kq v=[])(b:eJ)(hw:cH b.wd){m:Int}(hnb:bU b.box m)(hm:m<=99990000000000)(d:Ce):
  ed 144 #[Ip b,v,fQ d] w ((Ip (jj V b d))):=by
 have hgo:jj V b d={b with aw:=iY b.aw (uJ (j4 V aD b.box (jA b.aw d)).1.1 b.box.1)}:=rfl;apply DQ.vc;intro w0 e0 w1 e1 w2 e2;have x0:=aU e0;have z0:=zA e0;have r0:Row w0 w (pc b) DR:=Row.nw e0;have x1:=aU e1;have z1:=zA e1;have x2:=aU e2;have z2:=zA e2;refine(kC b hw w2).bf λw3 x3=>?_
 have z3:=x3.size;refine⟨_,_,_,_,_,_,rfl,x3.k,x3.k,x3.k,λbr vv bE A8=>?_⟩;have z10:=zA vv;have z11:=zR A8;have bS:Ext w3 bE:=(aU vv).af A8 (ak _);have rwas:Row bE w3 (pE b.box) fR:=by rw[A8];exact Row.set (by rw[vv];exact Row.new w3 [_,_,_,_,_,_] _) [_,_,_,_,_,_]
 have rb:=r0.ext (x1.tr (x2.tr (x3.tr bS)));have xw:=x0.tr (x1.tr (x2.tr (x3.tr bS)));have apw:=hV.ext xw;refine⟨λp wj=>∃gB gH:Nat,p=aB gB/\Row wj gB (pE (j4 V aD b.box (jA b.aw d)).1) fR/\Row wj gH (hL (j4 V aD b.box (jA b.aw d)).2) kr/\Ext bE wj/\bE.heap.size<=gB,?_,?_⟩
 ·have X:=Ext.dr bE;have rwas:=rwas.ext X;have zd:=nV bE;have hS:=λ(cur:World)(X:Ext bE cur)=>FL (w:=cur) (apw.ext X) hv b.box hnb hm (jA b.aw d)
  generalize j4 V aD b.box (jA b.aw d)=y at*
  repeat' first
   |(refine(KI b d _).mono ?_;rintro e v ⟨rfl,xn⟩;have zn:=xn.size;refine⟨_,_,_,rfl,?_⟩;(repeat (refine⟨xn.k,?_⟩));refine⟨Lo.wv (rwas.ext xn),?_⟩;have X:=X.tr xn;have rwas:=rwas.ext xn;(try have rB:=rB.ext xn);(try have rH:=rH.ext xn);clear xn)
   |(refine(hS _ X).mono ?_;rintro e v ⟨rfl,xn⟩;have zn:=xn.size;refine⟨_,_,_,_,_,_,_,_,_,rfl,?_⟩;(repeat (refine⟨xn.k,?_⟩));have X:=X.tr xn;have rwas:=rwas.ext xn;(try have rB:=rB.ext xn);(try have rH:=rH.ext xn);clear xn)
   |(intro v en;have rBn:Row v _ [ai,ai,ai,ai,ai,ai] fR:=rN en;have xn:=(aU en);have zn:=zA en;have X:=X.tr xn;have rwas:=rwas.ext xn;(try have rB:=rB.ext xn);(try have rH:=rH.ext xn);have rB:=rBn;clear xn en)
   |(intro v en;have rHn:Row v _ (hL (false,false,false)) kr:=rN en;have xn:=(aU en);have zn:=zA en;have X:=X.tr xn;have rwas:=rwas.ext xn;(try have rB:=rB.ext xn);(try have rH:=rH.ext xn);have rH:=rHn;clear xn en)
   |(intro ws es;have zs:=zR es;have rB:Row ws _ (pE y.1) fR:=rS rB es;have rH:=rH.so es;have X:=X.af es aa;refine⟨⟨rfl,rH.wr bo⟩,pD aa,pD aa,pD aa,pD aa,pD aa,λwt et=>?_⟩;rw[rH.bB (vs:=hL y.2) bo (PB _),dC bo]at et;have zt:=zR et;have rB:=rB.so et;have rH:Row wt _ (hL y.2) kr:=rS rH et;exact⟨rfl,rfl,rfl,rfl,_,_,rfl,rB,rH,X.af et aa,aa⟩)
   |refine And.intro ?_ ?_
 ·rintro us Jw wj ⟨gB,gH,rfl,rB,rH,xj,hgB⟩;have zj:=xj.size;have xd:=Ext.dr wj;have zd:=nV wj;rw[hgo];generalize j4 V aD b.box (jA b.aw d)=y at*;refine lC rfl ⟨_,_,_,tP (o:=0) (rB.ext xd) rfl rfl rfl,(vD y.1.1 b.box.1 wj.drew).bf λabS EA=>?_⟩;have aH1:=EA.size;have alS:=xj.tr (xd.tr EA);refine⟨_,_,_,rfl,EA.k,EA.k,EA.k,EA.k,tP (rb.ext alS) rfl rfl rfl,(jw b.aw (uJ y.1.1 b.box.1) abS).bf λaor Jy=>?_⟩;have aH2:=Jy.size;refine⟨_,_,_,rfl,Jy.k,Jy.k,Jy.k,Jy.k,λar2 aAL yJ aca=>⟨rfl,((xw.tr (alS.tr Jy)).af aAL (ak _)).af aca aa⟩⟩
def KV(V:Ce->Int)(b:eJ)(i:QO):(tp V b i).box=b.box/\(tp V b i).wd=b.wd:=by
 unfold tp;split
 ·exact⟨rfl,rfl⟩
 ·split<;>exact⟨rfl,rfl⟩
def upB(V:Ce->Int)(b:eJ)(i:QO):Nat->eJ
 |0=>b
 |1=>tq b i
 |2=>tp V (tq b i) i
 |_=>GM V (tp V (tq b i) i)
def zU(V:Ce->Int)(b:eJ)(i:QO):eJ:=GM V (tp V (tq b i) i)
def UX{v:Value}{V:Ce->Int}{w:World}(hV:Tl v V w)(hv:kq v=[])(b:eJ)(hw:cH b.wd)(hs: -1000000<=b.speed.2.1/\b.speed.2.1<=1000000){m:Int}(hnb:bU b.box m)(hm:m<=99980000000000)(i:QO):
  ed 80 #[Ip b,v,inV i] w ((Ip (zU V b i))):=by
 apply Gd.vc;intro w0 e0 w1 e1 w2 e2;have x0:=aU e0;have z0:=zA e0;have x1:=aU e1;have z1:=zA e1;have x2:=aU e2;have z2:=zA e2;have yz:=x0.tr (x1.tr x2);refine⟨λn x a0 a1 a2 a3 a4 a5 a6 a7 a8 wr=>∃k:Nat,x=k/\k+n=3/\upB V b i k=⟨(a0,a1,a2),(a3,a4,a5),a6,a7,a8⟩/\Ext w wr/\w2.heap.size<=wr,⟨3,rfl,rfl,0,rfl,rfl,rfl,yz,ak _⟩,?_⟩;rintro n us x a0 a1 a2 a3 a4 a5 a6 a7 a8 wr ⟨k,rfl,hk,hu,xr,zr⟩;apply Br.mk<;>intro hc
 ·have hc:=eK hc;have H6:k=0\/k=1\/k=2:=by omega
  have hVr:=hV.ext xr;obtain⟨fv,h1,h2⟩:∃fv:Value,([.func (.func 139) #[] #[],.func (.func 140) #[] #[],.func (.func 141) #[] #[]]:LV)[((k:Nat):Int).toNat*1]? =some fv/\bu Tryz.prog fv [Ip (upB V b i k),v,inV i] wr λe w'=>e=(Ip (upB V b i (k+1)))/\Ext wr w':=by
   rcases H6 with rfl|rfl|rfl
   ·exact⟨_,rfl,bR (by kernel_rfl) rfl (VK b v i wr)⟩
   ·exact⟨_,rfl,bR (by kernel_rfl) rfl (VL hVr hv (tq b i) hw hs i)⟩
   ·refine⟨_,rfl,bR (by kernel_rfl) rfl (aaR hVr hv (tp V (tq b i) i) ?_ (m:=m) ?_ hm i)⟩
    ·rw[(KV V (tq b i) i).2];exact hw
    ·rw[(KV V (tq b i) i).1];exact hnb
  rw[hu]at h2;have wk:=nE (j:=k);refine⟨⟨aa,aa⟩,fv,h1,bJ h2 ?_⟩;rintro e fm ⟨rfl,dQ⟩;have z19:=dQ.size;refine⟨_,_,_,_,_,_,_,_,_,rfl,dQ.k,dQ.k,dQ.k,λgI S8=>⟨n-1,aa,rfl,rfl,k+1,wk,aa,rfl,(xr.tr dQ).af S8 aa,by rw[zR S8];omega⟩⟩
 ·have hc:=eK hc;have H6:k=3:=by omega
  subst H6;intro di vq;have hu:zU V b i=_:=hu;exact⟨by rw[hu],xr.af vq aa⟩
def ovK(a b:Bx)(i:Int):Bool:=decide (dj a.1 i<dj b.2 i)&&decide (dj b.1 i<dj a.2 i)
def vl(a b:Bx):Bool:=ovK a b 0&&ovK a b 1&&ovK a b 2
def Jo(a b:Bx)(i:Int){ga gb:Nat}{w:World}(ha:Row w ga (pE a) fR)(hb:Row w gb (pE b) fR):
  ed 216 #[i,ga,gb] w (Value.bool (ovK a b i)):=by
 apply IN.vc;have xd:=Ext.dr w;refine⟨_,_,_,tP (o:=0) (ha.ext xd) rfl rfl rfl,_,_,_,tP (o:=3) (hb.ext xd) rfl rfl rfl,(cW a.1 i w.drew).bf λw6 x6=>?_⟩;have y6:=xd.tr x6;refine⟨_,rfl,tP (o:=3) (hb.ext y6) rfl rfl rfl,(cW b.2 i w6).bf λw8 x8=>?_⟩;have y8:=y6.tr x8;unfold ovK;refine⟨_,rfl,Br.mk (λhc=>⟨_,_,_,tP (o:=0) (hb.ext y8) rfl rfl rfl,_,_,_,tP (o:=3) (ha.ext y8) rfl rfl rfl,(cW b.1 i w8).mono ?_⟩) (λhc=>⟨by rw[hc,C9],y8⟩)⟩;rintro e bZ ⟨rfl,dw⟩;have y16:=y8.tr dw;refine⟨_,rfl,tP (o:=3) (ha.ext y16) rfl rfl rfl,(cW a.2 i bZ).bf λdA dc=>?_⟩;exact⟨_,rfl,by rw[hc,oU],y16.tr dc⟩
def afE(f:Int->Bool)(fv:Value)(w:World)(hf:∀w',Ext w w'->∀i:Int,bu Tryz.prog fv [i] w' λe w''=>e=Value.bool (f i)/\Ext w' w''):
  ed 215 #[fv] w (Value.bool (f 0&&f 1&&f 2)):=by
 apply ah2.vc;refine⟨λn x wr=>∃k:Nat,x=k/\k+n=3/\(∀j:Nat,j<k->f j=true)/\Ext w wr,⟨3,0,rfl,rfl,λj hj=>absurd hj aa,Ext.bT _⟩,?_⟩;rintro n us x wr ⟨k,rfl,hk,hj,xr⟩;apply Br.mk<;>intro hc
 ·have hc:(k:Int)<3:=by simpa using hc
  refine bJ (hf wr xr k) ?_;rintro e w6 ⟨rfl,x6⟩;have wk:=nE (j:=k);refine⟨_,rfl,Br.mk (λhq=>⟨?_,xr.tr x6⟩) (λhq=>⟨n-1,aa,k+1,wk,aa,λj hjk=>?_,xr.tr x6⟩)⟩
  ·have hq:f k=false:=by simpa using hq
   have H6:k=0\/k=1\/k=2:=by omega
   have:(f 0&&f 1&&f 2)=false:=by
    rcases H6 with rfl|rfl|rfl
    ·rw[show f 0=false from hq];rfl
    ·rw[show f 1=false from hq,Bool.and_false];rfl
    ·rw[show f 2=false from hq,Bool.and_false]
   rw[this]
  ·have hq:f k=true:=by simpa using hq
   by_cases he:j=k
   ·rw[he];exact hq
   ·exact hj j aa
 ·have hc:¬(k:Int)<3:=by simpa using hc
  refine⟨?_,xr⟩;rw[show f 0=true from hj 0 aa,show f 1=true from hj 1 aa,show f 2=true from hj 2 aa];rfl
def AZ(a b:Bx)(w:World):ed 148 #[xB a,xB b] w (Value.bool (vl a b)):=by
 apply PZ.vc;intro w0 e0 w1 e1;have x0:=aU e0;have r0:Row w0 w (pE a) fR:=Row.nw e0;have x1:=aU e1;have r1:Row w1 w0 (pE b) fR:=Row.nw e1;have z0:=zA e0;have z1:=zA e1;refine(afE (ovK a b) (.func (.func 216) #[] #[w,w0]) w1 λw' x' i=>bR (by kernel_rfl) rfl (Jo a b i (r0.ext (x1.tr x')) (r1.ext x'))).bf λw2 x2=>?_
 have z2:=x2.size
 first
  |exact⟨_,rfl,rfl,x0.tr (x1.tr x2)⟩
  |exact⟨_,rfl,x2.k,x2.k,rfl,x0.tr (x1.tr x2)⟩
def R9(x y:Bx)(i:Int):Int:=aC ((if dj y.2 i<dj x.2 i then dj y.2 i else dj x.2 i)-(if dj y.1 i>dj x.1 i then dj y.1 i else dj x.1 i))
def yn(a b:Bx)(i:Int){ga gb:Nat}{w:World}(ha:Row w ga (pE a) fR)(hb:Row w gb (pE b) fR):
  ed 209 #[i,ga,gb] w (vI (R9 a b i)):=by
 apply P2.vc;have xd:=Ext.dr w;refine⟨_,_,_,tP (o:=3) (ha.ext xd) rfl rfl rfl,_,_,_,tP (o:=3) (hb.ext xd) rfl rfl rfl,_,_,_,tP (o:=0) (ha.ext xd) rfl rfl rfl,_,_,_,tP (o:=0) (hb.ext xd) rfl rfl rfl,(cW a.2 i w.drew).bf λw6 x6=>?_⟩;have y6:=xd.tr x6;refine⟨_,rfl,tP (o:=0) (hb.ext y6) rfl rfl rfl,tP (o:=0) (ha.ext y6) rfl rfl rfl,tP (o:=3) (hb.ext y6) rfl rfl rfl,(cW b.2 i w6).bf λw8 x8=>?_⟩;have y8:=y6.tr x8;refine⟨_,rfl,tP (o:=0) (hb.ext y8) rfl rfl rfl,tP (o:=0) (ha.ext y8) rfl rfl rfl,(cW a.1 i w8).bf λbZ dw=>?_⟩;have y16:=y8.tr dw;refine⟨_,rfl,tP (o:=0) (hb.ext y16) rfl rfl rfl,(cW b.1 i bZ).bf λdA dc=>?_⟩;exact⟨_,rfl,rfl,y16.tr dc⟩
def axP(a b:eJ):Int:=if R9 a.box b.box 0>R9 a.box b.box 2 then 2 else 0
def nP(a b:eJ):Int:=if 4096<R9 a.box b.box (axP a b)then 4096 else R9 a.box b.box (axP a b)
def sP(a b:eJ):Int:=if dj a.aw (axP a b)<=dj b.aw (axP a b)then aC (0-nP a b)else nP a b
def jJ(a b:eJ):Ce×Ce:=if vl a.box b.box=true then(fV (0,0,0) (axP a b) (sP a b),fV (0,0,0) (axP a b) (aC (0-sP a b)))else((0,0,0),(0,0,0))
def ZX(a b:eJ)(hwa:cH a.wd)(hwb:cH b.wd)(w:World):
  ed 143 #[Ip a,Ip b] w (Value.tuple #[fQ (jJ a b).1,fQ (jJ a b).2]):=by
 apply Za.vc;intro w0 e0 w1 e1 w2 e2 w3 e3;have x0:=aU e0;have z0:=zA e0;have r0:Row w0 w (pc a) DR:=Row.nw e0;have x1:=aU e1;have z1:=zA e1;have r1:Row w1 w0 (pc b) DR:=Row.nw e1;have x2:=aU e2;have z2:=zA e2;have x3:=aU e3;have z3:=zA e3;have OL:=x0.tr (x1.tr (x2.tr x3));have ra:=r0.ext (x1.tr (x2.tr x3));have rb:=r1.ext (x2.tr x3);refine⟨λp q wj=>∃gX gY:Nat,p=some ⟨gX,0,none⟩/\q=some ⟨gY,0,none⟩/\Row wj gX (pE a.box) fR/\Row wj gY (pE b.box) fR/\Ext w3 wj,?_,?_⟩
 ·have X:=Ext.dr w3;have zd:=nV w3;have hA:=λw=>kC a hwa w
  have hB:=λw=>kC b hwb w
  generalize a.box=A at hA⊢;generalize b.box=B at hB⊢
  repeat' first
   |(with_reducible refine(hA _).mono ?_;rintro e v ⟨rfl,xn⟩;have zn:=xn.size;refine⟨_,_,_,_,_,_,rfl,?_⟩;(repeat (refine⟨xn.k,?_⟩));refine⟨Lo.wv (r1.ext (x2.tr (x3.tr (X.tr xn)))),?_⟩;have X:=X.tr xn;(try have rX:=rX.ext xn);(try have rY:=rY.ext xn);clear xn)
   |(with_reducible refine(hB _).mono ?_;rintro e v ⟨rfl,xn⟩;have zn:=xn.size;refine⟨_,_,_,_,_,_,rfl,?_⟩;(repeat (refine⟨xn.k,?_⟩));have X:=X.tr xn;(try have rX:=rX.ext xn);(try have rY:=rY.ext xn);clear xn)
   |(intro v en;have rn:Row v _ [ai,ai,ai,ai,ai,ai] fR:=rN en;have xn:=(aU en);have zn:=zA en;have X:=X.tr xn;(try have rY:=rX.ext xn);have rX:=rn;clear xn en rn)
   |(intro ws es wt et;have zs:=zR es;have zt:=zR et;have q1:Row ws _ (pE A) fR:=rS rX es;have q2:=rY.so es;have q3:Row wt _ (pE B) fR:=rS q2 et;have q1:=q1.so et;exact⟨rfl,rfl,rfl,rfl,_,_,rfl,rfl,q1,q3,(X.af es aa).af et aa⟩)
   |(intro ws es wt et;have zs:=zR es;have zt:=zR et;have q1:Row ws _ (pE A) fR:=rS rY es;have q2:=rX.so es;have q3:Row wt _ (pE B) fR:=rS q2 et;have q1:=q1.so et;exact⟨rfl,rfl,rfl,rfl,_,_,rfl,rfl,q1,q3,(X.af es aa).af et aa⟩)
   |refine And.intro ?_ ?_
 ·rintro us p q wj ⟨gX,gY,rfl,rfl,rX,rY,xj⟩;have zj:=xj.size;refine⟨_,_,_,_,_,_,Lo.wv rX,_,_,_,_,_,_,Lo.wv rY,(AZ a.box b.box wj).bf λTr CM=>?_⟩;have aIa:=CM.size;have rX5:=rX.ext CM;have rY5:=rY.ext CM;have xw:=OL.tr (xj.tr CM);unfold jJ;refine⟨_,rfl,CM.k,CM.k,CM.k,CM.k,Br.mk (λhc ar6 aAR ar7 aAS=>⟨?_,(xw.af aAR aa).af aAS aa⟩) (λhc=>?_)⟩
  ·have hc:vl a.box b.box=false:=by simpa using hc
   rw[hc];rfl
  ·have hc:vl a.box b.box=true:=by simpa using hc
   rw[if_pos hc];refine⟨λx wr=>x=axP a b/\Ext Tr wr,?_,?_⟩
   ·refine(yn a.box b.box 0 rX5 rY5).bf λajQ OQ=>?_
    have aIb:=OQ.size;refine⟨_,rfl,OQ.k,OQ.k,OQ.k,OQ.k,(yn a.box b.box 2 (rX5.ext OQ) (rY5.ext OQ)).bf λajR WK=>?_⟩;have aIc:=WK.size;unfold axP;refine⟨_,rfl,WK.k,WK.k,WK.k,WK.k,Br.mk (λq=>⟨rfl,rfl,rfl,rfl,?_,OQ.tr WK⟩) (λq=>⟨rfl,rfl,rfl,rfl,?_,OQ.tr WK⟩)⟩
    ·rw[if_pos (by simpa using q)]
    ·rw[if_neg (by simpa using q)]
   ·rintro us x wr ⟨rfl,xr⟩;have zr:=xr.size;refine⟨λx wr=>x=nP a b/\Ext Tr wr,?_,?_⟩
    ·refine(yn a.box b.box (axP a b) (rX5.ext xr) (rY5.ext xr)).bf λTi Tk=>?_
     have aId:=Tk.size;exact⟨_,rfl,Tk.k,Tk.k,Tk.k,Tk.k,rfl,rfl,rfl,rfl,rfl,xr.tr Tk⟩
    ·rintro us x wr ⟨rfl,xr⟩;have zr:=xr.size;have xd:=Ext.dr wr;have zd:=nV wr;have yd:=xj.tr (CM.tr (xr.tr xd));refine⟨λx wr=>x=sP a b/\Ext Tr wr,?_,?_⟩
     ·refine(cW a.aw (axP a b) wr.drew).bf λabV EB=>?_
      have aIe:=EB.size;refine⟨_,rfl,EB.k,EB.k,EB.k,EB.k,tP (o:=0) (rb.ext (yd.tr EB)) rfl rfl rfl,(cW b.aw (axP a b) abV).bf λTj pJ=>?_⟩;have aAH:=pJ.size;unfold sP;refine⟨_,rfl,pJ.k,pJ.k,pJ.k,pJ.k,Br.mk (λq=>⟨rfl,rfl,rfl,rfl,?_,xr.tr (xd.tr (EB.tr pJ))⟩) (λq=>⟨rfl,rfl,rfl,rfl,?_,xr.tr (xd.tr (EB.tr pJ))⟩)⟩
      ·rw[if_pos (by simpa using q)]
      ·rw[if_neg (by simpa using q)]
     ·rintro us x ws ⟨rfl,xs⟩;have zs:=xs.size;refine(jh (0,0,0) (axP a b) (sP a b) ws).bf λagz acd=>?_
      have aIf:=acd.size;refine⟨_,_,_,rfl,acd.k,acd.k,acd.k,acd.k,(jh (0,0,0) (axP a b) (aC (0-sP a b)) agz).bf λaoC OK=>?_⟩;have aIg:=OK.size;exact⟨_,_,_,rfl,OK.k,OK.k,OK.k,OK.k,λasb aAT asc aAU=>⟨rfl,((xw.tr (xs.tr (acd.tr OK))).af aAT aa).af aAU aa⟩⟩
def okB(m:Int)(b:eJ):Prop:=c8 b.aw m/\(0<=b.wd/\b.wd<=1000000)/\(0<=b.ht/\b.ht<=1000000)/\-1000000<=b.speed.2.1/\b.speed.2.1<=1000000
def okB.up{b:eJ}{m n:Int}(h:okB m b)(hn:m<=n):okB n b:=⟨h.1.up hn,h.2⟩
def okB.wdi{b:eJ}{m:Int}(h:okB m b):cH b.wd:=by unfold cH;have:=h.2.1;omega
def okB.zG{b:eJ}{m:Int}(h:okB m b)(hm:m<=99970000000000):bU b.box (m+1000000):=Uu h.1 h.2.1 h.2.2.1 aa
def QN{V:Ce->Int}{b:eJ}{d:Ce}{m:Int}(h:okB m b)(hm:m<=99970000000000):okB (m+12582912) (jj V b d):=by
 have hn:=h.zG hm;have h1:=Mk (V:=V) (p:=aD) (d:=jA b.aw d) hn aa;have h2:=F7 (V:=V) (p:=aD) (d:=jA b.aw d) hn aa;have hm0:0<=m:=by have:=h.1;unfold c8 at this;omega
 exact⟨PU h.1 (c8.up hn.lo aa) h1.lo h2 aa aa aa,h.2⟩
def ais(h:Ht)(v:Ce)(hv: -1000000<=v.2.1/\v.2.1<=1000000): -1000000<=(uW h v).2.1/\(uW h v).2.1<=1000000:=by
 have e:(uW h v).2.1=if h.2.1=true then dD 0 else v.2.1:=by
  unfold uW
  cases h.1<;>cases h.2.1<;>cases h.2.2<;>rfl
 rw[e];have c0:dD 0=0:=by decide
 rw[c0];split<;>omega
def ait{V:Ce->Int}{b:eJ}{m:Int}(h:okB m b)(hm:m<=99970000000000):okB (m+16777216) (GM V b):=by
 have hn:=h.zG hm;have h1:=PT (V:=V) (p:=aD) (d:=jA b.aw b.speed) (up:=32768) hn aa;have hm0:0<=m:=by have:=h.1;unfold c8 at this;omega
 exact⟨PU h.1 (c8.up hn.lo aa) h1.2.lo h1.1 aa aa aa,h.2.1,h.2.2.1,ais _ _ h.2.2.2⟩
def M9{n jump less least:Int}{j:Bool}(hn: -1000000<=n/\n<=1000000)(hj: -1000000<=jump/\jump<=1000000)(hl:0<=less)(ht:0<=least/\least<=1000000): -1000000<=wS n jump less least j/\wS n jump less least j<=1000000:=by unfold wS;split<;>omega
def aiu{V:Ce->Int}{b:eJ}{i:QO}{m:Int}(h:okB m b):okB m (tp V b i):=by
 unfold tp;split
 ·exact⟨h.1,h.2.1,h.2.2.1,M9 h.2.2.2 au au au⟩
 ·split
  ·exact⟨h.1,h.2.1,h.2.2.1,M9 h.2.2.2 au au au⟩
  ·exact⟨h.1,h.2.1,h.2.2.1,M9 h.2.2.2 au au au⟩
def aiv{V:Ce->Int}{b:eJ}{i:QO}{m:Int}(h:okB m b)(hm:m<=99970000000000):okB (m+16777216) (zU V b i):=ait (aiu (b:=tq b i) h) hm
def Km(V:Ce->Int)(i k:Nat)(l:List eJ):List eJ:=
 match l[i]?,l[k]? with
 |some a,some b=>(l.set i (jj V a (jJ a b).1)).set k (jj V b (jJ a b).2)
 |_,_=>l
def U6(V:Ce->Int)(i:Nat):Nat->Nat->List eJ->List eJ
 |_,0,l=>l
 |k,n+1,l=>U6 V i (k+1) n (Km V i k l)
def crB(V:Ce->Int):Nat->Nat->List eJ->List eJ
 |_,0,l=>l
 |i,n+1,l=>crB V (i+1) n (U6 V i (i+1) (l.length-(i+1)) l)
def uX(V:Ce->Int)(l:List eJ):List eJ:=crB V 0 l.length l
def M4(b:eJ):One (pc b):=by intro u hu;simp at hu;rcases hu with rfl|rfl|rfl|rfl|rfl|rfl|rfl|rfl|rfl<;>rfl
def aea(l:List eJ):∀r∈l.map pc,r.length=9:=by intro r hr;obtain⟨b,-,rfl⟩:=bc.1 hr;rfl
def aiw(l:List eJ):∀r∈l.map pc,One r:=by intro r hr;obtain⟨b,-,rfl⟩:=bc.1 hr;exact M4 b
def QP{B:Nat}{w:World}{s:Sl}{l:List eJ}(ho:ar B DR 9 w s (l.map pc))(hl:l.length<=5000):
  ab 142 #[s] w λe w'=>∃s':Sl,e=s'/\ar w DR 9 w' s' (l.map pc)/\Ext w w':=by
 apply zF.vc;have hn:s.n=l.length:=by rw[(ho.rd au).n,aK]
 apply Br.mk<;>intro h
 ·rcases ho.form au with⟨hs,Et⟩|⟨g0,cs,ha,-⟩
  ·exact⟨⟨none,0,0⟩,rfl,by rw[Et];exact ar.nil,Ext.bT _⟩
  ·rw[ha]at h;cases h
 ·intro w0 e0;have x0:=aU e0;have Fb:=fD e0;have hr0:Row w0 w [] DR:=by rw[e0];exact Row.new _ _ _
  have lF:ar w DR 9 w0 ⟨aB w.heap.size,0,0⟩ []:=ar.jO (ak _) hr0 bo (ak _) rfl bo;obtain⟨hp,hr⟩:=lF.FB (bytes:=72) (more:=l.map pc) x0.size (aea _) (aiw _) smo smo;rw[aK,<-hn]at hp hr;refine⟨(l.map pc).flatten,((ho.ext x0).rd au).flat au,hp,λs2 w3 bq=>?_⟩;obtain⟨h1,h2,h3,h4,h5⟩:=hr s2 w3 bq;refine⟨pW bq (by rw[bQ (aea _),aK,hn]) aa,s2,rfl,h1,x0.trans h3⟩
def aeb{B:Nat}{w:World}{s:Sl}{l:List eJ}(ho:ar B DR 9 w s (l.map pc)){i:Nat}(hi:i<l.length)(x:eJ):
  (ae s.a (i*9)).isSome=true/\Wr w (ae s.a (i*9)) 9/\∀w',w'=bB w (ae s.a (i*9)) (pc x)->ar B DR 9 w' s ((l.set i x).map pc)/\Below B w w'/\Mod (λb=>s.aX=some b) w w':=by
 obtain⟨h1,h2,h3,h4,h5⟩:=ho.put (i:=i) (r:=pc x) (by simpa using hi) au rfl (M4 x);refine⟨h1,h2,λw' e=>?_⟩;subst e;exact⟨by rw[pM];exact h3,h4,h4.os,h4.tape,h4.output,h4.size,λj _ hn=>h5 j hn⟩
def UY{v:Value}{V:Ce->Int}{w:World}(hV:Tl v V w)(hv:kq v=[]){B:Nat}{s:Sl}{l:List eJ}(ho:ar B DR 9 w s (l.map pc))(hl:l.length<=16){m:Int}(hok:∀b∈l,okB m b)(hm0:0<=m)(hm:m<=99960000000000):
  ab 82 #[v,s] w λe w'=>∃s':Sl,e=s'/\ar w DR 9 w' s' ((uX V l).map pc)/\Ext w w'/\(∀b∈uX V l,okB (m+16*16*12582912) b)/\(uX V l).length=l.length:=by
 apply Uz.vc;refine(QP ho aa).mono ?_;rintro e w0 ⟨s1,rfl,h1,x1⟩;have hn1:s1.n=l.length:=by rw[(h1.rd au).n,aK]
 refine⟨s1,rfl,λn x wr=>∃(i:Nat)(cur:List eJ),x=i/\i+n=l.length/\cur.length=l.length/\ar w DR 9 wr s1 (cur.map pc)/\Ext w wr/\(∀b∈cur,okB (m+16*i*12582912) b)/\uX V l=crB V i n cur,⟨l.length,0,l,rfl,aa,rfl,h1,x1,λb hb=>(hok b hb).up aa,rfl⟩,?_⟩;rintro n us x w6 ⟨i,cur,rfl,px,cX,hO,xr,hb,TC⟩;apply Br.mk<;>intro hc
 ·have hc:i<l.length:=by
   have:(i:Int)<s1.n:=by simpa using hc
   omega
  obtain⟨n,rfl⟩:∃n',n=n'+1:=⟨n-1,aa⟩;have wk:=nE (j:=i);rw[wk];refine⟨λn8 x bN=>∃(k:Nat)(cur:List eJ),x=k/\k+n8=l.length/\i<k/\cur.length=l.length/\ar w DR 9 bN s1 (cur.map pc)/\Ext w bN/\(∀b∈cur,okB (m+(16*i+k)*12582912) b)/\uX V l=crB V (i+1) n (U6 V i k n8 cur),⟨n,i+1,cur,rfl,aa,aa,cX,hO,xr,λb hb'=>(hb b hb').up aa,?_⟩,?_⟩
  ·rw[TC];show crB V (i+1) n (U6 V i (i+1) (cur.length-(i+1)) cur)=_;rw[show cur.length-(i+1)=n from by omega]
  rintro n8 us x bN ⟨k,cur,rfl,Wb,hik,cX,hO,xr,hb,TC⟩;apply Br.mk<;>intro nA
  ·have nA:k<l.length:=by
    have:(k:Int)<s1.n:=by simpa using nA
    omega
   obtain⟨n8,rfl⟩:∃n',n8=n'+1:=⟨n8-1,aa⟩;have ha:cur[i]? =some (cur[i]'aa):=cK aa;have yG:cur[k]? =some (cur[k]'aa):=cK aa;have oka:=hb _ (List.getElem_mem (l:=cur) (n:=i) aa);have okb:=hb _ (List.getElem_mem (l:=cur) (n:=k) aa);generalize cur[i]'aa=a at ha oka;generalize cur[k]'aa=b at yG okb;have TC:uX V l=crB V (i+1) n (U6 V i (k+1) n8 ((cur.set i (jj V a (jJ a b).1)).set k (jj V b (jJ a b).2))):=by rw[TC];show crB V (i+1) n (U6 V i (k+1) n8 (Km V i k cur))=_;rw[show Km V i k cur=(cur.set i (jj V a (jJ a b).1)).set k (jj V b (jJ a b).2)from by unfold Km;rw[ha,yG]]
   have hwa:=oka.wdi;have hwb:=okb.wdi;have gF:=(hO.ext (Ext.dr bN)).rd au;have Yu:(cur.map pc)[i]? =some (pc a):=by rw[aW,ha];rfl
   have hrk:(cur.map pc)[k]? =some (pc b):=by rw[aW,yG];rfl
   have ib:∀j:Nat,j<l.length->gD s1.a (j:Int) s1.n:=λj hj=>gF.jX au aa aa
   have gl:cur.map pc≠[]:=λh=>by rw[h]at Yu;cases Yu
   have iK:∀g,s1.aX=some g->g<bN.heap.size:=λg hg=>gF.Me au gl hg
   have hX0:16*(i:Int)+k<=256:=by omega
   refine⟨λp q wj=>∃gX gY:Nat,p=aB gX/\q=aB gY/\Row wj gX (eV (jJ a b).1) iq/\Row wj gY (eV (jJ a b).2) iq/\Ext bN wj/\bN.heap.size<=gY,⟨ib i hc,_,_,_,_,_,_,_,_,_,gF.bH Yu,ib k nA,_,_,_,_,_,_,_,_,_,gF.bH hrk,?_⟩,?_⟩
   ·have X:=Ext.dr bN;have zd:=nV bN
    repeat' first
     |(refine(ZX a b hwa hwb _).mono ?_;rintro e v ⟨rfl,xn⟩;have zn:=xn.size;refine⟨_,_,_,_,_,_,rfl,?_⟩;(repeat (refine⟨xn.k,?_⟩));have X:=X.tr xn;(try have rX:=rX.ext xn);(try have rY:=rY.ext xn);clear xn)
     |(intro v en;have rn:Row v _ [ai,ai,ai] iq:=rN en;have xn:=(aU en);have zn:=zA en;have X:=X.tr xn;(try have rY:=rX.ext xn);have rX:=rn;clear xn en rn)
     |(intro ws es wt et;have zs:=zR es;have zt:=zR et;have q1:Row ws _ (eV (jJ a b).1) iq:=rS rX es;have q2:=rY.so es;have q3:Row wt _ (eV (jJ a b).2) iq:=rS q2 et;have q1:=q1.so et;exact⟨_,_,rfl,rfl,q1,q3,(X.af es aa).af et aa,aa⟩)
     |(intro ws es wt et;have zs:=zR es;have zt:=zR et;have q1:Row ws _ (eV (jJ a b).1) iq:=rS rY es;have q2:=rX.so es;have q3:Row wt _ (eV (jJ a b).2) iq:=rS q2 et;have q1:=q1.so et;exact⟨_,_,rfl,rfl,q1,q3,(X.af es aa).af et aa,aa⟩)
     |refine And.intro ?_ ?_
   ·rintro us p q wj ⟨gX,gY,rfl,rfl,rX,rY,xj,hgY⟩;have xd:=Ext.dr wj;have hOj:=hO.ext (xj.tr xd);refine⟨λw'=>ar w DR 9 w' s1 ((cur.set i (jj V a (jJ a b).1)).map pc)/\Row w' gY (eV (jJ a b).2) iq/\Ext w w',⟨ib i hc,_,_,_,_,_,_,_,_,_,(hOj.rd au).bH Yu,_,_,_,Lo.wv (rX.ext xd),(GN (hV.ext (xr.tr (xj.tr xd))) hv a hwa (oka.zG aa) aa (jJ a b).1).mono ?_⟩,?_⟩
    ·rintro e Ia ⟨rfl,Ey⟩;have hO7:=hOj.ext Ey;obtain⟨q1,q2,q3⟩:=aeb hO7 (i:=i) aa (jj V a (jJ a b).1);refine⟨_,_,_,_,_,_,_,_,_,rfl,ib i hc,⟨q1,q2⟩,λWo azm=>?_⟩;obtain⟨p1,p2,p3⟩:=q3 Wo azm;have rY7:=rY.ext (xd.tr Ey);exact⟨p1,rY7.same (p3.same _ rY7.lt (λh=>by have:=iK _ h;omega)),(xr.tr (xj.tr (xd.tr Ey))).trans p2⟩
    ·rintro us Jv ⟨atg,rY9,agx⟩;have xd9:=Ext.dr Jv;have hrd9:=(atg.ext xd9).rd au;have hrk9:((cur.set i (jj V a (jJ a b).1)).map pc)[k]? =some (pc b):=by rw[aW,GO aa,yG];rfl
     refine⟨ib k nA,_,_,_,_,_,_,_,_,_,hrd9.bH hrk9,_,_,_,Lo.wv (rY9.ext xd9),(GN (hV.ext (agx.tr xd9)) hv b hwb (okb.zG aa) aa (jJ a b).2).bf λTn ati=>?_⟩;obtain⟨q1,q2,q3⟩:=aeb ((atg.ext xd9).ext ati) (i:=k) (by rw[lO];omega) (jj V b (jJ a b).2);refine⟨_,_,_,_,_,_,_,_,_,rfl,ib k nA,⟨q1,q2⟩,λrz azn=>?_⟩;obtain⟨p1,p2,p3⟩:=q3 rz azn;refine⟨n8,aa,k+1,_,?_,aa,aa,by rw[lO,lO];exact cX,p1,(agx.tr (xd9.tr ati)).trans p2,λy hy=>?_,TC⟩
     ·rw[wI];omega
     ·rcases pY hy with hy|rfl
      ·rcases pY hy with hy|rfl
       ·exact(hb y hy).up aa
       ·exact(QN oka aa).up aa
      ·exact(QN okb aa).up aa
  ·have nA:¬k<l.length:=λh=>by
    have:¬(k:Int)<s1.n:=by simpa using nA
    omega
   have:n8=0:=by omega
   subst this;exact⟨n,aa,i+1,cur,rfl,aa,cX,hO,xr,λb hb'=>(hb b hb').up aa,TC⟩
 ·have hc:¬i<l.length:=λh=>by
   have:¬(i:Int)<s1.n:=by simpa using hc
   omega
  have:n=0:=by omega
  subst this;have TC:uX V l=cur:=TC;refine⟨s1,rfl,by rw[TC];exact hO,xr,λb hb'=>?_,by rw[TC];exact cX⟩;rw[TC]at hb';exact(hb b hb').up aa
end Go.Proofs.YtjcnjlaelhdjeaaGreatDoor
