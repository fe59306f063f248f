import Derived.Test.YtalpkjfpmdpbiaaGreatDoorRA
set_option linter.all false
namespace Go.Proofs.YtalpkjfpmdpbiaaGreatDoor
open Go Go.Vc Go.RowKit Go.Proofs Go.dS Go.bh Go.Code
abbrev Ci:=En × Sl
abbrev cw(y:Ci):LV:=[.int .i64 y.1.1.1,.int .i64 y.1.1.2,.slice y.2.a y.2.n y.2.c,.bool y.1.2.2.1,.int .i64 y.1.2.2.2]
abbrev Yh:TypeId:=110
structure RR(P:Nat->Prop)(w:World)(s:Sl)(l:List Rn):Prop where
 r:ep w s l
 p:l≠ []->∀g,s.bj=some g->P g
structure Cn(P:Nat->Prop)(w:World)(s:Sl)(its:List Ci):Prop where
 r:RdK w s 5 (its.map cw)
 y:∀y ∈ its,RR P w y.2 (cM y.1.2.1)
 p:its≠ []->∀g,s.bj=some g->P g
 c:s.n<=s.c
def HW(y:Ci):One (cw y):=by intro v hv;simp at hv;rcases hv with rfl|rfl|rfl|rfl|rfl<;>rfl
section
variable {P P':Nat->Prop} {w w':World} {s:Sl} {its:List Ci}
def RR.ext{l:List Rn}(h:RR P w s l)(x:Ext w w'):RR P w' s l:=⟨RdK.ext h.r x,h.p⟩
def RR.same{l:List Rn}(h:RR P w s l)(hk:∀i,P i->i<w.heap.size->w'.heap[i]? =w.heap[i]?/\P' i):RR P' w' s l:=by
 have hb:l.map rv≠ []->l≠ []:=λq e=>q (by rw [e];rfl)
 have hb':l≠ []->l.map rv≠ []:=λq e=>q (by simpa using e)
 exact ⟨RdK.AB h.r λdN g hg=>(hk g (h.p (hb dN) g hg) (RdK.jX h.r aC dN hg)).1,λdN g hg=>(hk g (h.p dN g hg) (RdK.jX h.r aC (hb' dN) hg)).2⟩
def RR.own{l:List Rn}{B:Nat}(h:lS B w s l)(hP:∀i,B<=i->P i):RR P w s l:=⟨lS.rS h,λ_ g hg=>hP g (h.own.lt hg).1⟩
def Cn.ext(h:Cn P w s its)(x:Ext w w'):Cn P w' s its:=⟨h.r.ext x,λy hy=>(h.y y hy).ext x,h.p,h.c⟩
def Cn.same(h:Cn P w s its)(hk:∀i,P i->i<w.heap.size->w'.heap[i]? =w.heap[i]?/\P' i):Cn P' w' s its:=by
 have hb:its.map cw≠ []->its≠ []:=λq e=>q (by rw [e];rfl)
 have hb':its≠ []->its.map cw≠ []:=λq e=>q (by simpa using e)
 exact ⟨RdK.AB h.r λdN g hg=>(hk g (h.p (hb dN) g hg) (RdK.jX h.r aC dN hg)).1,λy hy=>(h.y y hy).same hk,λdN g hg=>(hk g (h.p dN g hg) (RdK.jX h.r aC (hb' dN) hg)).2,h.c⟩
def Cn.nil:Cn P w ⟨none,0,0⟩ []:=⟨⟨rfl,(λr hr=>by cases hr),λi r hi=>by simp at hi⟩,(λy hy=>by cases hy),λh=>absurd rfl h,ax _⟩
def Cn.n(h:Cn P w s its):s.n=its.length:=by have:=h.r.n;rwa [aB] at this
def Cn.at(h:Cn P w s its){k:Nat}{y:Ci}(hk:its[k]? =some y):cA s.a (k:Int) s.n/\(ae s.a (((k:Nat):Int).toNat*5)).isSome=true/\∀j v,(cw y)[j]? =some v->ld w (ae (ae s.a (((k:Nat):Int).toNat*5)) j)=some v:=by
 have hl:=(bH.1 hk).1;have hn:=h.n;have cX:=RdK.fp h.r aC (i:=(k:Int)) aa aa;have hr:(its.map cw)[k]? =some (cw y):=by rw [aV,hk];rfl
 exact ⟨cX,by rw [ea];exact cX.1,λj v hj=>h.r.at hr hj⟩
def Cn.load(h:Cn P w s its){k:Nat}{y:Ci}(hk:its[k]? =some y):au w (ae s.a (((k:Nat):Int).toNat*5)) 0 (cw y):=
 ga λj v hj=>by rw [cP];exact (h.at hk).2.2 j v hj
def Cn.own{B:Nat}(h:aj B Yh 5 w s (its.map cw))(hy:∀y ∈ its,RR P w y.2 (cM y.1.2.1))(hP:∀i,B<=i->P i):Cn P w s its:=⟨aj.rd h aC,hy,(λ_ g hg=>hP g (h.own.lt hg).1),aj.le h⟩
end
def RC(P:Nat->Prop)(w:World)(s:Sl)(l:List En):Prop:=∃its,Cn P w s its/\its.map (·.1)=l
abbrev Ai(ag cap:Int)(d:Dk)(s1 s2 s3:Sl):Value:=.agg #[ag,cap,d.room,d.c9,d.wait,s1,s2,s3]
structure RT(P:Nat->Prop)(w:World)(T:Tb)(s1 s2 s3:Sl):Prop where
 d:wU P w T.1 s1 s2
 l:RC P w s3 T.2
abbrev Bx(P:Nat->Prop)(a b:Nat):Nat->Prop:=λi=>P i/\(i<a\/b<=i)
section
variable {P P':Nat->Prop} {w w' v v':World} {s s1 s2 s3:Sl} {T:Tb} {ag cap:Int}
def RC.ext{l:List En}(h:RC P w s l)(x:Ext w w'):RC P w' s l:=by obtain ⟨its,h1,h2⟩:=h;exact ⟨its,h1.ext x,h2⟩
def RC.same{l:List En}(h:RC P w s l)(hk:∀i,P i->i<w.heap.size->w'.heap[i]? =w.heap[i]?/\P' i):RC P' w' s l:=by obtain ⟨its,h1,h2⟩:=h;exact ⟨its,h1.same hk,h2⟩
def RC.nil:RC P w ⟨none,0,0⟩ []:=⟨[],Cn.nil,rfl⟩
def RT.ext(h:RT P w T s1 s2 s3)(x:Ext w w'):RT P w' T s1 s2 s3:=⟨h.d.ext x,h.l.ext x⟩
def RT.same(h:RT P w T s1 s2 s3)(hk:∀i,P i->i<w.heap.size->w'.heap[i]? =w.heap[i]?/\P' i):RT P' w' T s1 s2 s3:=⟨h.d.same hk,h.l.same hk⟩
def RT.nT(h:RT P w T s1 s2 s3)(x:Ext w v)(b:Nat):RT (Bx P w b) v T s1 s2 s3:=h.same λ_ hp hi=>⟨x.heap hi,hp,.inl hi⟩
def RT.box{a b g:Nat}{c:Array Value}(h:RT (Bx P a b) v T s1 s2 s3)(e:v'=v.setRow g c)(hg:a<=g/\g<b):RT (Bx P a b) v' T s1 s2 s3:=h.same λi hp _=>⟨by rw [e,setRow_other _ _ _ _ (by have:=hp.2;omega)],hp⟩
def RT.out{a b:Nat}(h:RT (Bx P a b) v T s1 s2 s3):RT P v T s1 s2 s3:=h.same λ_ hp _=>⟨rfl,hp.1⟩
def Fw.bx{b:Nat}(hP:Fw P w)(x:Ext w v)(hb:b<=v.heap.size):Fw (Bx P w b) v:=λi hi=>⟨hP i (by have:=x.size;omega),.inr aa⟩
def fQ(h:RT P w T s1 s2 s3)(hl:T.2.length<=1000000)(p:Po):
  ah 49 #[Ai ag cap T.1 s1 s2 s3,pv p] w λe w'=>e=Value.int .i64 (bC (λe:En=>e.1==p) T.2)/\Ext w w':=by
 apply (K9.vc (aK:=s1) (aL:=s2) (aH:=s3));intro w0 e0 w1 e1;have x1:Ext w w1:=(bo e0).ay e1;obtain ⟨its,kP,hm⟩:=h.l;have hn:=kP.n;have hTl:T.2.length=its.length:=by rw [<-hm,aB]
 refine ⟨λn i wr=>∃j:Nat,i=j/\j+n=its.length/\(∀m,m<j->∀y,T.2[m]? =some y->(y.1==p)=false)/\Ext w wr,⟨its.length,rfl,rfl,0,rfl,by omega,(λm hm=>absurd hm (Nat.not_lt_zero m)),x1⟩,?_⟩;rintro n us i wr ⟨j,rfl,hj,lk,xr⟩;apply Br.mk<;>intro hc
 ·replace hc:=fe hc;obtain ⟨y,hy⟩:=aZ (l:=its) (i:=j) aa;have hyT:T.2[j]? =some y.1:=by rw [<-hm,aV,hy];rfl
  have xd:=xr.tr (Ext.dr wr);obtain ⟨cX,lA,mA⟩:=(kP.ext xd).at hy;have p0:ae (ae (ae s3.a (((j:Nat):Int).toNat*5)) 0) 0=ae s3.a (((j:Nat):Int).toNat*5):=by rw [ck,ck]
  refine ⟨cX,BM lA (BM (by rw [ea];exact lA) ⟨y.1.1.1,y.1.1.2,?_,Br.mk (λhq=> ?_) (λhq=> ?_)⟩)⟩
  ·rw [p0];refine ga λq v hq=> ?_
   rw [cP];refine mA q v ?_
   match q,hq with
   |0,hq=>exact hq
   |1,hq=>exact hq
  ·have:(y.1.1==p)=true:=by simp only [gr,beq_iff_eq] at hq ⊢;exact Prod.ext hq.1 hq.2
   rw [mZ hyT this lk];exact ⟨rfl,xd⟩
  ·refine ⟨n-1,by omega,rfl,rfl,j+1,by rw [wI];omega,by omega,λm hm' y' hy'=> ?_,xd⟩;rcases fz m j with q|q
   ·exact lk m q y' hy'
   ·have:m=j:=by omega
    subst this;rw [hyT] at hy';cases hy'
    cases hb:(y.1.1==p) with
    |false=>rfl
    |true=>
     have:y.1.1=p:=by simpa using hb
     rw [<-this] at hq;simp at hq
 ·replace hc:=eX hc;have:bC (λe:En=>e.1==p) T.2= -1:=ja λy hy=>by
   obtain ⟨m,hm'⟩:=mR hy;have hml:=(bH.1 hm').1;have hTl:T.2.length=its.length:=by rw [<-hm,aB]
   exact lk m aa y hm'
  rw [this];exact ⟨rfl,xr⟩
abbrev M7(P:Nat->Prop)(w:World)(ag cap:Int)(T:Tb)(e:Ending)(w':World):Prop:=∃Jm FA Jn:Sl,e=(Ai ag cap T.1 Jm FA Jn)/\RT P w' T Jm FA Jn/\Ext w w'
abbrev mI(P:Nat->Prop)(w:World)(ag cap:Int)(T:Tb × Int)(e:Ending)(w':World):Prop:=∃Jm FA Jn:Sl,e=Value.tuple #[Ai ag cap T.1.1 Jm FA Jn,T.2]/\RT P w' T.1 Jm FA Jn/\Ext w w'
def sh(h:RT P w T s1 s2 s3)(hP:Fw P w)(hl:T.2.length<=1000000)(y:Ci)(hy:RR P w y.2 (cM y.1.2.1)):
  ah 77 #[Ai ag cap T.1 s1 s2 s3,.agg #[y.1.1.1,y.1.1.2,.slice y.2.a y.2.n y.2.c,.bool y.1.2.2.1,y.1.2.2.2]] w (M7 P w ag cap (T.1,T.2++ [y.1])):=by
 apply (La.vc (aK:=s1) (aL:=s2) (aH:=s3) (aw:=y.2));intro w0 e0 w1 e1 w2 e2;have x2:Ext w w2:=((bo e0).ay e1).ay e2;have z0:=dt e0;have z1:w1.heap.size=w.heap.size+2:=by rw [e1];simp [z0]
 have z2:w2.heap.size=w.heap.size+3:=by rw [e2];simp [z1]
 obtain ⟨its,kP,hm⟩:=h.l;have hn:=kP.n;have hTl:T.2.length=its.length:=by rw [<-hm,aB]
 have hits2:=kP.ext x2;have h0:aj w2 Yh 5 w2 ⟨none,0,0⟩ []:=aj.nil;have ha:=h0.kl (bytes:=56) (more:=its.map cw) (ax _) (λr hr=>by obtain ⟨y,-,rfl⟩:=aS.1 hr;rfl) (λr hr=>by obtain ⟨y,-,rfl⟩:=aS.1 hr;exact HW y) (by simp only [aB];omega) (by simp only [aB];omega);rw [aB,<-hn] at ha;obtain ⟨hp,aR⟩:=ha;refine ⟨(its.map cw).flatten,RdK.flat hits2.r aC,hp,λs4 w5 Y7=> ?_⟩;obtain ⟨u9,hn5,x5,-,-⟩:=aR s4 w5 Y7;have x5:Ext w2 w5:=x5;have z5:=x5.size;have hn4:s4.n=its.length:=by have:=(aj.rd u9 aC).n;simpa using this
 refine ⟨x5.heap aa,x5.heap aa,x5.heap aa,λw6 e6=> ?_⟩;subst e6;obtain ⟨Ml,hres8⟩:=u9.kJ (bytes:=56) (news:=cw y) (.cells #[y.1.1.1,y.1.1.2,.slice y.2.a y.2.n y.2.c,.bool y.1.2.2.1,y.1.2.2.2] 110) z5 rfl (HW y) aa aa;refine ⟨Ml,λs7 w8 hr8=> ?_⟩;obtain ⟨f8,xt,hn8,x8,-,-⟩:=hres8 s7 w8 hr8;have xa:=Ext.al w5 (.cells #[y.1.1.1,y.1.1.2,.slice y.2.a y.2.n y.2.c,.bool y.1.2.2.1,y.1.2.2.2] 110);have x8w:Ext w w8:=Below.trans x2 (Below.trans (Below.mono x5 x2.size) (Below.mono x8 x2.size));have kp:∀j,j<w2.heap.size->w8.heap[j]? =(w5.alloc (.cells #[y.1.1.1,y.1.1.2,.slice y.2.a y.2.n y.2.c,.bool y.1.2.2.1,y.1.2.2.2] 110)).heap[j]? :=λj hj=>by rw [x8.block j hj,xa.heap aa]
 refine ⟨kp _ aa,kp _ aa,kp _ aa,f8,λw9 e9 bL wA=> ?_⟩;have bq:=(x8w.ab e9 (ax _)).ab wA aa;have Mh:aj w2 Yh 5 bL s7 ((its++ [y]).map cw):=by
  refine aj.bM (rows:=(its++ [y]).map cw) (by rw [aT];simpa using xt) λj hj=> ?_
  have hjB:=(xt.own.lt hj).1;rw [wA,setRow_other _ _ _ _ aa,e9,setRow_other _ _ _ _ aa]
 refine ⟨s1,s2,s7,rfl,⟨h.d.ext bq,its++ [y],Cn.own Mh (λz hz=> ?_) (λi hi=>hP i aa),by rw [aT,hm];rfl⟩,bq⟩;rcases cu.1 hz with hz|hz
 ·exact (kP.y z hz).ext bq
 ·simp only [fB] at hz;subst hz;exact hy.ext bq
def j9(h:RT P w T s1 s2 s3)(hP:Fw P w)(hl:T.2.length<=1000000){i:Nat}(hi:i<T.2.length):
  ah 78 #[Ai ag cap T.1 s1 s2 s3,.int .i64 (i:Int)] w (M7 P w ag cap (T.1,T.2.eraseIdx i)):=by
 apply (B8.vc (aK:=s1) (aL:=s2) (aH:=s3));intro w0 e0 w1 e1;have x1:Ext w w1:=(bo e0).ay e1;have z0:=dt e0;have z1:w1.heap.size=w.heap.size+2:=by rw [e1];simp [z0]
 obtain ⟨its,kP,hm⟩:=h.l;have hn:=kP.n;have hTl:T.2.length=its.length:=by rw [<-hm,aB]
 have hits1:=kP.ext x1;have Y8:=kP.c;have wi:=kK (j:=i);rw [wi];have wdc:∀{l:List Ci},∀r ∈ l.map cw,r.length=5:=λr hr=>by obtain ⟨y,-,rfl⟩:=aS.1 hr;rfl
 have onc:∀{l:List Ci},∀r ∈ l.map cw,One r:=λr hr=>by obtain ⟨y,-,rfl⟩:=aS.1 hr;exact HW y
 have c1:=RdK.cut (c':=s3.c) (c'':=s3.c) hits1.r (m:=i) (by rw [aB];omega);rw [<-List.map_take] at c1;have h0:aj w1 Yh 5 w1 ⟨none,0,0⟩ []:=aj.nil;have ha:=h0.kl (bytes:=56) (more:=(its.take i).map cw) (ax _) wdc onc (by simp only [aB,bF];omega) (by simp only [aB,bF];omega);rw [aB,bF,Nat.min_eq_left aa] at ha;obtain ⟨hp,aR⟩:=ha;refine ⟨by omega,by omega,((its.take i).map cw).flatten,RdK.flat c1 aC,hp,λJn w4 hr4=> ?_⟩;obtain ⟨VU,hn4,x4,-,-⟩:=aR Jn w4 hr4;have x4:Ext w1 w4:=x4;have z4:=x4.size;have XN:Jn.n=i:=by have:=(aj.rd VU aC).n;simp at this;omega
 have c2:=RdK.rest (hits1.r.ext x4) (l:=i+1) (m:=s3.c) (n':=its.length-(i+1)) (c':=s3.c) (by rw [aB]) (by rw [aB];omega);rw [<-List.map_drop] at c2;have hb:=VU.kl (bytes:=56) (more:=(its.drop (i+1)).map cw) z4 wdc onc (by simp only [aB,iC];omega) (by simp only [aB,iC];omega);rw [aB,iC] at hb;obtain ⟨hp7,hres7⟩:=hb;have en:s3.n-(((i+1:Nat):Int)).toNat=its.length-(i+1):=by omega
 rw [en];refine ⟨x4.heap aa,x4.heap aa,by omega,by omega,((its.drop (i+1)).map cw).flatten,RdK.flat c2 aC,hp7,λs6 w7 hr7=> ?_⟩;obtain ⟨VD,hn7,x7,-,-⟩:=hres7 s6 w7 hr7;have x7w:Ext w w7:=Below.trans x1 (Below.trans (Below.mono x4 x1.size) (Below.mono x7 x1.size));refine ⟨x7.block _ aa,x7.block _ aa,λw8 e8 w9 e9=> ?_⟩;have x9:=(x7w.ab e8 (ax _)).ab e9 aa;have P9:aj w1 Yh 5 w9 s6 ((its.eraseIdx i).map cw):=by
  refine aj.bM (rows:=(its.eraseIdx i).map cw) (by rw [tC,aT];simpa using VD) λj hj=> ?_
  have hjB:=(VD.own.lt hj).1;rw [e9,setRow_other _ _ _ _ aa,e8,setRow_other _ _ _ _ aa]
 refine ⟨s1,s2,s6,rfl,⟨h.d.ext x9,its.eraseIdx i,Cn.own P9 (λz hz=>(kP.y z ((oK ..).subset hz)).ext x9) (λi hi=>hP i aa),by rw [<-hm,tC,tC,aT,List.map_take,List.map_drop]⟩,x9⟩
def LB(h:RT P w T s1 s2 s3)(hP:Fw P w)(hl:T.2.length<=1000000){i:Nat}(hi:i<T.2.length)(y:Ci)(hy:RR P w y.2 (cM y.1.2.1)):
  ah 124 #[Ai ag cap T.1 s1 s2 s3,.int .i64 (i:Int),.agg #[y.1.1.1,y.1.1.2,.slice y.2.a y.2.n y.2.c,.bool y.1.2.2.1,y.1.2.2.2]] w (M7 P w ag cap (T.1,T.2.set i y.1)):=by
 apply (Lc.vc (aK:=s1) (aL:=s2) (aH:=s3) (dO:=y.2));intro w0 e0 w1 e1 w2 e2;have x2:Ext w w2:=((bo e0).ay e1).ay e2;have z0:=dt e0;have z1:w1.heap.size=w.heap.size+2:=by rw [e1];simp [z0]
 have z2:w2.heap.size=w.heap.size+3:=by rw [e2];simp [z1]
 obtain ⟨its,kP,hm⟩:=h.l;have hn:=kP.n;have hTl:T.2.length=its.length:=by rw [<-hm,aB]
 have hits2:=kP.ext x2;have h0:aj w2 Yh 5 w2 ⟨none,0,0⟩ []:=aj.nil;have ha:=h0.kl (bytes:=56) (more:=its.map cw) (ax _) (λr hr=>by obtain ⟨y,-,rfl⟩:=aS.1 hr;rfl) (λr hr=>by obtain ⟨y,-,rfl⟩:=aS.1 hr;exact HW y) (by simp only [aB];omega) (by simp only [aB];omega);rw [aB,<-hn] at ha;obtain ⟨hp,aR⟩:=ha;refine ⟨(its.map cw).flatten,RdK.flat hits2.r aC,hp,λs4 w5 Y7=> ?_⟩;obtain ⟨u9,hn5,x5,-,-⟩:=aR s4 w5 Y7;have x5:Ext w2 w5:=x5;have z5:=x5.size;have u9:aj w2 Yh 5 w5 s4 (its.map cw):=by simpa using u9
 have hn4:s4.n=its.length:=by have:=(aj.rd u9 aC).n;simpa using this
 obtain ⟨p1,p2,p3,p4,-⟩:=u9.put (i:=i) (r:=cw y) (by rw [aB];omega) aC rfl (HW y);have cX:=RdK.fp (aj.rd u9 aC) aC (i:=(i:Int)) aa aa;have hpb:∀g,g<w2.heap.size->cS (ae s4.a (((i:Nat):Int).toNat*5))≠some g:=λg hg e=>by
  have:s4.bj=some g:=by
   obtain ⟨a4,n4,c4⟩:=s4
   cases a4 with
   |none=>simp [ea] at p1
   |some a=>
    have e':(a.add (((i:Nat):Int).toNat*5)).block=g:=Option.some.inj e;show some a.block=some g;rw [<-e'];unfold Addr.add;split<;>rfl
  have:=(u9.own.lt this).1;omega
 refine ⟨x5.heap aa,x5.heap aa,x5.heap aa,cX,⟨p1,p2⟩,hpb _ aa,hpb _ aa,hpb _ aa,λw6 e6 w7 e7 w8 e8=> ?_⟩;have x6w:Ext w w6:=by rw [e6];exact Below.trans x2 (Below.trans (Below.mono x5 x2.size) (Below.mono p4 x2.size))
 have x8:=(x6w.ab e7 (ax _)).ab e8 aa;have xt:aj w2 Yh 5 w8 s4 ((its.set i y).map cw):=by
  refine aj.bM (w:=w6) (rows:=(its.set i y).map cw) (by rw [mP,e6];exact p3) λj hj=> ?_
  have hjB:=(u9.own.lt hj).1;rw [e8,setRow_other _ _ _ _ aa,e7,setRow_other _ _ _ _ aa]
 refine ⟨s1,s2,s4,rfl,⟨h.d.ext x8,its.set i y,Cn.own xt (λz hz=> ?_) (λi hi=>hP i aa),by rw [mP,hm]⟩,x8⟩;rcases C8 hz with hz|rfl
 ·exact (kP.y z hz).ext x8
 ·exact hy.ext x8
end
end Go.Proofs.YtalpkjfpmdpbiaaGreatDoor
namespace Go.Proofs.YtalpkjfpmdpbiaaGreatDoor
open Go Go.Vc Go.RowKit Go.Proofs Go.dS Go.bh Go.Code
def HB(T:Tb)(i:Nat)(e:En):Tb × Int:=(((dQ T.1 e).1,T.2.set i (dQ T.1 e).2.1),(dQ T.1 e).2.2)
section
variable {P P':Nat->Prop} {w w' v v':World} {s s1 s2 s3:Sl} {T:Tb} {ag cap:Int}
def RC.at{l:List En}{i:Nat}{e:En}(h:RC P w s l)(hi:l[i]? =some e):∃y:Ci,y.1=e/\RR P w y.2 (cM e.2.1)/\cA s.a (i:Int) s.n/\(ae s.a (((i:Nat):Int).toNat*5)).isSome=true/\(∀j v,(cw y)[j]? =some v->ld w (ae (ae s.a (((i:Nat):Int).toNat*5)) j)=some v)/\au w (ae s.a (((i:Nat):Int).toNat*5)) 0 (cw y):=by obtain ⟨its,h1,hm⟩:=h;rw [<-hm,aV] at hi;obtain ⟨y,hy,e1⟩:=Da.1 hi;obtain ⟨a,b,c⟩:=h1.at hy;exact ⟨y,e1,by rw [<-e1];exact h1.y y (bf hy),a,b,c,h1.load hy⟩
set_option maxRecDepth 100000 in
def ua(h:RT P w T s1 s2 s3)(hP:Fw P w)(hd:iu T.1)(hf:OL T.1 1000000)(hg:wS T.2)(hl:T.2.length<=1000000){i:Nat}{e:En}(hi:T.2[i]? =some e):
  ah 79 #[Ai ag cap T.1 s1 s2 s3,.int .i64 (i:Int)] w (mI P w ag cap (HB T i e)):=by
 apply (Lb.vc (aK:=s1) (aL:=s2) (aH:=s3));intro w0 e0 w1 e1;have x1:Ext w w1:=(bo e0).ay e1;have z0:=dt e0;have z1:w1.heap.size=w.heap.size+2:=by rw [e1];simp [z0]
 have rt1:Row w1 w [ag,cap,T.1.room,T.1.c9,T.1.wait,s1,s2,s3] 30:=(by rw [e0];exact Row.new w [_,_,_,_,_,_,_,_] _:Row w0 w _ 30).ext (bo e1);have h1:=h.nT x1 (w.heap.size+3);obtain ⟨y,hy,Jq,cX,lA,mA,NU⟩:=h1.l.at hi;obtain ⟨g1,g2⟩:=hg e (bf hi);have hli:=(bH.1 hi).1;subst hy;refine ⟨cX,y.1.1.1,y.1.1.2,y.2,y.1.2.2.1,y.1.2.2.2,NU,λw7 e7 w8 e8=> ?_⟩;have x8:Ext w1 w8:=(bo e7).ab e8 (ax _);have z8:w8.heap.size=w.heap.size+3:=by rw [e8,e7];simp [z1]
 have cf:=x1.tr x8
 cases hdy:y.1.2.2.1 with
 |false=>
  refine Br.mk (λ_=>λw9 e9=> ?_) (λq=>by cases q);have e1:HB T i y.1=(T,0):=by
   unfold HB dQ;rw [if_neg (by rw [hdy];decide)];simp only;obtain ⟨q1,q2⟩:=bH.1 hi;have:T.2.set i y.1=T.2:=by have q3:=List.set_getElem_self q1;rw [q2] at q3;exact q3
   rw [this]
  rw [e1];have x9:=cf.ab e9 aa;exact ⟨s1,s2,s3,rfl,h.ext x9,x9⟩
 |true=>
  refine Br.mk (λq=>by cases q) (λ_=> ?_);obtain ⟨ok1,ok2,ok3,ok4⟩:=qJ g1 g2;have hle:=TH g1 g2;have arw:=j7 y.1.2.1;refine (we y.2 (cM y.1.2.1) w8 (Jq.ext x8).r aa (Dg g1 g2)).mono ?_;rintro e bL ⟨⟨eO,rfl,ho⟩,bq⟩;rw [if_pos ok1] at ho ⊢;have z10:=bq.size;have qY:=cf.tr bq;have e1:HB T i y.1=(((oD T.1 (jU y.1.1) (kD (cM y.1.2.1))).1,T.2.set i (y.1.1,y.1.2.1,decide ((oD T.1 (jU y.1.1) (kD (cM y.1.2.1))).2≠0),y.1.2.2.2)),(oD T.1 (jU y.1.1) (kD (cM y.1.2.1))).2):=by unfold HB dQ;rw [if_pos hdy]
  rw [e1];have svg:∀(g:Nat) {v:World},Ext bL v->(g=w.heap.size\/bL.heap.size<=g)->g<v.heap.size->ah 123 #[dv T.1 s1 s2,(jU y.1.1),eO] v (Hx (λi=>Bx P w (w.heap.size+3) i/\i≠g) v (oD T.1 (jU y.1.1) (kD (cM y.1.2.1)))):=by
   intro g v xv hg hgv;have hRD:wU (λi=>Bx P w (w.heap.size+3) i/\i≠g) v T.1 s1 s2:=h.d.same λi hp hi=>⟨(qY.tr xv).heap hi,⟨hp,.inl hi⟩,by omega⟩
   have hRY:RY (λi=>Bx P w (w.heap.size+3) i/\i≠g) v eO (kD (cM y.1.2.1)):=by
    refine RY.ext (w:=bL) ⟨iP.rM ho,?_,λ_ g' hg'=> ?_,aj.le ho⟩ xv
    ·exact MU
    ·have:=ho.own.lt hg';exact ⟨⟨hP g' aa,.inr aa⟩,by omega⟩
   exact Hw hRD (λi hi=>⟨⟨hP i (by have:=xv.size;omega),.inr (by have:=xv.size;omega)⟩,by omega⟩) hd hf (jU y.1.1) eO _ hRY aa
  generalize oD T.1 (jU y.1.1) (kD (cM y.1.2.1))=R at*;have leaf:∀{v v2 v3:World} {sa sb:Sl} {c0 c1:Array Value},Ext w v->w8.heap.size<=v.heap.size->Ext w1 v->wU (Bx P w (w.heap.size+3)) v R.1 sa sb->v2=v.setRow w c0->v3=v2.setRow w1 c1->
    ah 124 #[Ai ag cap R.1 sa sb s3,.int .i64 (i:Int),.agg #[y.1.1.1,y.1.1.2,.slice y.2.a y.2.n y.2.c,.bool (R.2 !=0),y.1.2.2.2]] v3 λe hZ=>∃sa' sb' sc':Sl,e=(Ai ag cap R.1 sa' sb' sc')/\Ext v3 hZ/\∀xu c,xu=hZ.setRow w0 c->mI P w ag cap ((R.1,T.2.set i (y.1.1,y.1.2.1,decide (R.2≠0),y.1.2.2.2)),R.2) (.returned (.tuple #[Ai ag cap R.1 sa' sb' sc',R.2])) xu:=by
   intro v v2 v3 sa sb c0 c1 xv zv xv1 hR e2 e3;have x3:=(xv.ab e2 (ax _)).ab e3 aa;have z3:v3.heap.size=v.heap.size:=by rw [e3,e2];simp
   have hC3:RC (Bx P w (w.heap.size+3)) v3 s3 T.2:=(h.nT x3 (w.heap.size+3)).l;have MD:wU (Bx P w (w.heap.size+3)) v3 R.1 sa sb:=hR.same λi hp _=>⟨by rw [e3,setRow_other _ _ _ _ (by have:=hp.2;omega),e2,setRow_other _ _ _ _ (by have:=hp.2;omega)],hp⟩
   have hT3:RT (Bx P w (w.heap.size+3)) v3 (R.1,T.2) sa sb s3:=⟨MD,hC3⟩;have xz:Ext w1 v->RR (Bx P w (w.heap.size+3)) v3 y.2 (cM y.1.2.1):=λq=>(Jq.ext q).same λi hp _=>⟨by rw [e3,setRow_other _ _ _ _ (by have:=hp.2;omega),e2,setRow_other _ _ _ _ (by have:=hp.2;omega)],hp⟩
   refine (LB (ag:=ag) (cap:=cap) hT3 (hP.bx x3 aa) hl (i:=i) hli ((y.1.1,y.1.2.1,(R.2 !=0),y.1.2.2.2),y.2) (xz xv1)).mono ?_;rintro e hZ ⟨sa',sb',sc',rfl,h26,dZ⟩;have uI:decide (R.2≠0)=(R.2 !=0):=by by_cases q:R.2=0<;>simp [q]
   rw [uI];refine ⟨sa',sb',sc',rfl,dZ,λxu c e35=> ?_⟩;exact ⟨sa',sb',sc',rfl,(h26.box e35 ⟨by omega,by omega⟩).out,(x3.tr dZ).ab e35 aa⟩
  have JF:∀{g:Nat} {v:World} {D:Dk} {sa sb:Sl},wU (λi=>Bx P w (w.heap.size+3) i/\i≠g) v D sa sb->∀{v':World} {c:Array Value},v'=v.setRow g c->wU (Bx P w (w.heap.size+3)) v' D sa sb:=by intro g v D sa sb hR v' c e;exact hR.same λi hp _=>⟨by rw [e,setRow_other _ _ _ _ hp.2],hp.1⟩
  have afN:=Ext.dr bL;have arA:=kQ bL;refine ⟨eO,_,rfl,bq.heap aa,bq.heap aa,bq.heap aa,(uc y.1.1 _).mono ?_,λVI e57=>(uc y.1.1 _).mono ?_⟩
  ·rintro e cC ⟨rfl,cz⟩;have z13:=cz.size;have BK:=afN.tr cz;refine ⟨_,rfl,cz.heap aa,cz.heap aa,cz.heap aa,(rt1.ext (x8.tr (bq.tr BK))).aY (λj hj=> ?_),(svg w BK (.inl rfl) aa).mono ?_,λnC Jk=>(svg cC (v:=nC) (BK.ay Jk) (.inr aa) (by rw [Jk];simp)).mono ?_⟩
   ·match j,hj with
    |0,_=>rfl
    |1,_=>rfl
    |2,_=>rfl
    |3,_=>rfl
    |4,_=>rfl
    |n+5,hj=>simp at hj;omega
   ·rintro e cU ⟨sa,sb,rfl,Xq,bw⟩;have z15:=bw.size;refine ⟨_,_,_,sa,sb,_,rfl,bw.heap aa,bw.heap aa,bw.heap aa,λct Bq gp JY fy QM eh Xk=> ?_⟩;have dc:Ext cU gp:=(bo Bq).ab JY (ax _);have z23:=jE Bq JY;have h23:wU (Bx P w (w.heap.size+3)) gp R.1 sa sb:=(Xq.ext dc).same λi hp _=>⟨rfl,hp.1⟩
    have z25:eh.heap.size=gp.heap.size:=by rw [Xk,QM];simp
    refine (leaf (qY.tr (BK.tr (bw.tr dc))) aa (x8.tr (bq.tr (BK.tr (bw.tr dc)))) h23 QM Xk).mono ?_;rintro e hZ ⟨sa',sb',sc',rfl,dZ,fin⟩;exact ⟨_,_,_,_,_,sa',sb',sc',rfl,dZ.heap aa,dZ.heap aa,dZ.heap aa,dZ.heap aa,λxu e35=>fin xu _ e35⟩
   ·rintro e hX ⟨sa,sb,rfl,h37,gk⟩;have z36:=dt Jk;have afO:=bo Jk;have z37:=gk.size;refine ⟨_,_,_,sa,sb,_,rfl,gk.heap aa,gk.heap aa,gk.heap aa,gk.heap aa,λjA Ql DS e45 DQ VE=> ?_⟩;have jI:Ext cC jA:=(afO.tr gk).ab Ql (ax _);have z44:=mC Ql;have h44:=JF h37 Ql;have z46:DQ.heap.size=jA.heap.size:=by rw [VE,e45];simp
    refine (leaf (qY.tr (BK.tr jI)) aa (x8.tr (bq.tr (BK.tr jI))) h44 e45 VE).mono ?_;rintro e oV ⟨sa',sb',sc',rfl,mc,fin⟩;exact ⟨_,_,_,_,_,sa',sb',sc',rfl,mc.heap aa,mc.heap aa,mc.heap aa,mc.heap aa,λNO e56=>fin NO _ e56⟩
  ·rintro e By ⟨rfl,oW⟩;have z57:=dt e57;have afP:Ext bL VI:=afN.ay e57;have z58:=oW.size;have Vg:=afP.tr oW;refine ⟨_,rfl,oW.heap aa,oW.heap aa,oW.heap aa,oW.heap aa,(rt1.ext (x8.tr (bq.tr Vg))).aY (λj hj=> ?_),(svg bL.drew.heap.size Vg (.inr aa) aa).mono ?_⟩
   ·match j,hj with
    |0,_=>rfl
    |1,_=>rfl
    |2,_=>rfl
    |3,_=>rfl
    |4,_=>rfl
    |n+5,hj=>simp at hj;omega
   ·rintro e BQ ⟨sa,sb,rfl,h60,Bu⟩;have z60:=Bu.size;refine ⟨_,_,_,sa,sb,_,rfl,Bu.heap aa,Bu.heap aa,Bu.heap aa,Bu.heap aa,λsJ QU JU VX jz e69=> ?_⟩;have qO:Ext bL sJ:=(Vg.tr Bu).ab QU aa;have z67:=mC QU;have J6:=JF h60 QU;have z69:jz.heap.size=sJ.heap.size:=by rw [e69,VX];simp
    refine (leaf (qY.tr qO) aa (x8.tr (bq.tr qO)) J6 VX e69).mono ?_;rintro e wB ⟨sa',sb',sc',rfl,jD,fin⟩;exact ⟨_,_,_,_,_,sa',sb',sc',rfl,jD.heap aa,jD.heap aa,jD.heap aa,jD.heap aa,λw79 e79=>fin w79 _ e79⟩
end
end Go.Proofs.YtalpkjfpmdpbiaaGreatDoor
namespace Go.Proofs.YtalpkjfpmdpbiaaGreatDoor
open Go Go.Vc Go.RowKit Go.Proofs Go.dS Go.bh Go.Code
section
variable {P P':Nat->Prop} {w w' v v':World} {s s1 s2 s3:Sl} {T:Tb} {ag cap:Int}
structure qH(T:Tb):Prop where
 d:iu T.1
 f:OL T.1 1000000
 g:wS T.2
 l:T.2.length<=1000000
def HA(ag limit room:Int)(w:World):ah 68 #[ag,limit,room] w (M7 P w ag (min (max limit 1) 16) (gy room,[])):=by
 apply OR.vc;intro w0 e0;have x0:=bo e0;have z0:=dt e0;refine (K1 (P:=P) room w0).mono ?_;rintro e w1 ⟨rfl,h1,x1⟩;have ec:(if 16<(if 1>limit then 1 else limit) then 16 else (if 1>limit then 1 else limit))=min (max limit 1) 16:=by split<;>split<;>omega
 refine ⟨_,_,_,⟨none,0,0⟩,⟨none,0,0⟩,rfl,x1.heap aa,λw7 e7=> ?_⟩;have x7:=(x0.tr x1).ab e7 (ax _);rw [ec];exact ⟨⟨none,0,0⟩,⟨none,0,0⟩,⟨none,0,0⟩,rfl,⟨⟨RW.nil,RW.nil⟩,RC.nil⟩,x7⟩
def Sh{T:Tb}{k:Nat}{e:En}(hk:T.2[k]? =some e):Kw T.1 T.2 k=if (HB T k e).2=0 then (((HB T k e).1.1,(HB T k e).1.2.eraseIdx k),0) else HB T k e:=by rw [Aa hk];show _=if (dQ T.1 e).2.2=0 then (((dQ T.1 e).1,(T.2.set k (dQ T.1 e).2.1).eraseIdx k),0) else _;rw [List.eraseIdx_set_eq];rfl
def Ah(h:RT P w T s1 s2 s3)(hP:Fw P w)(ho:qH T)(p:Po):
  ah 64 #[Ai ag cap T.1 s1 s2 s3,pv p] w (mI P w ag cap (fO T.1 T.2 p)):=by
 apply (EA.vc (aK:=s1) (aL:=s2) (aH:=s3));intro w0 e0 w1 e1 w2 e2;have x2:Ext w w2:=((bo e0).ay e1).ay e2;have z0:=dt e0;have z1:w1.heap.size=w.heap.size+2:=by rw [e1];simp [z0]
 have z2:w2.heap.size=w.heap.size+3:=by rw [e2];simp [z1]
 refine (fQ (ag:=ag) (cap:=cap) (h.ext x2) ho.l p).mono ?_;rintro e w3 ⟨rfl,x3⟩;have z3:=x3.size;have dc:=x2.tr x3;refine ⟨_,rfl,x3.heap aa,x3.heap aa,x3.heap aa,?_⟩;rcases cl (λe:En=>e.1==p) T.2 with ⟨hf,lk⟩|⟨k,e,hk,he,hf,-⟩
 ·rw [hf];refine Br.mk (λ_=>λw5 e5=> ?_) (λq=>by simp at q);have e1:fO T.1 T.2 p=((T.1,T.2),6):=by unfold fO;rw [hf,if_neg aC]
  have x5:=dc.ab e5 aa;rw [e1];exact ⟨s1,s2,s3,rfl,h.ext x5,x5⟩
 ·rw [hf];have rF:=(bH.1 hk).1;have e1:fO T.1 T.2 p=if 0<e.2.2.2 then ((T.1,T.2),10) else Kw T.1 T.2 k:=by unfold fO;rw [hf,if_pos aa,jt,hk];rfl
  have h3:=h.nT dc (w.heap.size+3);obtain ⟨y,hy,-,cX,lA,mA,-⟩:=h3.l.at hk;subst hy;refine Br.mk (λq=>by simp at q;omega) (λ_=>⟨cX,BM lA ⟨y.1.2.2.2,mA 4 _ rfl,Br.mk (λq=>λw7 e7=> ?_) (λq=> ?_)⟩⟩)
  ·have x7:=dc.ab e7 aa;rw [e1,if_pos (by simpa using q)];exact ⟨s1,s2,s3,rfl,h.ext x7,x7⟩
  ·rw [e1,if_neg (by simpa using q),Sh hk];refine (ua h3 (hP.bx dc aa) ho.d ho.f ho.g ho.l hk).mono ?_;rintro e' w8 ⟨sa,sb,sc,rfl,h8,x8⟩;have z8:=x8.size;have j1:(HB T k y.1).1.2.length=T.2.length:=by unfold HB;simp
   generalize HB T k y.1=R at*;refine ⟨_,_,_,_,_,sa,sb,sc,_,rfl,x8.heap aa,x8.heap aa,x8.heap aa,λdA JT ft uR=> ?_⟩;have cK:Ext w8 ft:=(bo JT).ab uR (ax _);have z19:=jE JT uR;have aa6:=dc.tr (x8.tr cK);refine Br.mk (λq2=>λdY BU=> ?_) (λq2=> ?_)
   ·rw [if_neg (by simpa using q2)];exact ⟨sa,sb,sc,rfl,((h8.ext cK).box BU ⟨by omega,by omega⟩).out,aa6.ab BU aa⟩
   ·have q2:=kX q2;rw [if_pos q2];refine (j9 (ag:=ag) (cap:=cap) (h8.ext cK) (hP.bx aa6 aa) (by have:=ho.l;omega) (i:=k) aa).mono ?_;rintro e' ef ⟨sa',sb',sc',rfl,h21,fT⟩;have z21:=fT.size;refine ⟨_,_,_,_,_,sa',sb',sc',rfl,fT.heap aa,fT.heap aa,fT.heap aa,fT.heap aa,λia e30=> ?_⟩;exact ⟨sa',sb',sc',rfl,(h21.box e30 ⟨by omega,by omega⟩).out,(aa6.tr fT).ab e30 aa⟩
def rU(h:RT P w T s1 s2 s3)(ho:qH T)(c:Ce)(hc:lY c):
  ah 22 #[Ai ag cap T.1 s1 s2 s3,iG c] w λe w'=>e=Value.int .i64 (eB T.2 c)/\Ext w w':=by
 apply (Si.vc (aK:=s1) (aL:=s2) (aH:=s3));intro w0 e0 w1 e1;have x1:Ext w w1:=(bo e0).ay e1;have z0:=dt e0;have z1:w1.heap.size=w.heap.size+2:=by rw [e1];simp [z0]
 have rt1:Row w1 w [ag,cap,T.1.room,T.1.c9,T.1.wait,s1,s2,s3] 30:=(by rw [e0];exact Row.new w [_,_,_,_,_,_,_,_] _:Row w0 w _ 30).ext (bo e1);have xd:=Ext.dr w1;have zd:=kQ w1;refine (k9 c hc w1.drew).mono ?_;rintro e w2 ⟨rfl,x2⟩;have z2:=x2.size;have DP:=x1.tr (xd.tr x2);have rt2:=rt1.ext (xd.tr x2);refine ⟨_,_,rfl,x2.heap aa,x2.heap aa,rt2.aY (λj hj=>by rw [cP]),(fQ (ag:=ag) (cap:=cap) (h.ext DP) ho.l (pos c)).mono ?_⟩;rintro e w5 ⟨rfl,x5⟩;have z5:=x5.size;have x05:=DP.tr x5;refine ⟨_,rfl,x5.heap aa,x5.heap aa,?_⟩;rcases cl (λe:En=>e.1==pos c) T.2 with ⟨hf,lk⟩|⟨k,e,hk,he,hf,-⟩
 ·have e1:eB T.2 c= -1:=by unfold eB;rw [hf,if_pos aC]
  rw [hf,e1];exact Br.mk (λ_=>⟨rfl,x05⟩) (λq=>by simp at q)
 ·have e1:eB T.2 c=if c.2.1<0 then 1 else rZ e.1 e.2.1 c:=by unfold eB;rw [hf,if_neg aa,jt,hk];rfl
  rw [hf,e1];refine Br.mk (λq=>by simp at q;omega) (λ_=>Br.mk (λq=> ?_) (λq=> ?_))
  ·rw [if_pos (by simpa using q)];exact ⟨rfl,x05⟩
  ·have q:¬c.2.1<0:=by simpa using q
   rw [if_neg q];have hpe:e.1=pos c:=by simpa using he
   apply Br.mk<;>intro q2
   ·have q2:c.2.1>31:=by simpa using q2
    have:pJ e.1 c=false:=by
     cases hq:pJ e.1 c with
     |false=>rfl
     |true=>have:=((eT _ _).1 hq).1;unfold k8 at this;omega
    have e2:rZ e.1 e.2.1 c=0:=by unfold rZ;rw [this];rfl
    rw [e2];exact ⟨rfl,x05⟩
   ·have q2:¬c.2.1>31:=by simpa using q2
    have hK:pJ e.1 c=true:=(eT _ _).2 ⟨by unfold k8;omega,hpe.symm⟩;have xd5:=Ext.dr w5;obtain ⟨y,hy,Jq,cX,lA,mA,-⟩:=(h.ext (x05.tr xd5)).l.at hk;subst hy;refine ⟨cX,BM lA ⟨y.1.1.1,y.1.1.2,y.2,ga λj v hj=> ?_,(Ho (p:=y.1.1) Jq.r (ho.g _ (bf hk)).1 c hc).mono ?_⟩⟩
    ·rw [cP,ck];refine mA j v ?_
     match j,hj with
     |0,hj=>exact hj
     |1,hj=>exact hj
     |2,hj=>exact hj
    ·rintro e' bL ⟨rfl,bq⟩;have zd5:=kQ w5;have e2:OE y.1.1 y.1.2.1 c=rZ y.1.1 y.1.2.1 c:=by unfold OE rZ;rw [hK];rfl
     rw [e2];exact ⟨_,rfl,bq.heap aa,bq.heap aa,((rt2.ext x5).ext (xd5.tr bq)).aY (λj hj=>by simp at hj;subst hj;rfl),rfl,x05.tr (xd5.tr bq)⟩
end
end Go.Proofs.YtalpkjfpmdpbiaaGreatDoor
namespace Go.Proofs.YtalpkjfpmdpbiaaGreatDoor
open Go Go.Vc Go.RowKit Go.Proofs Go.dS Go.bh Go.Code
def mD(d:Dk):Nat:=d.safe.length+d.l.length
def EH{d:Dk}{n:Nat}(h:mD d<=n):OL d n:=by unfold mD at h;exact ⟨by omega,by omega⟩
def TU(D:Dk)(k:Int)(b:List Int):mD (fZ D k b).1<=mD D+1:=by have h1:=GA D k b;have h2:=Hv D k b;unfold mD;rw [h2];omega
def WX(D:Dk):mD (iX D).1<=mD D:=by
 obtain ⟨a1,a2,-⟩:=fE D;unfold iX mD;split
 ·simp only [a1,a2];omega
 ·have:=ku D.l D.safe;show (gd D).length+([]:List kU).length<=_;unfold gd;simp only [Nu];omega
def WY(D:Dk)(id:Int)(b:List Int):mD (oD D id b).1<=mD D+1:=by
 unfold oD;split
 ·split
  ·simp only;omega
  ·split
   ·exact TU _ _ _
   ·exact fA (WX _) (TU _ _ _)
 ·simp only;omega
def IJ(D:Dk)(e:En):mD (dQ D e).1<=mD D+1:=by
 unfold dQ;split
 ·exact WY _ _ _
 ·simp only;omega
def L9{D:Dk}(h:iu D)(e:En):iu (dQ D e).1:=by
 unfold dQ;split
 ·exact h.save _ _
 ·exact h
def AZ(D:Dk)(e:En):(dQ D e).2.1.1=e.1/\(dQ D e).2.1.2.1=e.2.1/\(dQ D e).2.1.2.2.2=e.2.2.2:=by unfold dQ;split<;>exact ⟨rfl,rfl,rfl⟩
section
variable {P P':Nat->Prop} {w w' v v':World} {s s1 s2 s3:Sl} {T:Tb} {ag cap:Int}
def LU{p:Po}{C:List Int}(hs:RR P w s (cM C))(hP:Fw P w)(hl:C.length=8192)(c:Ce)(hc:lY c)(b:Int):
  ah 147 #[kv p s,iG c,.int .i64 b] w λe w'=>(∃s',e=Value.tuple #[kv p s',.int .i64 (fL p C c b).2]/\RR P w' s' (cM (fL p C c b).1))/\Ext w w':=by
 apply Ow.vc;intro w0 e0 w1 e1 w2 e2;have z0:=dt e0;have z1:w1.heap.size=w.heap.size+2:=by rw [e1];simp [z0]
 have z2:w2.heap.size=w.heap.size+3:=by rw [e2];simp [z1]
 have x2:Ext w w2:=((bo e0).ay e1).ay e2;refine (wT p s c hc w2).mono ?_;rintro e w3 ⟨rfl,x3⟩;have z3:=x3.size;have sN:=x2.tr x3;refine ⟨_,rfl,x3.heap aa,x3.heap aa,x3.heap aa,?_⟩
 cases hk:pJ p c with
 |false=>
  have e:fL p C c b=(C,5):=by unfold fL;rw [if_pos hk]
  rw [e];refine Br.mk (λ_=>λw5 e5=> ?_) (λh=>by simp at h);have x5:=sN.ab e5 aa;exact ⟨⟨s,rfl,hs.ext x5⟩,x5⟩
 |true=>
  have fS:=nV ((eT p c).1 hk).1;refine Br.mk (λh=>by simp at h;omega) (λ_=> ?_);refine (gP b w3).mono ?_;rintro e w6 ⟨rfl,e6⟩;have x6:Ext w3 w6:=by rw [e6];exact Ext.bX _
  have z6:=x6.size;refine ⟨_,rfl,x6.heap aa,x6.heap aa,x6.heap aa,Br.mk (λeF=> ?_) (λeF=> ?_)⟩
  ·have hf:ba b=false:=by simpa using eF
   have e:fL p C c b=(C,1):=by unfold fL;rw [if_neg (by simp [hk]),if_pos hf]
   rw [e];intro w8 e8;have x8:=(sN.tr x6).ab e8 aa;exact ⟨⟨s,rfl,hs.ext x8⟩,x8⟩
  ·have hm:ba b=true:=by simpa using eF
   have e:fL p C c b=(C.set (idx c).toNat b,0):=by unfold fL;rw [if_neg (by simp [hk]),if_neg (by simp [hm])]
   have h6:=hs.ext (sN.tr x6);rw [e];refine (zP s C (idx c) b w6 h6.r (by rw [hl];decide)).mono ?_;rintro e9 w9 ⟨cO,rfl,P9,x9⟩;have hs:rT C (idx c) b=C.set (idx c).toNat b:=by unfold rT;rw [if_pos ⟨hm,fS.1,by rw [hl];omega⟩]
   rw [hs] at P9;refine ⟨cO,rfl,x9.heap aa,x9.heap aa,x9.heap aa,λcB yl bS BW=> ?_⟩;have bU:=(((sN.tr x6).tr x9).ab yl (ax _)).ab BW aa;have QF:=λb (hb:cO.bj=some b)=>(P9.own.lt hb).1
   refine ⟨⟨cO,rfl,RR.own (B:=w6.heap.size) (aj.bM P9 λb hb=> ?_) λi hi=>hP i aa⟩,bU⟩;have:=QF b hb;rw [BW,setRow_other _ _ _ _ aa,yl,setRow_other _ _ _ _ aa]
def pQ(p:Po)(s:Sl)(b:List Int)(w:World)(hs:eZ w s b)(hb:Vq b)(hc:s.n<=s.c)(hl:b.length<=1099511627776):
  ah 81 #[pv p,s] w λe w'=>(∃(x y:Int)(sr:Sl),e=Value.tuple #[.agg #[x,y,sr],.int .i64 (cL ba b 8192).2]/\((cL ba b 8192).2=0->x=p.1/\y=p.2/\lS w w' sr (cL ba b 8192).1))/\Ext w w':=by
 apply KQ.vc;intro w0 e0 w1 e1;have z0:=dt e0;have z1:w1.heap.size=w.heap.size+2:=by rw [e1];simp [z0]
 have x1:Ext w w1:=(bo e0).ay e1;refine (yh s b 8192 w1 (RdK.ext hs x1) hb hl hc aC (by unfold inI;omega)).mono ?_;rintro e w2 ⟨⟨s3,rfl,ho⟩,x2⟩;have z2:=x2.size;refine ⟨s3,_,rfl,x2.heap aa,x2.heap aa,Br.mk (λdN=>λw5 e5=> ?_) (λdN=>λw6 e6=> ?_)⟩
 ·have h0:=kX dN;exact ⟨⟨0,0,⟨none,0,0⟩,rfl,λh=>absurd h h0⟩,(x1.tr x2).ab e5 aa⟩
 ·have h0:=kX dN;refine ⟨⟨p.1,p.2,s3,by rw [h0],λ_=>⟨rfl,rfl,?_⟩⟩,(x1.tr x2).ab e6 aa⟩;refine aj.low (aj.bM ho λj hj=> ?_) (show w.heap.size<=w1 by omega);have:=(ho.own.lt hj).1;rw [e6];exact setRow_other _ _ _ _ aa
end
end Go.Proofs.YtalpkjfpmdpbiaaGreatDoor
namespace Go.Proofs.YtalpkjfpmdpbiaaGreatDoor
open Go Go.Vc Go.RowKit Go.Proofs Go.dS Go.bh Go.Code
section
variable {P P':Nat->Prop} {w w' v v':World} {s s1 s2 s3:Sl} {T:Tb} {ag cap:Int}
set_option maxRecDepth 100000 in
def Hc(h:RT P w T s1 s2 s3)(hP:Fw P w)(ho:qH T)(c:Ce)(hc:lY c)(b:Int):
  Calls Tryz.prog 99 #[Ai ag cap T.1 s1 s2 s3,iG c,.int .i64 b] w (mI P w ag cap ((T.1,(cr T.2 c b).1),(cr T.2 c b).2)):=by
 apply (OT.vc (aK:=s1) (aL:=s2) (aH:=s3));intro w0 e0 w1 e1 w2 e2;have x2:Ext w w2:=(((Ext.bX _).ay e0).ay e1).ay e2;have z0:=dt e0;have z1:w1.heap.size=w.heap.size+2:=by rw [e1];simp [z0]
 have z2:w2.heap.size=w.heap.size+3:=by rw [e2];simp [z1]
 have rt2:Row w2 w.heap.size [.int .i64 ag,.int .i64 cap,.int .i64 T.1.room,.int .i64 T.1.c9,.int .i64 T.1.wait,.slice s1.a s1.n s1.c,.slice s2.a s2.n s2.c,.slice s3.a s3.n s3.c] 30:=(by rw [e0];exact Row.new w [_,_,_,_,_,_,_,_] _:Row w0 w.heap.size _ 30).ext (((Ext.bX _).ay e1).ay e2);clear e0 e1 e2;have xd:=Ext.dr w2;have zd:w2.drew.heap.size=w2.heap.size:=rfl;refine (k9 c hc w2.drew).mono ?_;rintro e w3 ⟨rfl,x3⟩;have z3:=x3.size;have sN:=x2.tr (xd.tr x3);refine ⟨_,_,rfl,x3.k,x3.k,x3.k,(rt2.ext (xd.tr x3)).aY (λj hj=>by rw [Nat.zero_add]),(fQ (ag:=ag) (cap:=cap) (h.ext sN) ho.l (pos c)).mono ?_⟩;rintro e w6 ⟨rfl,x6⟩;have z6:=x6.size;have vg:=sN.tr x6;refine ⟨_,rfl,x6.k,x6.k,x6.k,(gP b w6).mono ?_⟩;rintro e w8 ⟨rfl,hw⟩;have x8:Ext w6 w8:=by rw [hw];exact Ext.bX _
 clear hw;have z8:=x8.size;have x08:=vg.tr x8;refine ⟨_,rfl,x8.k,x8.k,x8.k,?_⟩;have bad:∀{n:Int},cr T.2 c b=(T.2,n)->∀w5 c',w5=w8.setRow w1.heap.size c'->mI P w ag cap ((T.1,(cr T.2 c b).1),(cr T.2 c b).2) (.returned (.tuple #[Ai ag cap T.1 s1 s2 s3,.int .i64 n])) w5:=by intro n e w5 c' e5;have x5:=x08.ab e5 (by omega);rw [e];exact ⟨s1,s2,s3,rfl,h.ext x5,x5⟩
 rcases cl (λe:En=>e.1==pos c) T.2 with ⟨hf,lk⟩|⟨k,e,hk,he,hf,-⟩
 ·rw [hf];exact Br.mk (λ_=>λw5 e5=>bad (by unfold cr;rw [hf,if_pos (by decide)]) w5 _ e5) (λq=>by simp at q)
 rw [hf];have hpe:e.1=pos c:=by simpa using he
 have rF:=(List.getElem?_eq_some_iff.1 hk).1;refine Br.mk (λq=>by simp at q;omega) (λ_=>Br.mk (λq=>λw5 e5=>bad (by unfold cr;rw [hf,if_neg (by omega),if_pos (by unfold k8;simp at q;omega)]) w5 _ e5) (λq1=>Br.mk (λq=>λw5 e5=>bad (by unfold cr;rw [hf,if_neg (by omega),if_pos (by unfold k8;simp at q;omega)]) w5 _ e5) (λq2=> ?_)));have hy:k8 c:=by unfold k8;simp at q1 q2;omega
 cases hb:ba b with
 |false=>exact Br.mk (λq=>λw5 e5=>bad (by unfold cr;rw [hf,if_neg (by omega),if_neg (by simpa using hy),if_pos hb]) w5 _ e5) (λq=>by simp at q)
 |true=>
 refine Br.mk (λq=>by simp at q) (λ_=> ?_);have hB:=h.nT x08 (w8.heap.size+1);obtain ⟨y,hy1,Jq,cX,lA,mA,NU⟩:=hB.l.at hk;subst hy1;have Mk:cr T.2 c b=(T.2.eraseIdx k++ [(y.1.1,(fL y.1.1 y.1.2.1 c b).1,y.1.2.2.1||(rZ y.1.1 y.1.2.1 c !=b),y.1.2.2.2)],0):=by unfold cr;rw [hf,if_neg (by omega),if_neg (by simpa using hy),if_neg (by rw [hb];decide),Int.toNat_natCast,hk];rfl
 rw [Mk];obtain ⟨g1,g2⟩:=ho.g _ (List.mem_of_getElem? hk);have hC:pJ y.1.1 c=true:=(eT _ _).2 ⟨hy,hpe.symm⟩;have eAt:OE y.1.1 y.1.2.1 c=rZ y.1.1 y.1.2.1 c:=by unfold OE rZ;rw [hC];rfl
 refine ⟨cX,y.1.1.1,y.1.1.2,y.2,y.1.2.2.1,y.1.2.2.2,NU,λft uR dY BU=> ?_⟩;have du:Ext w8 dY:=((Ext.bX _).ay uR).ab BU (Nat.le_refl _);have z20:=jE uR BU;have r20:Row dY w8.heap.size [.int .i64 y.1.1.1,.int .i64 y.1.1.2,.slice y.2.a y.2.n y.2.c,.bool y.1.2.2.1,.int .i64 y.1.2.2.2] 110:=by rw [BU];exact Row.set (by rw [uR];exact Row.new w8 [_,_,_,_,_] _) _
 clear uR BU;have aqQ:=x08.tr du;have fin:∀{v v0:World} {d:Bool} {c0:Array Value},Ext dY v0->v=v0.setRow w8.heap.size c0->d=(y.1.2.2.1||(rZ y.1.1 y.1.2.1 c !=b))->c0= #[.int .i64 y.1.1.1,.int .i64 y.1.1.2,.slice y.2.a y.2.n y.2.c,.bool d,.int .i64 y.1.2.2.2]->
   Calls Tryz.prog 147 #[.agg #[.int .i64 y.1.1.1,.int .i64 y.1.1.2,.slice y.2.a y.2.n y.2.c],.agg #[.int .i64 c.1,.int .i64 c.2.1,.int .i64 c.2.2],.int .i64 b] v (λe ct=>∃(dc:Int)(de:Int)(me:Sl)(dZ:Int),e=.returned (.tuple #[.agg #[.int .i64 dc,.int .i64 de,.slice me.a me.n me.c],.int .i64 dZ])/\ct.heap[w.heap.size]? =v.heap[w.heap.size]?/\ct.heap[w0.heap.size]? =v.heap[w0.heap.size]?/\ct.heap[w1.heap.size]? =v.heap[w1.heap.size]?/\ct.heap[w8.heap.size]? =v.heap[w8.heap.size]?/\
   ∀jf:World,jf=ct.alloc (.cells #[.int .i64 0,.int .i64 0,.slice none 0 0] 108)->
   ∀eN:World,eN=jf.setRow ct.heap.size #[.int .i64 dc,.int .i64 de,.slice me.a me.n me.c]->
   ∀fP:World,fP=eN.setRow w8.heap.size #[.int .i64 dc,.int .i64 de,.slice me.a me.n me.c,.bool d,.int .i64 y.1.2.2.2]->
   Calls Tryz.prog 78 #[Ai ag cap T.1 s1 s2 s3,.int .i64 (k:Int)] fP.drew (λe ia=>∃(iN:Int)(jB:Int)(gx:Int)(gf:Int)(jy:Int)(pk:Sl)(FC:Sl)(wD:Sl),e=.returned (.agg #[.int .i64 iN,.int .i64 jB,.int .i64 gx,.int .i64 gf,.int .i64 jy,.slice pk.a pk.n pk.c,.slice FC.a FC.n FC.c,.slice wD.a wD.n wD.c])/\ia.heap[w.heap.size]? =fP.drew.heap[w.heap.size]?/\ia.heap[w0.heap.size]? =fP.drew.heap[w0.heap.size]?/\ia.heap[w1.heap.size]? =fP.drew.heap[w1.heap.size]?/\ia.heap[w8.heap.size]? =fP.drew.heap[w8.heap.size]?/\ia.heap[ct.heap.size]? =fP.drew.heap[ct.heap.size]?/\
   au ia (some ⟨w8.heap.size,0,none⟩) 0 [.int .i64 dc,.int .i64 de,.slice me.a me.n me.c,.bool d,.int .i64 y.1.2.2.2]/\Calls Tryz.prog 77 #[.agg #[.int .i64 iN,.int .i64 jB,.int .i64 gx,.int .i64 gf,.int .i64 jy,.slice pk.a pk.n pk.c,.slice FC.a FC.n FC.c,.slice wD.a wD.n wD.c],.agg #[.int .i64 dc,.int .i64 de,.slice me.a me.n me.c,.bool d,.int .i64 y.1.2.2.2]] ia (λe iU=>∃(nG:Int)(jC:Int)(lU:Int)(kG:Int)(jI:Int)(Bn:Sl)(Mm:Sl)(uN:Sl),e=.returned (.agg #[.int .i64 nG,.int .i64 jC,.int .i64 lU,.int .i64 kG,.int .i64 jI,.slice Bn.a Bn.n Bn.c,.slice Mm.a Mm.n Mm.c,.slice uN.a uN.n uN.c])/\iU.heap[w.heap.size]? =ia.heap[w.heap.size]?/\iU.heap[w0.heap.size]? =ia.heap[w0.heap.size]?/\iU.heap[w1.heap.size]? =ia.heap[w1.heap.size]?/\iU.heap[w8.heap.size]? =ia.heap[w8.heap.size]?/\iU.heap[ct.heap.size]? =ia.heap[ct.heap.size]?/\
   ∀uK:World,uK=iU.setRow w1.heap.size #[.int .i64 nG,.int .i64 jC,.int .i64 lU,.int .i64 kG,.int .i64 jI,.slice Bn.a Bn.n Bn.c,.slice Mm.a Mm.n Mm.c,.slice uN.a uN.n uN.c]->
   mI P w ag cap ((T.1,T.2.eraseIdx k++ [(y.1.1,(fL y.1.1 y.1.2.1 c b).1,y.1.2.2.1||(rZ y.1.1 y.1.2.1 c !=b),y.1.2.2.2)]),0) (.returned (.tuple #[.agg #[.int .i64 nG,.int .i64 jC,.int .i64 lU,.int .i64 kG,.int .i64 jI,.slice Bn.a Bn.n Bn.c,.slice Mm.a Mm.n Mm.c,.slice uN.a uN.n uN.c],.int .i64 0])) uK))):=by
  intro v v0 d c0 J7 ev hd F9;have rv:Row v w8.heap.size [.int .i64 y.1.1.1,.int .i64 y.1.1.2,.slice y.2.a y.2.n y.2.c,.bool d,.int .i64 y.1.2.2.2] 110:=by rw [ev,F9];exact Row.set (r20.ext J7) _
  have xv8:Ext w8 v:=(du.tr J7).ab ev (Nat.le_refl _);have zv0:=J7.size;have zv:=mC ev;have xv:=x08.tr xv8;clear ev F9;refine (LU (P:=Bx P w.heap.size (w8.heap.size+1)) (p:=y.1.1) (Jq.ext xv8) (hP.bx xv (by omega)) g1 c hc b).mono ?_;rintro e ct ⟨⟨me,rfl,h25⟩,eK⟩;have z22:=eK.size;refine ⟨_,_,me,_,rfl,eK.k,eK.k,eK.k,eK.k,λjf yF eN e28 fP NF=> ?_⟩;have eS:Ext ct eN:=((Ext.bX _).ay yF).ab e28 (Nat.le_refl _);have z28:=jE yF e28;clear yF e28;have r29:Row fP w8.heap.size [.int .i64 y.1.1.1,.int .i64 y.1.1.2,.slice me.a me.n me.c,.bool d,.int .i64 y.1.2.2.2] 110:=by rw [NF];exact Row.set (rv.ext (eK.tr eS)) _
  have z29:=mC NF;have ab4:=(xv.tr (eK.tr eS)).ab NF (by omega);have akN:RR (Bx P w.heap.size (w8.heap.size+1)) fP me (cM (fL y.1.1 y.1.2.1 c b).1):=(h25.ext eS).same λi hp _=>⟨by rw [NF,setRow_other _ _ _ _ (by have:=hp.2;omega)],hp⟩
  have akO:=h.nT ab4 (w8.heap.size+1);clear NF;have UY:=Ext.dr fP;have aqU:fP.drew.heap.size=fP.heap.size:=rfl;refine (j9 (ag:=ag) (cap:=cap) (akO.ext UY) (hP.bx (ab4.tr UY) (by omega)) ho.l (i:=k) rF).mono ?_;rintro e ia ⟨sa,sb,sc,rfl,h30,oT⟩;have z30:=oT.size;refine ⟨_,_,_,_,_,sa,sb,sc,rfl,oT.k,oT.k,oT.k,oT.k,oT.k,(r29.ext (UY.tr oT)).aY (λj hj=>by rw [Nat.zero_add]),?_⟩;have afj:=ab4.tr (UY.tr oT);have hel:(T.2.eraseIdx k).length<=1000000:=by rw [List.length_eraseIdx];split<;>(have:=ho.l;omega)
  refine (sh (ag:=ag) (cap:=cap) h30 (hP.bx afj (by omega)) hel ((y.1.1,(fL y.1.1 y.1.2.1 c b).1,d,y.1.2.2.2),me) ((akN.ext UY).ext oT)).mono ?_;rintro e iU ⟨sa',sb',sc',rfl,h39,kB⟩;refine ⟨_,_,_,_,_,sa',sb',sc',rfl,kB.k,kB.k,kB.k,kB.k,kB.k,λuK e48=> ?_⟩;rw [<-hd];exact ⟨sa',sb',sc',rfl,(h39.box e48 ⟨by omega,by omega⟩).out,(afj.tr kB).ab e48 (by omega)⟩
 refine Br.mk (λq=>λef uP=>fin (Ext.bX _) uP (by rw [q];rfl) rfl) (λq=>(Ho (p:=y.1.1) (Jq.ext du).r g1 c hc).mono ?_);rintro e BS ⟨rfl,j4⟩;rw [eAt];exact ⟨_,rfl,j4.k,j4.k,j4.k,j4.k,λw51 e51=>fin j4 e51 (by rw [q];rfl) rfl⟩
end
end Go.Proofs.YtalpkjfpmdpbiaaGreatDoor
namespace Go.Proofs.YtalpkjfpmdpbiaaGreatDoor
open Go Go.Vc Go.RowKit Go.Proofs Go.dS Go.bh Go.Code
section
variable {P P':Nat->Prop} {w w' v v':World} {s s1 s2 s3:Sl} {T:Tb} {ag cap:Int}
def Lr{D:Dk}(h:iu D)(id:Int):(qA D id).1.length<=1048576:=by
 have h0:=yR h (2*id);have h1:=yR h (2*id+1);have r0:=LZ (getD D (2*id));have r1:=LZ (getD D (2*id+1));unfold qA;split
 ·rw [M6];split
  ·split<;>simp only [Nu]<;>omega
  ·split
   ·simp only;omega
   ·split<;>simp only<;>omega
 ·simp
set_option maxRecDepth 100000 in
def Fg(h:RT P w T s1 s2 s3)(hP:Fw P w)(ho:qH T)(hm:mD T.1<=500000)(uH:inI cap)(p:Po):
  ah 39 #[Ai ag cap T.1 s1 s2 s3,pv p] w (mI P w ag cap (oL ag cap T.1 T.2 p)):=by
 apply (Aj.vc (aK:=s1) (aL:=s2) (aH:=s3));intro w0 e0 w1 e1 w2 e2;have x2:Ext w w2:=((bo e0).ay e1).ay e2;have z0:=dt e0;have z1:w1.heap.size=w.heap.size+2:=by rw [e1];simp [z0]
 have z2:w2.heap.size=w.heap.size+3:=by rw [e2];simp [z1]
 refine (uc p w2).mono ?_;rintro e w3 ⟨rfl,x3⟩;have z3:=x3.size;have sN:=x2.tr x3;refine ⟨_,rfl,x3.heap aa,x3.heap aa,x3.heap aa,?_⟩;have hid0:¬oI p->jU p=0:=yO;have hid1:oI p->1<=jU p/\jU p<=1099511627776:=λq=>MT q
 refine Br.mk (λq=>λw5 e5=> ?_) (λq=> ?_)
 ·have cX:¬oI p:=λhh=>by have:=hid1 hh;simp at q;omega
  have e1:oL ag cap T.1 T.2 p=((T.1,T.2),5):=by unfold oL;rw [if_pos cX]
  have x5:=sN.ab e5 aa;rw [e1];exact ⟨s1,s2,s3,rfl,h.ext x5,x5⟩
 have cX:oI p:=by
  by_cases hh:oI p
  ·exact hh
  ·have:=hid0 hh;simp [this] at q
 have hid:=hid1 cX;refine (fQ (ag:=ag) (cap:=cap) (h.ext sN) ho.l p).mono ?_;rintro e w6 ⟨rfl,x6⟩;have z6:=x6.size;have vg:=sN.tr x6;refine ⟨_,rfl,x6.heap aa,x6.heap aa,x6.heap aa,?_⟩;have hl:=ho.l;have leaf:∀{v:World} {T':Tb} {sa sb sc:Sl} (y:Ci),Ext w v->w.heap.size+3<=v.heap.size->RT (Bx P w (w.heap.size+3)) v T' sa sb sc->RR (Bx P w (w.heap.size+3)) v y.2 (cM y.1.2.1)->T'.2.length<=1000000->
   ah 77 #[Ai ag cap T'.1 sa sb sc,.agg #[.int .i64 y.1.1.1,.int .i64 y.1.1.2,.slice y.2.a y.2.n y.2.c,.bool y.1.2.2.1,.int .i64 y.1.2.2.2]] v λe w'=>∃sa' sb' sc':Sl,e=(Ai ag cap T'.1 sa' sb' sc')/\Ext v w'/\∀Ub c,Ub=w'.setRow w1 c->mI P w ag cap ((T'.1,T'.2++ [y.1]),0) (.returned (.tuple #[Ai ag cap T'.1 sa' sb' sc',af])) Ub:=by
  intro v T' sa sb sc y xv zv hT hy hl';refine (sh (ag:=ag) (cap:=cap) hT (hP.bx xv zv) hl' y hy).mono ?_;rintro e w' ⟨sa',sb',sc',rfl,h',x'⟩;exact ⟨sa',sb',sc',rfl,x',λUb c e1=>⟨sa',sb',sc',rfl,(h'.box e1 ⟨by omega,by omega⟩).out,(xv.tr x').ab e1 aa⟩⟩
 have hRd:∀{b:List Int},lR b->(cL ba b 8192).2=0->cM (aX (cL ba b 8192).1)=(cL ba b 8192).1/\gT ag p b=aX (cL ba b 8192).1:=λ{b} hb h0=>by
  obtain ⟨f1,f2,f3⟩:=pP (b:=b) (n:=8192) hb aC h0;have hmy:ju ba (cL ba b 8192).1 8192=true:=by have:=f2.ju aa;rw [f3] at this;exact this
  exact ⟨(ud hmy).1,by unfold gT;rw [if_pos h0]⟩
 have hRn:∀{b:List Int},(cL ba b 8192).2≠0->gT ag p b=made ag p:=λ{b} h0=>by unfold gT;rw [if_neg h0]
 rcases (cl (λe:En=>e.1==p) T.2).symm with ⟨k,e,hk,he,hf,-⟩|⟨hf,lk⟩
 ·rw [hf];have e1:oL ag cap T.1 T.2 p=((T.1,T.2.eraseIdx k++ [e]),0):=by unfold oL;rw [if_neg (by simpa using cX),hf,if_pos aa,jt,hk];rfl
  have rF:=(bH.1 hk).1;have h6:=h.nT vg (w.heap.size+3);obtain ⟨y,hy,Jq,hin2,lA,mA,NU⟩:=h6.l.at hk;subst hy;refine Br.mk (λ_=>⟨hin2,y.1.1.1,y.1.1.2,y.2,y.1.2.2.1,y.1.2.2.2,NU,λcC qX bY mB=> ?_⟩) (λq=>by simp at q);have bW:Ext w6 bY:=(bo qX).ab mB (ax _);have Vx:=jE qX mB;have r14:Row bY w6 [.int .i64 y.1.1.1,.int .i64 y.1.1.2,.slice y.2.a y.2.n y.2.c,.bool y.1.2.2.1,.int .i64 y.1.2.2.2] 110:=by rw [mB];exact Row.set (by rw [qX];exact Row.new w6 [_,_,_,_,_] _) _
  have xd:=Ext.dr bY;have zd:=kQ bY;have afD:=vg.tr (bW.tr xd);refine (j9 (ag:=ag) (cap:=cap) (h6.ext (bW.tr xd)) (hP.bx afD aa) hl (i:=k) rF).mono ?_;rintro e cU ⟨sa,sb,sc,rfl,Xq,bw⟩;have z15:=bw.size;refine ⟨_,_,_,_,_,sa,sb,sc,rfl,bw.heap aa,bw.heap aa,bw.heap aa,bw.heap aa,(r14.ext (xd.tr bw)).aY (λj hj=>by rw [cP]),?_⟩;have hel:(T.2.eraseIdx k).length<=1000000:=by rw [List.length_eraseIdx];split<;>omega
  refine (leaf y (afD.tr bw) aa Xq ((Jq.ext (bW.tr xd)).ext bw) hel).mono ?_;rintro e fy ⟨sa',sb',sc',rfl,de,fin⟩;rw [e1];exact ⟨_,_,_,_,_,sa',sb',sc',rfl,de.heap aa,de.heap aa,de.heap aa,de.heap aa,λlz wF=>fin lz _ wF⟩
 rw [hf];have e1:oL ag cap T.1 T.2 p=if (cG cap T.1 T.2).2≠0 then cG cap T.1 T.2 else (((cG cap T.1 T.2).1.1,(cG cap T.1 T.2).1.2++ [(p,gT ag p (qA (cG cap T.1 T.2).1.1 (jU p)).1,false,0)]),0):=by unfold oL;rw [if_neg (by simpa using cX),hf,if_neg aC]
 obtain ⟨its,kP,hms⟩:=h.l;have hn:=kP.n;have wg:its.length=T.2.length:=by rw [<-hms,aB]
 refine Br.mk (λq=>by simp at q) (λ_=>Br.mk (λhfull=> ?_) (λhfree=> ?_))
 ·have hfull:¬((T.2.length:Nat):Int)<cap:=by rw [<-wg,<-hn];simpa using hfull
  have eR:cG cap T.1 T.2=if bC (λe:En=>e.2.2.2==0) T.2<0 then ((T.1,T.2),8) else Kw T.1 T.2 (bC (λe:En=>e.2.2.2==0) T.2).toNat:=by unfold cG;rw [if_neg hfull]
  have wl:ai (((s3.n:Nat):Int)-1)=((T.2.length:Nat):Int)-1:=by rw [wI];omega
  rw [wl];refine ⟨λn i fr wr=>i=(n:Int)-1/\n<=T.2.length/\wr=w6/\((fr= -1/\∀m,n<=m->∀y,T.2[m]? =some y->(y.2.2.2==0)=false)\/∃(k:Nat)(y:En),n<=k/\T.2[k]? =some y/\(y.2.2.2==0)=true/\fr=k/\∀m,n<=m->m<k->∀y,T.2[m]? =some y->(y.2.2.2==0)=false),⟨T.2.length,rfl,rfl,rfl,rfl,ax _,rfl,.inl ⟨rfl,λm hm' y hy=>by have:=(bH.1 hy).1;omega⟩⟩,?_⟩;rintro n us i fr iU ⟨rfl,Jl,rfl,DV⟩;apply Br.mk<;>intro hc
  ·simp only [ge_iff_le,bA] at hc;obtain ⟨j,rfl⟩:∃j,n=j+1:=⟨n-1,by omega⟩;have ej:(((j+1:Nat):Int)-1)=(j:Int):=by omega
   rw [ej];obtain ⟨e,he⟩:=aZ (l:=T.2) (i:=j) aa;obtain ⟨y,hy,-,hin2,lA,mA,-⟩:=(h.ext vg).l.at he;subst hy;have wj:ai ((j:Int)-1)=(j:Int)-1:=wI;refine ⟨hin2,BM lA ⟨y.1.2.2.2,mA 4 _ rfl,Br.mk (λq=>⟨j,by omega,rfl,rfl,rfl,wj,by omega,rfl,.inr ⟨j,y.1,ax _,he,q,rfl,λm h1 h2=>by omega⟩⟩) (λq=>⟨j,by omega,rfl,rfl,rfl,wj,by omega,rfl,?_⟩)⟩⟩;have ext1:∀{k:Nat},(∀m,j+1<=m->m<k->∀y,T.2[m]? =some y->(y.2.2.2==0)=false)->∀m,j<=m->m<k->∀y,T.2[m]? =some y->(y.2.2.2==0)=false:=λhh m h1 h2 y' hy'=>by
    rcases fz j m with q3|q3
    ·exact hh m aa h2 y' hy'
    ·have:m=j:=by omega
     subst this;rw [he] at hy';cases hy';exact q
   rcases DV with ⟨f1,f2⟩|⟨k,y',f1,f2,f3,f4,f5⟩
   ·refine .inl ⟨f1,λm h1 y' hy'=> ?_⟩;exact ext1 (k:=m+1) (λm' h1 _=>f2 m' h1) m h1 aa y' hy'
   ·exact .inr ⟨k,y',by omega,f2,f3,f4,ext1 f5⟩
  ·simp only [ge_iff_le,bV] at hc;have hn0:n=0:=by omega
   subst hn0;rcases DV with ⟨rfl,f2⟩|⟨k,e,-,hk,hek,rfl,f5⟩
   ·refine Br.mk (λ_=>λny VF=> ?_) (λq=>by simp at q);have hfi:bC (λe:En=>e.2.2.2==0) T.2= -1:=ja λy hy=>by obtain ⟨m,hm'⟩:=mR hy;exact f2 m (eC _) y hm'
    rw [hfi,if_pos aC] at eR;rw [e1,eR,if_pos cx];have lU:=vg.ab VF aa;exact ⟨s1,s2,s3,rfl,h.ext lU,lU⟩
   ·have hfi:bC (λe:En=>e.2.2.2==0) T.2=k:=mZ hk hek λm hm' y hy=>f5 m (eC _) hm' y hy
    rw [hfi,if_neg aa,jt,Sh hk] at eR;have rF:=(bH.1 hk).1;refine Br.mk (λq=>by simp at q;omega) (λ_=>(ua (h.nT vg (w.heap.size+3)) (hP.bx vg aa) ho.d ho.f ho.g hl hk).mono ?_);rintro e' ql ⟨sa,sb,sc,rfl,h43,kG⟩;have z43:=kG.size;have j1:(HB T k e).1.2.length=T.2.length:=by unfold HB;simp
    have hmD:mD (HB T k e).1.1<=mD T.1+1:=IJ _ _;have hDk:iu (HB T k e).1.1:=L9 ho.d _;generalize HB T k e=R at*;have aly:=vg.tr kG;refine ⟨_,_,_,_,_,sa,sb,sc,_,rfl,kG.heap aa,kG.heap aa,kG.heap aa,λXs Bs wh Ui=> ?_⟩;have uW:Ext ql wh:=(bo Bs).ab Ui (ax _);have z54:=jE Bs Ui;have acu:=aly.tr uW;refine Br.mk (λq=>λza e55=> ?_) (λq=> ?_)
    ·have q:=kX q;rw [if_neg q] at eR;rw [e1,eR,if_pos q];exact ⟨sa,sb,sc,rfl,((h43.ext uW).box e55 ⟨by omega,by omega⟩).out,acu.ab e55 aa⟩
    ·have q:=kX q;rw [if_pos q] at eR;rw [e1,eR,if_neg cx];refine (j9 (ag:=ag) (cap:=cap) (h43.ext uW) (hP.bx acu aa) aa (i:=k) aa).mono ?_;rintro e' NO ⟨sa,sb,sc,rfl,h56,DR⟩;have z56:=DR.size;refine ⟨_,_,_,_,_,sa,sb,sc,rfl,DR.heap aa,DR.heap aa,DR.heap aa,DR.heap aa,λFE XM=> ?_⟩;have h65:=h56.box XM ⟨ax _,by omega⟩;have JO:=(acu.tr DR).ab XM (ax _);have z65:=mC XM;have hel:(R.1.2.eraseIdx k).length<=1000000:=by rw [List.length_eraseIdx];split<;>omega
     refine (pL h65.d (hP.bx JO aa) hDk (EH (by simp only;omega)) (jU p)).mono ?_;rintro e' sI ⟨Fv,rfl,J6,lP⟩;have z66:=lP.size;refine ⟨Fv,_,_,rfl,lP.heap aa,lP.heap aa,lP.heap aa,lP.heap aa,(pQ p Fv _ sI J6.r J6.y J6.c (by have:=Lr hDk (jU p);simp only;omega)).mono ?_⟩;rintro e' wB ⟨⟨sK,qQ,Mn,rfl,h70⟩,jD⟩;have z70:=jD.size;refine ⟨sK,qQ,Mn,_,rfl,jD.heap aa,jD.heap aa,jD.heap aa,jD.heap aa,λJX VN BV VO=> ?_⟩;have rI:Ext wB BV:=(bo VN).ab VO (ax _);have z76:=jE VN VO;have FO:=JO.tr (lP.tr (jD.tr rI));generalize Gj:(qA R.1.1 (jU p)).1=bb at*;refine Br.mk (λq2=>(si ag p (yQ cX) BV).mono ?_) (λq2=> ?_)
     ·rintro e' w77 ⟨Bv,rfl,JD,po⟩;have q2:=kX q2;have z77:=po.size;refine ⟨_,_,Bv,rfl,po.heap aa,po.heap aa,po.heap aa,po.heap aa,po.heap aa,λxA NT=> ?_⟩;have z81:=mC NT;have Ux:=(FO.tr po).ab NT (by have:=JO.size;omega);have h81:RT (Bx P w (w.heap.size+3)) xA (R.1.1,R.1.2.eraseIdx k) sa sb sc:=(h65.ext (lP.tr jD)).same λi hp hi=>⟨by rw [NT,setRow_other _ _ _ _ aa];exact (rI.tr po).heap aa,hp⟩
      have Uy:RR (Bx P w (w.heap.size+3)) xA Bv (cM (made ag p)):=by refine RR.own (B:=BV.heap.size) (aj.bM JD λj hj=> ?_) (λi hi=>⟨hP i (by have:=FO.size;omega),.inr (by have:=JO.size;omega)⟩);have:=(JD.own.lt hj).1;rw [NT,setRow_other _ _ _ _ aa]
      refine (leaf ((p,made ag p,false,0),Bv) Ux (by have:=JO.size;omega) h81 Uy hel).mono ?_;rintro e' w82 ⟨sa',sb',sc',rfl,rE,fin⟩;rw [hRn q2];exact ⟨_,_,_,_,_,sa',sb',sc',rfl,rE.heap aa,rE.heap aa,rE.heap aa,rE.heap aa,rE.heap aa,λUj XG=>fin Uj _ XG⟩
     ·have q2:=kX q2;obtain ⟨rfl,rfl,JE⟩:=h70 q2;obtain ⟨YV,jH⟩:=hRd J6.y q2;rw [<-YV] at JE;have Uz:RR (Bx P w (w.heap.size+3)) BV Mn (cM (aX (cL ba bb 8192).1)):=RR.ext (RR.own JE λi hi=>⟨hP i (by have:=JO.size;omega),.inr (by have:=JO.size;omega)⟩) rI;refine (leaf ((p,aX (cL ba bb 8192).1,false,0),Mn) FO (by have:=JO.size;omega) (h65.ext (lP.tr (jD.tr rI))) Uz hel).mono ?_;rintro e' xB ⟨sa',sb',sc',rfl,sZ,fin⟩;rw [jH];exact ⟨_,_,_,_,_,sa',sb',sc',rfl,sZ.heap aa,sZ.heap aa,sZ.heap aa,sZ.heap aa,sZ.heap aa,λCz UA=>fin Cz _ UA⟩
 ·have hfree:((T.2.length:Nat):Int)<cap:=by rw [<-wg,<-hn];simpa using hfree
  have eR:cG cap T.1 T.2=((T.1,T.2),0):=by unfold cG;rw [if_pos hfree]
  rw [e1,eR,if_neg cx];have h6:=h.nT vg (w.heap.size+3);refine (pL h6.d (hP.bx vg aa) ho.d (EH aa) (jU p)).mono ?_;rintro e' sI ⟨Fv,rfl,J6,lP⟩;have z66:=lP.size;refine ⟨Fv,_,_,rfl,lP.heap aa,lP.heap aa,lP.heap aa,(pQ p Fv _ sI J6.r J6.y J6.c (by have:=Lr ho.d (jU p);omega)).mono ?_⟩;rintro e' wB ⟨⟨sK,qQ,Mn,rfl,h70⟩,jD⟩;have z70:=jD.size;refine ⟨sK,qQ,Mn,_,rfl,jD.heap aa,jD.heap aa,jD.heap aa,λJX VN BV VO=> ?_⟩;have rI:Ext wB BV:=(bo VN).ab VO (ax _);have z76:=jE VN VO;have FO:=vg.tr (lP.tr (jD.tr rI));generalize Gj:(qA T.1 (jU p)).1=bb at*;refine Br.mk (λq2=>(si ag p (yQ cX) BV).mono ?_) (λq2=> ?_)
  ·rintro e' w77 ⟨Bv,rfl,JD,po⟩;have q2:=kX q2;have z77:=po.size;refine ⟨_,_,Bv,rfl,po.heap aa,po.heap aa,po.heap aa,po.heap aa,λxA NT=> ?_⟩;have z81:=mC NT;have Ux:=(FO.tr po).ab NT aa;have h81:RT (Bx P w (w.heap.size+3)) xA T s1 s2 s3:=(h6.ext (lP.tr jD)).same λi hp hi=>⟨by rw [NT,setRow_other _ _ _ _ aa];exact (rI.tr po).heap aa,hp⟩
   have Uy:RR (Bx P w (w.heap.size+3)) xA Bv (cM (made ag p)):=by refine RR.own (B:=BV.heap.size) (aj.bM JD λj hj=> ?_) (λi hi=>⟨hP i aa,.inr aa⟩);have:=(JD.own.lt hj).1;rw [NT,setRow_other _ _ _ _ aa]
   refine (leaf ((p,made ag p,false,0),Bv) Ux aa h81 Uy hl).mono ?_;rintro e' w82 ⟨sa',sb',sc',rfl,rE,fin⟩;rw [hRn q2];exact ⟨_,_,_,_,_,sa',sb',sc',rfl,rE.heap aa,rE.heap aa,rE.heap aa,rE.heap aa,λUj XG=>fin Uj _ XG⟩
  ·have q2:=kX q2;obtain ⟨rfl,rfl,JE⟩:=h70 q2;obtain ⟨YV,jH⟩:=hRd J6.y q2;rw [<-YV] at JE;have Uz:RR (Bx P w (w.heap.size+3)) BV Mn (cM (aX (cL ba bb 8192).1)):=RR.ext (RR.own JE λi hi=>⟨hP i aa,.inr aa⟩) rI;refine (leaf ((p,aX (cL ba bb 8192).1,false,0),Mn) FO aa (h6.ext (lP.tr (jD.tr rI))) Uz hl).mono ?_;rintro e' xB ⟨sa',sb',sc',rfl,sZ,fin⟩;rw [jH];exact ⟨_,_,_,_,_,sa',sb',sc',rfl,sZ.heap aa,sZ.heap aa,sZ.heap aa,sZ.heap aa,λCz UA=>fin Cz _ UA⟩
end
end Go.Proofs.YtalpkjfpmdpbiaaGreatDoor
namespace Go.Proofs.YtalpkjfpmdpbiaaGreatDoor
open Go Go.Vc Go.RowKit Go.Proofs Go.dS Go.bh Go.Code
section
variable {P P':Nat->Prop} {w w' v v':World} {s s1 s2 s3:Sl} {T:Tb} {ag cap:Int}
set_option maxRecDepth 100000 in
def kc(h:RT P w T s1 s2 s3)(hP:Fw P w)(ho:qH T)(hm:mD T.1<=500000)(uH:inI cap)(p:Po)(ajB:((T.2.length:Nat):Int)<cap)(Bh:∀e ∈ T.2,e.1≠p):
  ah 39 #[Ai ag cap T.1 s1 s2 s3,pv p] w (mI P w ag cap (oL ag cap T.1 T.2 p)):=by
 apply (Aj.vc (aK:=s1) (aL:=s2) (aH:=s3));intro w0 e0 w1 e1 w2 e2;have x2:Ext w w2:=((bo e0).ay e1).ay e2;have z0:=dt e0;have z1:w1.heap.size=w.heap.size+2:=by rw [e1];simp [z0]
 have z2:w2.heap.size=w.heap.size+3:=by rw [e2];simp [z1]
 refine (uc p w2).mono ?_;rintro e w3 ⟨rfl,x3⟩;have z3:=x3.size;have sN:=x2.tr x3;refine ⟨_,rfl,x3.heap aa,x3.heap aa,x3.heap aa,?_⟩;have hid0:¬oI p->jU p=0:=yO;have hid1:oI p->1<=jU p/\jU p<=1099511627776:=λq=>MT q
 refine Br.mk (λq=>λw5 e5=> ?_) (λq=> ?_)
 ·have cX:¬oI p:=λhh=>by have:=hid1 hh;simp at q;omega
  have e1:oL ag cap T.1 T.2 p=((T.1,T.2),5):=by unfold oL;rw [if_pos cX]
  have x5:=sN.ab e5 aa;rw [e1];exact ⟨s1,s2,s3,rfl,h.ext x5,x5⟩
 have cX:oI p:=by
  by_cases hh:oI p
  ·exact hh
  ·have:=hid0 hh;simp [this] at q
 have hid:=hid1 cX;refine (fQ (ag:=ag) (cap:=cap) (h.ext sN) ho.l p).mono ?_;rintro e w6 ⟨rfl,x6⟩;have z6:=x6.size;have vg:=sN.tr x6;refine ⟨_,rfl,x6.heap aa,x6.heap aa,x6.heap aa,?_⟩;have hl:=ho.l;have leaf:∀{v:World} {T':Tb} {sa sb sc:Sl} (y:Ci),Ext w v->w.heap.size+3<=v.heap.size->RT (Bx P w (w.heap.size+3)) v T' sa sb sc->RR (Bx P w (w.heap.size+3)) v y.2 (cM y.1.2.1)->T'.2.length<=1000000->
   ah 77 #[Ai ag cap T'.1 sa sb sc,.agg #[y.1.1.1,y.1.1.2,.slice y.2.a y.2.n y.2.c,.bool y.1.2.2.1,y.1.2.2.2]] v λe w'=>∃sa' sb' sc':Sl,e=(Ai ag cap T'.1 sa' sb' sc')/\Ext v w'/\∀Ub c,Ub=w'.setRow w1 c->mI P w ag cap ((T'.1,T'.2++ [y.1]),0) (.returned (.tuple #[Ai ag cap T'.1 sa' sb' sc',af])) Ub:=by
  intro v T' sa sb sc y xv zv hT hy hl';refine (sh (ag:=ag) (cap:=cap) hT (hP.bx xv zv) hl' y hy).mono ?_;rintro e w' ⟨sa',sb',sc',rfl,h',x'⟩;exact ⟨sa',sb',sc',rfl,x',λUb c e1=>⟨sa',sb',sc',rfl,(h'.box e1 ⟨by omega,by omega⟩).out,(xv.tr x').ab e1 aa⟩⟩
 have hRd:∀{b:List Int},lR b->(cL ba b 8192).2=0->cM (aX (cL ba b 8192).1)=(cL ba b 8192).1/\gT ag p b=aX (cL ba b 8192).1:=λ{b} hb h0=>by
  obtain ⟨f1,f2,f3⟩:=pP (b:=b) (n:=8192) hb aC h0;have hmy:ju ba (cL ba b 8192).1 8192=true:=by have:=f2.ju aa;rw [f3] at this;exact this
  exact ⟨(ud hmy).1,by unfold gT;rw [if_pos h0]⟩
 have hRn:∀{b:List Int},(cL ba b 8192).2≠0->gT ag p b=made ag p:=λ{b} h0=>by unfold gT;rw [if_neg h0]
 rcases (cl (λe:En=>e.1==p) T.2).symm with ⟨k,e,hk,he,hf,-⟩|⟨hf,lk⟩
 ·exact absurd (by simpa using he) (Bh _ (bf hk))
 rw [hf];have e1:oL ag cap T.1 T.2 p=if (cG cap T.1 T.2).2≠0 then cG cap T.1 T.2 else (((cG cap T.1 T.2).1.1,(cG cap T.1 T.2).1.2++ [(p,gT ag p (qA (cG cap T.1 T.2).1.1 (jU p)).1,false,0)]),0):=by unfold oL;rw [if_neg (by simpa using cX),hf,if_neg aC]
 obtain ⟨its,kP,hms⟩:=h.l;have hn:=kP.n;have wg:its.length=T.2.length:=by rw [<-hms,aB]
 refine Br.mk (λq=>by simp at q) (λ_=>Br.mk (λhfull=> ?_) (λhfree=> ?_))
 ·have hfull:¬((T.2.length:Nat):Int)<cap:=by rw [<-wg,<-hn];simpa using hfull
  exact absurd ajB hfull
 ·have hfree:((T.2.length:Nat):Int)<cap:=by rw [<-wg,<-hn];simpa using hfree
  have eR:cG cap T.1 T.2=((T.1,T.2),0):=by unfold cG;rw [if_pos hfree]
  rw [e1,eR,if_neg cx];have h6:=h.nT vg (w.heap.size+3);refine (pL h6.d (hP.bx vg aa) ho.d (EH aa) (jU p)).mono ?_;rintro e' sI ⟨Fv,rfl,J6,lP⟩;have z66:=lP.size;refine ⟨Fv,_,_,rfl,lP.heap aa,lP.heap aa,lP.heap aa,(pQ p Fv _ sI J6.r J6.y J6.c (by have:=Lr ho.d (jU p);omega)).mono ?_⟩;rintro e' wB ⟨⟨sK,qQ,Mn,rfl,h70⟩,jD⟩;have z70:=jD.size;refine ⟨sK,qQ,Mn,_,rfl,jD.heap aa,jD.heap aa,jD.heap aa,λJX VN BV VO=> ?_⟩;have rI:Ext wB BV:=(bo VN).ab VO (ax _);have z76:=jE VN VO;have FO:=vg.tr (lP.tr (jD.tr rI));generalize Gj:(qA T.1 (jU p)).1=bb at*;refine Br.mk (λq2=>(si ag p (yQ cX) BV).mono ?_) (λq2=> ?_)
  ·rintro e' w77 ⟨Bv,rfl,JD,po⟩;have q2:=kX q2;have z77:=po.size;refine ⟨_,_,Bv,rfl,po.heap aa,po.heap aa,po.heap aa,po.heap aa,λxA NT=> ?_⟩;have z81:=mC NT;have Ux:=(FO.tr po).ab NT aa;have h81:RT (Bx P w (w.heap.size+3)) xA T s1 s2 s3:=(h6.ext (lP.tr jD)).same λi hp hi=>⟨by rw [NT,setRow_other _ _ _ _ aa];exact (rI.tr po).heap aa,hp⟩
   have Uy:RR (Bx P w (w.heap.size+3)) xA Bv (cM (made ag p)):=by refine RR.own (B:=BV.heap.size) (aj.bM JD λj hj=> ?_) (λi hi=>⟨hP i aa,.inr aa⟩);have:=(JD.own.lt hj).1;rw [NT,setRow_other _ _ _ _ aa]
   refine (leaf ((p,made ag p,false,0),Bv) Ux aa h81 Uy hl).mono ?_;rintro e' w82 ⟨sa',sb',sc',rfl,rE,fin⟩;rw [hRn q2];exact ⟨_,_,_,_,_,sa',sb',sc',rfl,rE.heap aa,rE.heap aa,rE.heap aa,rE.heap aa,λUj XG=>fin Uj _ XG⟩
  ·have q2:=kX q2;obtain ⟨rfl,rfl,JE⟩:=h70 q2;obtain ⟨YV,jH⟩:=hRd J6.y q2;rw [<-YV] at JE;have Uz:RR (Bx P w (w.heap.size+3)) BV Mn (cM (aX (cL ba bb 8192).1)):=RR.ext (RR.own JE λi hi=>⟨hP i aa,.inr aa⟩) rI;refine (leaf ((p,aX (cL ba bb 8192).1,false,0),Mn) FO aa (h6.ext (lP.tr (jD.tr rI))) Uz hl).mono ?_;rintro e' xB ⟨sa',sb',sc',rfl,sZ,fin⟩;rw [jH];exact ⟨_,_,_,_,_,sa',sb',sc',rfl,sZ.heap aa,sZ.heap aa,sZ.heap aa,sZ.heap aa,λCz UA=>fin Cz _ UA⟩
end
end Go.Proofs.YtalpkjfpmdpbiaaGreatDoor
