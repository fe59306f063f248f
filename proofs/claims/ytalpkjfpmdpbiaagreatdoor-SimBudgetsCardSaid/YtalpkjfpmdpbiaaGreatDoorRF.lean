import Derived.Test.YtalpkjfpmdpbiaaGreatDoorRA
set_option linter.all false
namespace Go.Proofs.YtalpkjfpmdpbiaaGreatDoor
open Go Go.Vc Go.RowKit Go.Proofs Go.dQ Go.bf Go.Code
abbrev Ci:=En × Sl
abbrev cw(y:Ci):LV:=[.int .i64 y.1.1.1,.int .i64 y.1.1.2,.slice y.2.a y.2.n y.2.c,.bool y.1.2.2.1,.int .i64 y.1.2.2.2]
abbrev XG:TypeId:=110
structure RR(P:Nat->Prop)(w:World)(s:Sl)(l:List Rn):Prop where
 r:ei w s l
 p:l≠ []->∀g,s.bg=some g->P g
structure BT(P:Nat->Prop)(w:World)(s:Sl)(its:List Ci):Prop where
 r:RdK w s 5 (its.map cw)
 y:∀y ∈ its,RR P w y.2 (cK y.1.2.1)
 p:its≠ []->∀g,s.bg=some g->P g
 c:s.n<=s.c
def Hx(y:Ci):One (cw y):=by intro v hv;simp at hv;rcases hv with rfl|rfl|rfl|rfl|rfl<;>rfl
section
variable {P P':Nat->Prop} {w w':World} {s:Sl} {its:List Ci}
def RR.ext{l:List Rn}(h:RR P w s l)(x:Ext w w'):RR P w' s l:=⟨RdK.ext h.r x,h.p⟩
def RR.same{l:List Rn}(h:RR P w s l)(hk:∀i,P i->i<w.heap.size->w'.heap[i]? =w.heap[i]?/\P' i):RR P' w' s l:=by
 have hb:l.map rv≠ []->l≠ []:=λq e=>q (by rw [e];rfl)
 have hb':l≠ []->l.map rv≠ []:=λq e=>q (by simpa using e)
 exact ⟨RdK.Ae h.r λdI g hg=>(hk g (h.p (hb dI) g hg) (RdK.jT h.r aE dI hg)).1,λdI g hg=>(hk g (h.p dI g hg) (RdK.jT h.r aE (hb' dI) hg)).2⟩
def RR.own{l:List Rn}{B:Nat}(h:lS B w s l)(hP:∀i,B<=i->P i):RR P w s l:=⟨lS.rA h,λ_ g hg=>hP g (h.own.lt hg).1⟩
def BT.ext(h:BT P w s its)(x:Ext w w'):BT P w' s its:=⟨h.r.ext x,λy hy=>(h.y y hy).ext x,h.p,h.c⟩
def BT.same(h:BT P w s its)(hk:∀i,P i->i<w.heap.size->w'.heap[i]? =w.heap[i]?/\P' i):BT P' w' s its:=by
 have hb:its.map cw≠ []->its≠ []:=λq e=>q (by rw [e];rfl)
 have hb':its≠ []->its.map cw≠ []:=λq e=>q (by simpa using e)
 exact ⟨RdK.Ae h.r λdI g hg=>(hk g (h.p (hb dI) g hg) (RdK.jT h.r aE dI hg)).1,λy hy=>(h.y y hy).same hk,λdI g hg=>(hk g (h.p dI g hg) (RdK.jT h.r aE (hb' dI) hg)).2,h.c⟩
def BT.nil:BT P w ⟨none,0,0⟩ []:=⟨⟨rfl,(λr hr=>by cases hr),λi r hi=>by simp at hi⟩,(λy hy=>by cases hy),λh=>absurd rfl h,ax _⟩
def BT.n(h:BT P w s its):s.n=its.length:=by have:=h.r.n;rwa [aB] at this
def BT.at(h:BT P w s its){k:Nat}{y:Ci}(hk:its[k]? =some y):cB s.a (k:Int) s.n/\(ae s.a (((k:Nat):Int).toNat*5)).isSome=true/\∀j v,(cw y)[j]? =some v->ld w (ae (ae s.a (((k:Nat):Int).toNat*5)) j)=some v:=by
 have hl:=(bF.1 hk).1;have hn:=h.n;have cV:=RdK.fN h.r aE (i:=(k:Int)) aa aa;have hr:(its.map cw)[k]? =some (cw y):=by rw [aX,hk];rfl
 exact ⟨cV,by rw [dX];exact cV.1,λj v hj=>h.r.at hr hj⟩
def BT.load(h:BT P w s its){k:Nat}{y:Ci}(hk:its[k]? =some y):av w (ae s.a (((k:Nat):Int).toNat*5)) 0 (cw y):=
 gC λj v hj=>by rw [cO];exact (h.at hk).2.2 j v hj
def BT.own{B:Nat}(h:ak B XG 5 w s (its.map cw))(hy:∀y ∈ its,RR P w y.2 (cK y.1.2.1))(hP:∀i,B<=i->P i):BT P w s its:=⟨ak.rd h aE,hy,(λ_ g hg=>hP g (h.own.lt hg).1),ak.le h⟩
end
def RC(P:Nat->Prop)(w:World)(s:Sl)(l:List En):Prop:=∃its,BT P w s its/\its.map (·.1)=l
abbrev zN(ag cap:Int)(d:Dk)(s1 s2 s3:Sl):Value:=.agg #[ag,cap,d.room,d.dt,d.wait,s1,s2,s3]
structure RT(P:Nat->Prop)(w:World)(T:Tb)(s1 s2 s3:Sl):Prop where
 d:wo P w T.1 s1 s2
 l:RC P w s3 T.2
abbrev Bx(P:Nat->Prop)(a b:Nat):Nat->Prop:=λi=>P i/\(i<a\/b<=i)
section
variable {P P':Nat->Prop} {w w' v v':World} {s s1 s2 s3:Sl} {T:Tb} {ag cap:Int}
def RC.ext{l:List En}(h:RC P w s l)(x:Ext w w'):RC P w' s l:=by obtain ⟨its,h1,h2⟩:=h;exact ⟨its,h1.ext x,h2⟩
def RC.same{l:List En}(h:RC P w s l)(hk:∀i,P i->i<w.heap.size->w'.heap[i]? =w.heap[i]?/\P' i):RC P' w' s l:=by obtain ⟨its,h1,h2⟩:=h;exact ⟨its,h1.same hk,h2⟩
def RC.nil:RC P w ⟨none,0,0⟩ []:=⟨[],BT.nil,rfl⟩
def RT.ext(h:RT P w T s1 s2 s3)(x:Ext w w'):RT P w' T s1 s2 s3:=⟨h.d.ext x,h.l.ext x⟩
def RT.same(h:RT P w T s1 s2 s3)(hk:∀i,P i->i<w.heap.size->w'.heap[i]? =w.heap[i]?/\P' i):RT P' w' T s1 s2 s3:=⟨h.d.same hk,h.l.same hk⟩
def RT.nN(h:RT P w T s1 s2 s3)(x:Ext w v)(b:Nat):RT (Bx P w b) v T s1 s2 s3:=h.same λ_ hp hi=>⟨x.heap hi,hp,.inl hi⟩
def RT.box{a b g:Nat}{c:Array Value}(h:RT (Bx P a b) v T s1 s2 s3)(e:v'=v.setRow g c)(hg:a<=g/\g<b):RT (Bx P a b) v' T s1 s2 s3:=h.same λi hp _=>⟨by rw [e,setRow_other _ _ _ _ (by have:=hp.2;omega)],hp⟩
def RT.out{a b:Nat}(h:RT (Bx P a b) v T s1 s2 s3):RT P v T s1 s2 s3:=h.same λ_ hp _=>⟨rfl,hp.1⟩
def Fw.bx{b:Nat}(hP:Fw P w)(x:Ext w v)(hb:b<=v.heap.size):Fw (Bx P w b) v:=λi hi=>⟨hP i (by have:=x.size;omega),.inr aa⟩
def fK(h:RT P w T s1 s2 s3)(hl:T.2.length<=1000000)(p:Po):
  ah 49 #[zN ag cap T.1 s1 s2 s3,pv p] w λe w'=>e=Value.int .i64 (bC (λe:En=>e.1==p) T.2)/\Ext w w':=by
 apply (Ks.vc (aK:=s1) (aL:=s2) (aH:=s3));intro w0 e0 w1 e1;have x1:Ext w w1:=(bq e0).ay e1;obtain ⟨its,kM,hm⟩:=h.l;have hn:=kM.n;have hTl:T.2.length=its.length:=by rw [<-hm,aB]
 refine ⟨λn i wr=>∃j:Nat,i=j/\j+n=its.length/\(∀m,m<j->∀y,T.2[m]? =some y->(y.1==p)=false)/\Ext w wr,⟨its.length,rfl,rfl,0,rfl,by omega,(λm hm=>absurd hm (Nat.not_lt_zero m)),x1⟩,?_⟩;rintro n us i wr ⟨j,rfl,hj,my,xr⟩;apply Br.mk<;>intro hc
 ·replace hc:=fj hc;obtain ⟨y,hy⟩:=bh (l:=its) (i:=j) aa;have hyT:T.2[j]? =some y.1:=by rw [<-hm,aX,hy];rfl
  have xd:=xr.tr (Ext.dr wr);obtain ⟨cV,mz,mH⟩:=(kM.ext xd).at hy;have p0:ae (ae (ae s3.a (((j:Nat):Int).toNat*5)) 0) 0=ae s3.a (((j:Nat):Int).toNat*5):=by rw [bZ,bZ]
  refine ⟨cV,Bj mz (Bj (by rw [dX];exact mz) ⟨y.1.1.1,y.1.1.2,?_,Br.mk (λhq=> ?_) (λhq=> ?_)⟩)⟩
  ·rw [p0];refine gC λq v hq=> ?_
   rw [cO];refine mH q v ?_
   match q,hq with
   |0,hq=>exact hq
   |1,hq=>exact hq
  ·have:(y.1.1==p)=true:=by simp only [gy,beq_iff_eq] at hq ⊢;exact Prod.ext hq.1 hq.2
   rw [mW hyT this my];exact ⟨rfl,xd⟩
  ·refine ⟨n-1,by omega,rfl,rfl,j+1,by rw [wI];omega,by omega,λm hm' y' hy'=> ?_,xd⟩;rcases fx m j with q|q
   ·exact my m q y' hy'
   ·have:m=j:=by omega
    subst this;rw [hyT] at hy';cases hy'
    cases hb:(y.1.1==p) with
    |false=>rfl
    |true=>
     have:y.1.1=p:=by simpa using hb
     rw [<-this] at hq;simp at hq
 ·replace hc:=fh hc;have:bC (λe:En=>e.1==p) T.2= -1:=iW λy hy=>by
   obtain ⟨m,hm'⟩:=mO hy;have hml:=(bF.1 hm').1;have hTl:T.2.length=its.length:=by rw [<-hm,aB]
   exact my m aa y hm'
  rw [this];exact ⟨rfl,xr⟩
abbrev Mm(P:Nat->Prop)(w:World)(ag cap:Int)(T:Tb)(e:Ending)(w':World):Prop:=∃IJ E1 IK:Sl,e=(zN ag cap T.1 IJ E1 IK)/\RT P w' T IJ E1 IK/\Ext w w'
abbrev mE(P:Nat->Prop)(w:World)(ag cap:Int)(T:Tb × Int)(e:Ending)(w':World):Prop:=∃IJ E1 IK:Sl,e=Value.tuple #[zN ag cap T.1.1 IJ E1 IK,T.2]/\RT P w' T.1 IJ E1 IK/\Ext w w'
def rI(h:RT P w T s1 s2 s3)(hP:Fw P w)(hl:T.2.length<=1000000)(y:Ci)(hy:RR P w y.2 (cK y.1.2.1)):
  ah 77 #[zN ag cap T.1 s1 s2 s3,.agg #[y.1.1.1,y.1.1.2,.slice y.2.a y.2.n y.2.c,.bool y.1.2.2.1,y.1.2.2.2]] w (Mm P w ag cap (T.1,T.2++ [y.1])):=by
 apply (Kt.vc (aK:=s1) (aL:=s2) (aH:=s3) (aw:=y.2));intro w0 e0 w1 e1 w2 e2;have x2:Ext w w2:=((bq e0).ay e1).ay e2;have z0:=du e0;have z1:w1.heap.size=w.heap.size+2:=by rw [e1];simp [z0]
 have z2:w2.heap.size=w.heap.size+3:=by rw [e2];simp [z1]
 obtain ⟨its,kM,hm⟩:=h.l;have hn:=kM.n;have hTl:T.2.length=its.length:=by rw [<-hm,aB]
 have hits2:=kM.ext x2;have h0:ak w2 XG 5 w2 ⟨none,0,0⟩ []:=ak.nil;have ha:=h0.ke (bytes:=56) (more:=its.map cw) (ax _) (λr hr=>by obtain ⟨y,-,rfl⟩:=aR.1 hr;rfl) (λr hr=>by obtain ⟨y,-,rfl⟩:=aR.1 hr;exact Hx y) (by simp only [aB];omega) (by simp only [aB];omega);rw [aB,<-hn] at ha;obtain ⟨hp,aS⟩:=ha;refine ⟨(its.map cw).flatten,RdK.flat hits2.r aE,hp,λs4 w5 Yk=> ?_⟩;obtain ⟨uB,hn5,x5,-,-⟩:=aS s4 w5 Yk;have x5:Ext w2 w5:=x5;have z5:=x5.size;have hn4:s4.n=its.length:=by have:=(ak.rd uB aE).n;simpa using this
 refine ⟨x5.heap aa,x5.heap aa,x5.heap aa,λw6 e6=> ?_⟩;subst e6;obtain ⟨Pv,hres8⟩:=uB.kD (bytes:=56) (news:=cw y) (.cells #[y.1.1.1,y.1.1.2,.slice y.2.a y.2.n y.2.c,.bool y.1.2.2.1,y.1.2.2.2] 110) z5 rfl (Hx y) aa aa;refine ⟨Pv,λs7 w8 hr8=> ?_⟩;obtain ⟨f8,wO,hn8,x8,-,-⟩:=hres8 s7 w8 hr8;have xa:=Ext.al w5 (.cells #[y.1.1.1,y.1.1.2,.slice y.2.a y.2.n y.2.c,.bool y.1.2.2.1,y.1.2.2.2] 110);have x8w:Ext w w8:=Below.trans x2 (Below.trans (Below.mono x5 x2.size) (Below.mono x8 x2.size));have kp:∀j,j<w2.heap.size->w8.heap[j]? =(w5.alloc (.cells #[y.1.1.1,y.1.1.2,.slice y.2.a y.2.n y.2.c,.bool y.1.2.2.1,y.1.2.2.2] 110)).heap[j]? :=λj hj=>by rw [x8.block j hj,xa.heap aa]
 refine ⟨kp _ aa,kp _ aa,kp _ aa,f8,λw9 e9 bL A4=> ?_⟩;have br:=(x8w.ab e9 (ax _)).ab A4 aa;have Lz:ak w2 XG 5 bL s7 ((its++ [y]).map cw):=by
  refine ak.bP (rows:=(its++ [y]).map cw) (by rw [aT];simpa using wO) λj hj=> ?_
  have hjB:=(wO.own.lt hj).1;rw [A4,setRow_other _ _ _ _ aa,e9,setRow_other _ _ _ _ aa]
 refine ⟨s1,s2,s7,rfl,⟨h.d.ext br,its++ [y],BT.own Lz (λz hz=> ?_) (λi hi=>hP i aa),by rw [aT,hm];rfl⟩,br⟩;rcases ct.1 hz with hz|hz
 ·exact (kM.y z hz).ext br
 ·simp only [fH] at hz;subst hz;exact hy.ext br
def j3(h:RT P w T s1 s2 s3)(hP:Fw P w)(hl:T.2.length<=1000000){i:Nat}(hi:i<T.2.length):
  ah 78 #[zN ag cap T.1 s1 s2 s3,.int .i64 (i:Int)] w (Mm P w ag cap (T.1,T.2.eraseIdx i)):=by
 apply (BI.vc (aK:=s1) (aL:=s2) (aH:=s3));intro w0 e0 w1 e1;have x1:Ext w w1:=(bq e0).ay e1;have z0:=du e0;have z1:w1.heap.size=w.heap.size+2:=by rw [e1];simp [z0]
 obtain ⟨its,kM,hm⟩:=h.l;have hn:=kM.n;have hTl:T.2.length=its.length:=by rw [<-hm,aB]
 have hits1:=kM.ext x1;have Yl:=kM.c;have wi:=lD (j:=i);rw [wi];have wdc:∀{l:List Ci},∀r ∈ l.map cw,r.length=5:=λr hr=>by obtain ⟨y,-,rfl⟩:=aR.1 hr;rfl
 have onc:∀{l:List Ci},∀r ∈ l.map cw,One r:=λr hr=>by obtain ⟨y,-,rfl⟩:=aR.1 hr;exact Hx y
 have c1:=RdK.cut (c':=s3.c) (c'':=s3.c) hits1.r (m:=i) (by rw [aB];omega);rw [<-List.map_take] at c1;have h0:ak w1 XG 5 w1 ⟨none,0,0⟩ []:=ak.nil;have ha:=h0.ke (bytes:=56) (more:=(its.take i).map cw) (ax _) wdc onc (by simp only [aB,bG];omega) (by simp only [aB,bG];omega);rw [aB,bG,Nat.min_eq_left aa] at ha;obtain ⟨hp,aS⟩:=ha;refine ⟨by omega,by omega,((its.take i).map cw).flatten,RdK.flat c1 aE,hp,λIK w4 hr4=> ?_⟩;obtain ⟨Vi,hn4,x4,-,-⟩:=aS IK w4 hr4;have x4:Ext w1 w4:=x4;have z4:=x4.size;have Xc:IK.n=i:=by have:=(ak.rd Vi aE).n;simp at this;omega
 have c2:=RdK.rest (hits1.r.ext x4) (l:=i+1) (m:=s3.c) (n':=its.length-(i+1)) (c':=s3.c) (by rw [aB]) (by rw [aB];omega);rw [<-List.map_drop] at c2;have hb:=Vi.ke (bytes:=56) (more:=(its.drop (i+1)).map cw) z4 wdc onc (by simp only [aB,iw];omega) (by simp only [aB,iw];omega);rw [aB,iw] at hb;obtain ⟨hp7,hres7⟩:=hb;have en:s3.n-(((i+1:Nat):Int)).toNat=its.length-(i+1):=by omega
 rw [en];refine ⟨x4.heap aa,x4.heap aa,by omega,by omega,((its.drop (i+1)).map cw).flatten,RdK.flat c2 aE,hp7,λs6 w7 hr7=> ?_⟩;obtain ⟨UY,hn7,x7,-,-⟩:=hres7 s6 w7 hr7;have x7w:Ext w w7:=Below.trans x1 (Below.trans (Below.mono x4 x1.size) (Below.mono x7 x1.size));refine ⟨x7.block _ aa,x7.block _ aa,λw8 e8 w9 e9=> ?_⟩;have x9:=(x7w.ab e8 (ax _)).ab e9 aa;have Pr:ak w1 XG 5 w9 s6 ((its.eraseIdx i).map cw):=by
  refine ak.bP (rows:=(its.eraseIdx i).map cw) (by rw [sS,aT];simpa using UY) λj hj=> ?_
  have hjB:=(UY.own.lt hj).1;rw [e9,setRow_other _ _ _ _ aa,e8,setRow_other _ _ _ _ aa]
 refine ⟨s1,s2,s6,rfl,⟨h.d.ext x9,its.eraseIdx i,BT.own Pr (λz hz=>(kM.y z ((oC ..).subset hz)).ext x9) (λi hi=>hP i aa),by rw [<-hm,sS,sS,aT,List.map_take,List.map_drop]⟩,x9⟩
def KO(h:RT P w T s1 s2 s3)(hP:Fw P w)(hl:T.2.length<=1000000){i:Nat}(hi:i<T.2.length)(y:Ci)(hy:RR P w y.2 (cK y.1.2.1)):
  ah 124 #[zN ag cap T.1 s1 s2 s3,.int .i64 (i:Int),.agg #[y.1.1.1,y.1.1.2,.slice y.2.a y.2.n y.2.c,.bool y.1.2.2.1,y.1.2.2.2]] w (Mm P w ag cap (T.1,T.2.set i y.1)):=by
 apply (Kv.vc (aK:=s1) (aL:=s2) (aH:=s3) (dU:=y.2));intro w0 e0 w1 e1 w2 e2;have x2:Ext w w2:=((bq e0).ay e1).ay e2;have z0:=du e0;have z1:w1.heap.size=w.heap.size+2:=by rw [e1];simp [z0]
 have z2:w2.heap.size=w.heap.size+3:=by rw [e2];simp [z1]
 obtain ⟨its,kM,hm⟩:=h.l;have hn:=kM.n;have hTl:T.2.length=its.length:=by rw [<-hm,aB]
 have hits2:=kM.ext x2;have h0:ak w2 XG 5 w2 ⟨none,0,0⟩ []:=ak.nil;have ha:=h0.ke (bytes:=56) (more:=its.map cw) (ax _) (λr hr=>by obtain ⟨y,-,rfl⟩:=aR.1 hr;rfl) (λr hr=>by obtain ⟨y,-,rfl⟩:=aR.1 hr;exact Hx y) (by simp only [aB];omega) (by simp only [aB];omega);rw [aB,<-hn] at ha;obtain ⟨hp,aS⟩:=ha;refine ⟨(its.map cw).flatten,RdK.flat hits2.r aE,hp,λs4 w5 Yk=> ?_⟩;obtain ⟨uB,hn5,x5,-,-⟩:=aS s4 w5 Yk;have x5:Ext w2 w5:=x5;have z5:=x5.size;have uB:ak w2 XG 5 w5 s4 (its.map cw):=by simpa using uB
 have hn4:s4.n=its.length:=by have:=(ak.rd uB aE).n;simpa using this
 obtain ⟨p1,p2,p3,p4,-⟩:=uB.put (i:=i) (r:=cw y) (by rw [aB];omega) aE rfl (Hx y);have cV:=RdK.fN (ak.rd uB aE) aE (i:=(i:Int)) aa aa;have hpb:∀g,g<w2.heap.size->cQ (ae s4.a (((i:Nat):Int).toNat*5))≠some g:=λg hg e=>by
  have:s4.bg=some g:=by
   obtain ⟨a4,n4,c4⟩:=s4
   cases a4 with
   |none=>simp [dX] at p1
   |some a=>
    have e':(a.add (((i:Nat):Int).toNat*5)).block=g:=Option.some.inj e;show some a.block=some g;rw [<-e'];unfold Addr.add;split<;>rfl
  have:=(uB.own.lt this).1;omega
 refine ⟨x5.heap aa,x5.heap aa,x5.heap aa,cV,⟨p1,p2⟩,hpb _ aa,hpb _ aa,hpb _ aa,λw6 e6 w7 e7 w8 e8=> ?_⟩;have x6w:Ext w w6:=by rw [e6];exact Below.trans x2 (Below.trans (Below.mono x5 x2.size) (Below.mono p4 x2.size))
 have x8:=(x6w.ab e7 (ax _)).ab e8 aa;have wO:ak w2 XG 5 w8 s4 ((its.set i y).map cw):=by
  refine ak.bP (w:=w6) (rows:=(its.set i y).map cw) (by rw [mM,e6];exact p3) λj hj=> ?_
  have hjB:=(uB.own.lt hj).1;rw [e8,setRow_other _ _ _ _ aa,e7,setRow_other _ _ _ _ aa]
 refine ⟨s1,s2,s4,rfl,⟨h.d.ext x8,its.set i y,BT.own wO (λz hz=> ?_) (λi hi=>hP i aa),by rw [mM,hm]⟩,x8⟩;rcases CG hz with hz|rfl
 ·exact (kM.y z hz).ext x8
 ·exact hy.ext x8
end
end Go.Proofs.YtalpkjfpmdpbiaaGreatDoor
namespace Go.Proofs.YtalpkjfpmdpbiaaGreatDoor
open Go Go.Vc Go.RowKit Go.Proofs Go.dQ Go.bf Go.Code
def G5(T:Tb)(i:Nat)(e:En):Tb × Int:=(((dG T.1 e).1,T.2.set i (dG T.1 e).2.1),(dG T.1 e).2.2)
section
variable {P P':Nat->Prop} {w w' v v':World} {s s1 s2 s3:Sl} {T:Tb} {ag cap:Int}
def RC.at{l:List En}{i:Nat}{e:En}(h:RC P w s l)(hi:l[i]? =some e):∃y:Ci,y.1=e/\RR P w y.2 (cK e.2.1)/\cB s.a (i:Int) s.n/\(ae s.a (((i:Nat):Int).toNat*5)).isSome=true/\(∀j v,(cw y)[j]? =some v->ld w (ae (ae s.a (((i:Nat):Int).toNat*5)) j)=some v)/\av w (ae s.a (((i:Nat):Int).toNat*5)) 0 (cw y):=by obtain ⟨its,h1,hm⟩:=h;rw [<-hm,aX] at hi;obtain ⟨y,hy,e1⟩:=CI.1 hi;obtain ⟨a,b,c⟩:=h1.at hy;exact ⟨y,e1,by rw [<-e1];exact h1.y y (bc hy),a,b,c,h1.load hy⟩
set_option maxRecDepth 100000 in
def tu(h:RT P w T s1 s2 s3)(hP:Fw P w)(hd:iq T.1)(hf:N1 T.1 1000000)(hg:wg T.2)(hl:T.2.length<=1000000){i:Nat}{e:En}(hi:T.2[i]? =some e):
  ah 79 #[zN ag cap T.1 s1 s2 s3,.int .i64 (i:Int)] w (mE P w ag cap (G5 T i e)):=by
 apply (Ku.vc (aK:=s1) (aL:=s2) (aH:=s3));intro w0 e0 w1 e1;have x1:Ext w w1:=(bq e0).ay e1;have z0:=du e0;have z1:w1.heap.size=w.heap.size+2:=by rw [e1];simp [z0]
 have rt1:Row w1 w [ag,cap,T.1.room,T.1.dt,T.1.wait,s1,s2,s3] 30:=(by rw [e0];exact Row.new w [_,_,_,_,_,_,_,_] _:Row w0 w _ 30).ext (bq e1);have h1:=h.nN x1 (w.heap.size+3);obtain ⟨y,hy,IN,cV,mz,mH,M6⟩:=h1.l.at hi;obtain ⟨g1,g2⟩:=hg e (bc hi);have hli:=(bF.1 hi).1;subst hy;refine ⟨cV,y.1.1.1,y.1.1.2,y.2,y.1.2.2.1,y.1.2.2.2,M6,λw7 e7 w8 e8=> ?_⟩;have x8:Ext w1 w8:=(bq e7).ab e8 (ax _);have z8:w8.heap.size=w.heap.size+3:=by rw [e8,e7];simp [z1]
 have cn:=x1.tr x8
 cases hdy:y.1.2.2.1 with
 |false=>
  refine Br.mk (λ_=>λw9 e9=> ?_) (λq=>by cases q);have e1:G5 T i y.1=(T,0):=by
   unfold G5 dG;rw [if_neg (by rw [hdy];decide)];simp only;obtain ⟨q1,q2⟩:=bF.1 hi;have:T.2.set i y.1=T.2:=by have q3:=List.set_getElem_self q1;rw [q2] at q3;exact q3
   rw [this]
  rw [e1];have x9:=cn.ab e9 aa;exact ⟨s1,s2,s3,rfl,h.ext x9,x9⟩
 |true=>
  refine Br.mk (λq=>by cases q) (λ_=> ?_);obtain ⟨ok1,ok2,ok3,ok4⟩:=qq g1 g2;have hle:=Ta g1 g2;have aqT:=j1 y.1.2.1;refine (vB y.2 (cK y.1.2.1) w8 (IN.ext x8).r aa (CO g1 g2)).mono ?_;rintro e bL ⟨⟨eJ,rfl,ho⟩,br⟩;rw [if_pos ok1] at ho ⊢;have z10:=br.size;have vL:=cn.tr br;have e1:G5 T i y.1=(((ov T.1 (jQ y.1.1) (ku (cK y.1.2.1))).1,T.2.set i (y.1.1,y.1.2.1,decide ((ov T.1 (jQ y.1.1) (ku (cK y.1.2.1))).2≠0),y.1.2.2.2)),(ov T.1 (jQ y.1.1) (ku (cK y.1.2.1))).2):=by unfold G5 dG;rw [if_pos hdy]
  rw [e1];have svg:∀(g:Nat) {v:World},Ext bL v->(g=w.heap.size\/bL.heap.size<=g)->g<v.heap.size->ah 123 #[dv T.1 s1 s2,(jQ y.1.1),eJ] v (G0 (λi=>Bx P w (w.heap.size+3) i/\i≠g) v (ov T.1 (jQ y.1.1) (ku (cK y.1.2.1)))):=by
   intro g v xv hg hgv;have hRD:wo (λi=>Bx P w (w.heap.size+3) i/\i≠g) v T.1 s1 s2:=h.d.same λi hp hi=>⟨(vL.tr xv).heap hi,⟨hp,.inl hi⟩,by omega⟩
   have hRY:RY (λi=>Bx P w (w.heap.size+3) i/\i≠g) v eJ (ku (cK y.1.2.1)):=by
    refine RY.ext (w:=bL) ⟨iM.rk ho,?_,λ_ g' hg'=> ?_,ak.le ho⟩ xv
    ·exact Mc
    ·have:=ho.own.lt hg';exact ⟨⟨hP g' aa,.inr aa⟩,by omega⟩
   exact GZ hRD (λi hi=>⟨⟨hP i (by have:=xv.size;omega),.inr (by have:=xv.size;omega)⟩,by omega⟩) hd hf (jQ y.1.1) eJ _ hRY aa
  generalize ov T.1 (jQ y.1.1) (ku (cK y.1.2.1))=R at*;have leaf:∀{v v2 v3:World} {sa sb:Sl} {c0 c1:Array Value},Ext w v->w8.heap.size<=v.heap.size->Ext w1 v->wo (Bx P w (w.heap.size+3)) v R.1 sa sb->v2=v.setRow w c0->v3=v2.setRow w1 c1->
    ah 124 #[zN ag cap R.1 sa sb s3,.int .i64 (i:Int),.agg #[y.1.1.1,y.1.1.2,.slice y.2.a y.2.n y.2.c,.bool (R.2 !=0),y.1.2.2.2]] v3 λe g7=>∃sa' sb' sc':Sl,e=(zN ag cap R.1 sa' sb' sc')/\Ext v3 g7/\∀wP c,wP=g7.setRow w0 c->mE P w ag cap ((R.1,T.2.set i (y.1.1,y.1.2.1,decide (R.2≠0),y.1.2.2.2)),R.2) (.returned (.tuple #[zN ag cap R.1 sa' sb' sc',R.2])) wP:=by
   intro v v2 v3 sa sb c0 c1 xv zv xv1 hR e2 e3;have x3:=(xv.ab e2 (ax _)).ab e3 aa;have z3:v3.heap.size=v.heap.size:=by rw [e3,e2];simp
   have hC3:RC (Bx P w (w.heap.size+3)) v3 s3 T.2:=(h.nN x3 (w.heap.size+3)).l;have P3:wo (Bx P w (w.heap.size+3)) v3 R.1 sa sb:=hR.same λi hp _=>⟨by rw [e3,setRow_other _ _ _ _ (by have:=hp.2;omega),e2,setRow_other _ _ _ _ (by have:=hp.2;omega)],hp⟩
   have hT3:RT (Bx P w (w.heap.size+3)) v3 (R.1,T.2) sa sb s3:=⟨P3,hC3⟩;have wR:Ext w1 v->RR (Bx P w (w.heap.size+3)) v3 y.2 (cK y.1.2.1):=λq=>(IN.ext q).same λi hp _=>⟨by rw [e3,setRow_other _ _ _ _ (by have:=hp.2;omega),e2,setRow_other _ _ _ _ (by have:=hp.2;omega)],hp⟩
   refine (KO (ag:=ag) (cap:=cap) hT3 (hP.bx x3 aa) hl (i:=i) hli ((y.1.1,y.1.2.1,(R.2 !=0),y.1.2.2.2),y.2) (wR xv1)).mono ?_;rintro e g7 ⟨sa',sb',sc',rfl,h26,dV⟩;have uf:decide (R.2≠0)=(R.2 !=0):=by by_cases q:R.2=0<;>simp [q]
   rw [uf];refine ⟨sa',sb',sc',rfl,dV,λwP c e35=> ?_⟩;exact ⟨sa',sb',sc',rfl,(h26.box e35 ⟨by omega,by omega⟩).out,(x3.tr dV).ab e35 aa⟩
  have I5:∀{g:Nat} {v:World} {D:Dk} {sa sb:Sl},wo (λi=>Bx P w (w.heap.size+3) i/\i≠g) v D sa sb->∀{v':World} {c:Array Value},v'=v.setRow g c->wo (Bx P w (w.heap.size+3)) v' D sa sb:=by intro g v D sa sb hR v' c e;exact hR.same λi hp _=>⟨by rw [e,setRow_other _ _ _ _ hp.2],hp.1⟩
  have afb:=Ext.dr bL;have aqX:=lW bL;refine ⟨eJ,_,rfl,br.heap aa,br.heap aa,br.heap aa,(tz y.1.1 _).mono ?_,λU4 e57=>(tz y.1.1 _).mono ?_⟩
  ·rintro e cA ⟨rfl,cD⟩;have z13:=cD.size;have Bh:=afb.tr cD;refine ⟨_,rfl,cD.heap aa,cD.heap aa,cD.heap aa,(rt1.ext (x8.tr (br.tr Bh))).bk (λj hj=> ?_),(svg w Bh (.inl rfl) aa).mono ?_,λnv IH=>(svg cA (v:=nv) (Bh.ay IH) (.inr aa) (by rw [IH];simp)).mono ?_⟩
   ·match j,hj with
    |0,_=>rfl
    |1,_=>rfl
    |2,_=>rfl
    |3,_=>rfl
    |4,_=>rfl
    |n+5,hj=>simp at hj;omega
   ·rintro e cS ⟨sa,sb,rfl,WN,bA⟩;have z15:=bA.size;refine ⟨_,_,_,sa,sb,_,rfl,bA.heap aa,bA.heap aa,bA.heap aa,λcx A3 gi Jk fu Qj eg WG=> ?_⟩;have de:Ext cS gi:=(bq A3).ab Jk (ax _);have z23:=kC A3 Jk;have h23:wo (Bx P w (w.heap.size+3)) gi R.1 sa sb:=(WN.ext de).same λi hp _=>⟨rfl,hp.1⟩
    have z25:eg.heap.size=gi.heap.size:=by rw [WG,Qj];simp
    refine (leaf (vL.tr (Bh.tr (bA.tr de))) aa (x8.tr (br.tr (Bh.tr (bA.tr de)))) h23 Qj WG).mono ?_;rintro e g7 ⟨sa',sb',sc',rfl,dV,fin⟩;exact ⟨_,_,_,_,_,sa',sb',sc',rfl,dV.heap aa,dV.heap aa,dV.heap aa,dV.heap aa,λwP e35=>fin wP _ e35⟩
   ·rintro e jj ⟨sa,sb,rfl,h37,gd⟩;have z36:=du IH;have afc:=bq IH;have z37:=gd.size;refine ⟨_,_,_,sa,sb,_,rfl,gd.heap aa,gd.heap aa,gd.heap aa,gd.heap aa,λjz PF Dr e45 Dn UZ=> ?_⟩;have jF:Ext cA jz:=(afc.tr gd).ab PF (ax _);have z44:=mL PF;have h44:=I5 h37 PF;have z46:Dn.heap.size=jz.heap.size:=by rw [UZ,e45];simp
    refine (leaf (vL.tr (Bh.tr jF)) aa (x8.tr (br.tr (Bh.tr jF))) h44 e45 UZ).mono ?_;rintro e oO ⟨sa',sb',sc',rfl,ma,fin⟩;exact ⟨_,_,_,_,_,sa',sb',sc',rfl,ma.heap aa,ma.heap aa,ma.heap aa,ma.heap aa,λMX e56=>fin MX _ e56⟩
  ·rintro e A8 ⟨rfl,oP⟩;have z57:=du e57;have afd:Ext bL U4:=afb.ay e57;have z58:=oP.size;have UB:=afd.tr oP;refine ⟨_,rfl,oP.heap aa,oP.heap aa,oP.heap aa,oP.heap aa,(rt1.ext (x8.tr (br.tr UB))).bk (λj hj=> ?_),(svg bL.drew.heap.size UB (.inr aa) aa).mono ?_⟩
   ·match j,hj with
    |0,_=>rfl
    |1,_=>rfl
    |2,_=>rfl
    |3,_=>rfl
    |4,_=>rfl
    |n+5,hj=>simp at hj;omega
   ·rintro e Bo ⟨sa,sb,rfl,h60,A6⟩;have z60:=A6.size;refine ⟨_,_,_,sa,sb,_,rfl,A6.heap aa,A6.heap aa,A6.heap aa,A6.heap aa,λum Qp Jh Vk lA e69=> ?_⟩;have wN:Ext bL um:=(UB.tr A6).ab Qp aa;have z67:=mL Qp;have Ju:=I5 h60 Qp;have z69:lA.heap.size=um.heap.size:=by rw [e69,Vk];simp
    refine (leaf (vL.tr wN) aa (x8.tr (br.tr wN)) Ju Vk e69).mono ?_;rintro e vI ⟨sa',sb',sc',rfl,jB,fin⟩;exact ⟨_,_,_,_,_,sa',sb',sc',rfl,jB.heap aa,jB.heap aa,jB.heap aa,jB.heap aa,λw79 e79=>fin w79 _ e79⟩
end
end Go.Proofs.YtalpkjfpmdpbiaaGreatDoor
namespace Go.Proofs.YtalpkjfpmdpbiaaGreatDoor
open Go Go.Vc Go.RowKit Go.Proofs Go.dQ Go.bf Go.Code
section
variable {P P':Nat->Prop} {w w' v v':World} {s s1 s2 s3:Sl} {T:Tb} {ag cap:Int}
structure qS(T:Tb):Prop where
 d:iq T.1
 f:N1 T.1 1000000
 g:wg T.2
 l:T.2.length<=1000000
def G4(ag limit room:Int)(w:World):ah 68 #[ag,limit,room] w (Mm P w ag (min (max limit 1) 16) (jN room,[])):=by
 apply N7.vc;intro w0 e0;have x0:=bq e0;have z0:=du e0;refine (Kr (P:=P) room w0).mono ?_;rintro e w1 ⟨rfl,h1,x1⟩;have ec:(if 16<(if 1>limit then 1 else limit) then 16 else (if 1>limit then 1 else limit))=min (max limit 1) 16:=by split<;>split<;>omega
 refine ⟨_,_,_,⟨none,0,0⟩,⟨none,0,0⟩,rfl,x1.heap aa,λw7 e7=> ?_⟩;have x7:=(x0.tr x1).ab e7 (ax _);rw [ec];exact ⟨⟨none,0,0⟩,⟨none,0,0⟩,⟨none,0,0⟩,rfl,⟨⟨RW.nil,RW.nil⟩,RC.nil⟩,x7⟩
def Rq{T:Tb}{k:Nat}{e:En}(hk:T.2[k]? =some e):JU T.1 T.2 k=if (G5 T k e).2=0 then (((G5 T k e).1.1,(G5 T k e).1.2.eraseIdx k),0) else G5 T k e:=by rw [zG hk];show _=if (dG T.1 e).2.2=0 then (((dG T.1 e).1,(T.2.set k (dG T.1 e).2.1).eraseIdx k),0) else _;rw [List.eraseIdx_set_eq];rfl
def zM(h:RT P w T s1 s2 s3)(hP:Fw P w)(ho:qS T)(p:Po):
  ah 64 #[zN ag cap T.1 s1 s2 s3,pv p] w (mE P w ag cap (fI T.1 T.2 p)):=by
 apply (D9.vc (aK:=s1) (aL:=s2) (aH:=s3));intro w0 e0 w1 e1 w2 e2;have x2:Ext w w2:=((bq e0).ay e1).ay e2;have z0:=du e0;have z1:w1.heap.size=w.heap.size+2:=by rw [e1];simp [z0]
 have z2:w2.heap.size=w.heap.size+3:=by rw [e2];simp [z1]
 refine (fK (ag:=ag) (cap:=cap) (h.ext x2) ho.l p).mono ?_;rintro e w3 ⟨rfl,x3⟩;have z3:=x3.size;have de:=x2.tr x3;refine ⟨_,rfl,x3.heap aa,x3.heap aa,x3.heap aa,?_⟩;rcases cc (λe:En=>e.1==p) T.2 with ⟨hf,my⟩|⟨k,e,hk,he,hf,-⟩
 ·rw [hf];refine Br.mk (λ_=>λw5 e5=> ?_) (λq=>by simp at q);have e1:fI T.1 T.2 p=((T.1,T.2),6):=by unfold fI;rw [hf,if_neg aE]
  have x5:=de.ab e5 aa;rw [e1];exact ⟨s1,s2,s3,rfl,h.ext x5,x5⟩
 ·rw [hf];have q9:=(bF.1 hk).1;have e1:fI T.1 T.2 p=if 0<e.2.2.2 then ((T.1,T.2),10) else JU T.1 T.2 k:=by unfold fI;rw [hf,if_pos aa,ju,hk];rfl
  have h3:=h.nN de (w.heap.size+3);obtain ⟨y,hy,-,cV,mz,mH,-⟩:=h3.l.at hk;subst hy;refine Br.mk (λq=>by simp at q;omega) (λ_=>⟨cV,Bj mz ⟨y.1.2.2.2,mH 4 _ rfl,Br.mk (λq=>λw7 e7=> ?_) (λq=> ?_)⟩⟩)
  ·have x7:=de.ab e7 aa;rw [e1,if_pos (by simpa using q)];exact ⟨s1,s2,s3,rfl,h.ext x7,x7⟩
  ·rw [e1,if_neg (by simpa using q),Rq hk];refine (tu h3 (hP.bx de aa) ho.d ho.f ho.g ho.l hk).mono ?_;rintro e' w8 ⟨sa,sb,sc,rfl,h8,x8⟩;have z8:=x8.size;have kI:(G5 T k y.1).1.2.length=T.2.length:=by unfold G5;simp
   generalize G5 T k y.1=R at*;refine ⟨_,_,_,_,_,sa,sb,sc,_,rfl,x8.heap aa,x8.heap aa,x8.heap aa,λdJ Jg fD yh=> ?_⟩;have cN:Ext w8 fD:=(bq Jg).ab yh (ax _);have z19:=kC Jg yh;have aav:=de.tr (x8.tr cN);refine Br.mk (λq2=>λeC Bs=> ?_) (λq2=> ?_)
   ·rw [if_neg (by simpa using q2)];exact ⟨sa,sb,sc,rfl,((h8.ext cN).box Bs ⟨by omega,by omega⟩).out,aav.ab Bs aa⟩
   ·have q2:=kB q2;rw [if_pos q2];refine (j3 (ag:=ag) (cap:=cap) (h8.ext cN) (hP.bx aav aa) (by have:=ho.l;omega) (i:=k) aa).mono ?_;rintro e' ea ⟨sa',sb',sc',rfl,h21,fW⟩;have z21:=fW.size;refine ⟨_,_,_,_,_,sa',sb',sc',rfl,fW.heap aa,fW.heap aa,fW.heap aa,fW.heap aa,λg8 e30=> ?_⟩;exact ⟨sa',sb',sc',rfl,(h21.box e30 ⟨by omega,by omega⟩).out,(aav.tr fW).ab e30 aa⟩
def zC(h:RT P w T s1 s2 s3)(ho:qS T)(c:Ce)(hc:mA c):
  ah 22 #[zN ag cap T.1 s1 s2 s3,iS c] w λe w'=>e=Value.int .i64 (ey T.2 c)/\Ext w w':=by
 apply (Rr.vc (aK:=s1) (aL:=s2) (aH:=s3));intro w0 e0 w1 e1;have x1:Ext w w1:=(bq e0).ay e1;have z0:=du e0;have z1:w1.heap.size=w.heap.size+2:=by rw [e1];simp [z0]
 have rt1:Row w1 w [ag,cap,T.1.room,T.1.dt,T.1.wait,s1,s2,s3] 30:=(by rw [e0];exact Row.new w [_,_,_,_,_,_,_,_] _:Row w0 w _ 30).ext (bq e1);have xd:=Ext.dr w1;have zd:=lW w1;refine (kY c hc w1.drew).mono ?_;rintro e w2 ⟨rfl,x2⟩;have z2:=x2.size;have Dl:=x1.tr (xd.tr x2);have rt2:=rt1.ext (xd.tr x2);refine ⟨_,_,rfl,x2.heap aa,x2.heap aa,rt2.bk (λj hj=>by rw [cO]),(fK (ag:=ag) (cap:=cap) (h.ext Dl) ho.l (pos c)).mono ?_⟩;rintro e w5 ⟨rfl,x5⟩;have z5:=x5.size;have x05:=Dl.tr x5;refine ⟨_,rfl,x5.heap aa,x5.heap aa,?_⟩;rcases cc (λe:En=>e.1==pos c) T.2 with ⟨hf,my⟩|⟨k,e,hk,he,hf,-⟩
 ·have e1:ey T.2 c= -1:=by unfold ey;rw [hf,if_pos aE]
  rw [hf,e1];exact Br.mk (λ_=>⟨rfl,x05⟩) (λq=>by simp at q)
 ·have e1:ey T.2 c=if c.2.1<0 then 1 else rG e.1 e.2.1 c:=by unfold ey;rw [hf,if_neg aa,ju,hk];rfl
  rw [hf,e1];refine Br.mk (λq=>by simp at q;omega) (λ_=>Br.mk (λq=> ?_) (λq=> ?_))
  ·rw [if_pos (by simpa using q)];exact ⟨rfl,x05⟩
  ·have q:¬c.2.1<0:=by simpa using q
   rw [if_neg q];have hpe:e.1=pos c:=by simpa using he
   apply Br.mk<;>intro q2
   ·have q2:c.2.1>31:=by simpa using q2
    have:pC e.1 c=false:=by
     cases hq:pC e.1 c with
     |false=>rfl
     |true=>have:=((eN _ _).1 hq).1;unfold kX at this;omega
    have e2:rG e.1 e.2.1 c=0:=by unfold rG;rw [this];rfl
    rw [e2];exact ⟨rfl,x05⟩
   ·have q2:¬c.2.1>31:=by simpa using q2
    have hK:pC e.1 c=true:=(eN _ _).2 ⟨by unfold kX;omega,hpe.symm⟩;have xd5:=Ext.dr w5;obtain ⟨y,hy,IN,cV,mz,mH,-⟩:=(h.ext (x05.tr xd5)).l.at hk;subst hy;refine ⟨cV,Bj mz ⟨y.1.1.1,y.1.1.2,y.2,gC λj v hj=> ?_,(GN (p:=y.1.1) IN.r (ho.g _ (bc hk)).1 c hc).mono ?_⟩⟩
    ·rw [cO,bZ];refine mH j v ?_
     match j,hj with
     |0,hj=>exact hj
     |1,hj=>exact hj
     |2,hj=>exact hj
    ·rintro e' bL ⟨rfl,br⟩;have zd5:=lW w5;have e2:NU y.1.1 y.1.2.1 c=rG y.1.1 y.1.2.1 c:=by unfold NU rG;rw [hK];rfl
     rw [e2];exact ⟨_,rfl,br.heap aa,br.heap aa,((rt2.ext x5).ext (xd5.tr br)).bk (λj hj=>by simp at hj;subst hj;rfl),rfl,x05.tr (xd5.tr br)⟩
end
end Go.Proofs.YtalpkjfpmdpbiaaGreatDoor
namespace Go.Proofs.YtalpkjfpmdpbiaaGreatDoor
open Go Go.Vc Go.RowKit Go.Proofs Go.dQ Go.bf Go.Code
def mD(d:Dk):Nat:=d.safe.length+d.l.length
def Eh{d:Dk}{n:Nat}(h:mD d<=n):N1 d n:=by unfold mD at h;exact ⟨by omega,by omega⟩
def Tp(D:Dk)(k:Int)(b:List Int):mD (fT D k b).1<=mD D+1:=by have h1:=FZ D k b;have h2:=GY D k b;unfold mD;rw [h2];omega
def Wb(D:Dk):mD (iT D).1<=mD D:=by
 obtain ⟨a1,a2,-⟩:=fB D;unfold iT mD;split
 ·simp only [a1,a2];omega
 ·have:=kj D.l D.safe;show (fV D).length+([]:List kQ).length<=_;unfold fV;simp only [MF];omega
def Wc(D:Dk)(id:Int)(b:List Int):mD (ov D id b).1<=mD D+1:=by
 unfold ov;split
 ·split
  ·simp only;omega
  ·split
   ·exact Tp _ _ _
   ·exact fy (Wb _) (Tp _ _ _)
 ·simp only;omega
def Ig(D:Dk)(e:En):mD (dG D e).1<=mD D+1:=by
 unfold dG;split
 ·exact Wc _ _ _
 ·simp only;omega
def Lp{D:Dk}(h:iq D)(e:En):iq (dG D e).1:=by
 unfold dG;split
 ·exact h.save _ _
 ·exact h
def AD(D:Dk)(e:En):(dG D e).2.1.1=e.1/\(dG D e).2.1.2.1=e.2.1/\(dG D e).2.1.2.2.2=e.2.2.2:=by unfold dG;split<;>exact ⟨rfl,rfl,rfl⟩
section
variable {P P':Nat->Prop} {w w' v v':World} {s s1 s2 s3:Sl} {T:Tb} {ag cap:Int}
def Lb{p:Po}{C:List Int}(hs:RR P w s (cK C))(hP:Fw P w)(hl:C.length=8192)(c:Ce)(hc:mA c)(b:Int):
  ah 147 #[kv p s,iS c,.int .i64 b] w λe w'=>(∃s',e=Value.tuple #[kv p s',.int .i64 (fG p C c b).2]/\RR P w' s' (cK (fG p C c b).1))/\Ext w w':=by
 apply NM.vc;intro w0 e0 w1 e1 w2 e2;have z0:=du e0;have z1:w1.heap.size=w.heap.size+2:=by rw [e1];simp [z0]
 have z2:w2.heap.size=w.heap.size+3:=by rw [e2];simp [z1]
 have x2:Ext w w2:=((bq e0).ay e1).ay e2;refine (wh p s c hc w2).mono ?_;rintro e w3 ⟨rfl,x3⟩;have z3:=x3.size;have r6:=x2.tr x3;refine ⟨_,rfl,x3.heap aa,x3.heap aa,x3.heap aa,?_⟩
 cases hk:pC p c with
 |false=>
  have e:fG p C c b=(C,5):=by unfold fG;rw [if_pos hk]
  rw [e];refine Br.mk (λ_=>λw5 e5=> ?_) (λh=>by simp at h);have x5:=r6.ab e5 aa;exact ⟨⟨s,rfl,hs.ext x5⟩,x5⟩
 |true=>
  have fM:=nP ((eN p c).1 hk).1;refine Br.mk (λh=>by simp at h;omega) (λ_=> ?_);refine (gE b w3).mono ?_;rintro e w6 ⟨rfl,e6⟩;have x6:Ext w3 w6:=by rw [e6];exact Ext.ck _
  have z6:=x6.size;refine ⟨_,rfl,x6.heap aa,x6.heap aa,x6.heap aa,Br.mk (λfi=> ?_) (λfi=> ?_)⟩
  ·have hf:aY b=false:=by simpa using fi
   have e:fG p C c b=(C,1):=by unfold fG;rw [if_neg (by simp [hk]),if_pos hf]
   rw [e];intro w8 e8;have x8:=(r6.tr x6).ab e8 aa;exact ⟨⟨s,rfl,hs.ext x8⟩,x8⟩
  ·have hm:aY b=true:=by simpa using fi
   have e:fG p C c b=(C.set (idx c).toNat b,0):=by unfold fG;rw [if_neg (by simp [hk]),if_neg (by simp [hm])]
   have h6:=hs.ext (r6.tr x6);rw [e];refine (zq s C (idx c) b w6 h6.r (by rw [hl];decide)).mono ?_;rintro e9 w9 ⟨cL,rfl,Pr,x9⟩;have hs:rB C (idx c) b=C.set (idx c).toNat b:=by unfold rB;rw [if_pos ⟨hm,fM.1,by rw [hl];omega⟩]
   rw [hs] at Pr;refine ⟨cL,rfl,x9.heap aa,x9.heap aa,x9.heap aa,λcH B2 bR Bv=> ?_⟩;have bT:=(((r6.tr x6).tr x9).ab B2 (ax _)).ab Bv aa;have P6:=λb (hb:cL.bg=some b)=>(Pr.own.lt hb).1
   refine ⟨⟨cL,rfl,RR.own (B:=w6.heap.size) (ak.bP Pr λb hb=> ?_) λi hi=>hP i aa⟩,bT⟩;have:=P6 b hb;rw [Bv,setRow_other _ _ _ _ aa,B2,setRow_other _ _ _ _ aa]
def pI(p:Po)(s:Sl)(b:List Int)(w:World)(hs:eU w s b)(hb:UL b)(hc:s.n<=s.c)(hl:b.length<=1099511627776):
  ah 81 #[pv p,s] w λe w'=>(∃(x y:Int)(sr:Sl),e=Value.tuple #[.agg #[x,y,sr],.int .i64 (cJ aY b 8192).2]/\((cJ aY b 8192).2=0->x=p.1/\y=p.2/\lS w w' sr (cJ aY b 8192).1))/\Ext w w':=by
 apply Kf.vc;intro w0 e0 w1 e1;have z0:=du e0;have z1:w1.heap.size=w.heap.size+2:=by rw [e1];simp [z0]
 have x1:Ext w w1:=(bq e0).ay e1;refine (xJ s b 8192 w1 (RdK.ext hs x1) hb hl hc aE (by unfold inI;omega)).mono ?_;rintro e w2 ⟨⟨s3,rfl,ho⟩,x2⟩;have z2:=x2.size;refine ⟨s3,_,rfl,x2.heap aa,x2.heap aa,Br.mk (λdI=>λw5 e5=> ?_) (λdI=>λw6 e6=> ?_)⟩
 ·have h0:=kB dI;exact ⟨⟨0,0,⟨none,0,0⟩,rfl,λh=>absurd h h0⟩,(x1.tr x2).ab e5 aa⟩
 ·have h0:=kB dI;refine ⟨⟨p.1,p.2,s3,by rw [h0],λ_=>⟨rfl,rfl,?_⟩⟩,(x1.tr x2).ab e6 aa⟩;refine ak.low (ak.bP ho λj hj=> ?_) (show w.heap.size<=w1 by omega);have:=(ho.own.lt hj).1;rw [e6];exact setRow_other _ _ _ _ aa
end
end Go.Proofs.YtalpkjfpmdpbiaaGreatDoor
namespace Go.Proofs.YtalpkjfpmdpbiaaGreatDoor
open Go Go.Vc Go.RowKit Go.Proofs Go.dQ Go.bf Go.Code
section
variable {P P':Nat->Prop} {w w' v v':World} {s s1 s2 s3:Sl} {T:Tb} {ag cap:Int}
set_option maxRecDepth 100000 in
def Gv(h:RT P w T s1 s2 s3)(hP:Fw P w)(ho:qS T)(c:Ce)(hc:mA c)(b:Int):
  Calls Tryz.prog 99 #[zN ag cap T.1 s1 s2 s3,iS c,.int .i64 b] w (mE P w ag cap ((T.1,(cj T.2 c b).1),(cj T.2 c b).2)):=by
 apply (N9.vc (aK:=s1) (aL:=s2) (aH:=s3));intro w0 e0 w1 e1 w2 e2;have x2:Ext w w2:=(((Ext.ck _).ay e0).ay e1).ay e2;have z0:=du e0;have z1:w1.heap.size=w.heap.size+2:=by rw [e1];simp [z0]
 have z2:w2.heap.size=w.heap.size+3:=by rw [e2];simp [z1]
 have rt2:Row w2 w.heap.size [.int .i64 ag,.int .i64 cap,.int .i64 T.1.room,.int .i64 T.1.dt,.int .i64 T.1.wait,.slice s1.a s1.n s1.c,.slice s2.a s2.n s2.c,.slice s3.a s3.n s3.c] 30:=(by rw [e0];exact Row.new w [_,_,_,_,_,_,_,_] _:Row w0 w.heap.size _ 30).ext (((Ext.ck _).ay e1).ay e2);clear e0 e1 e2;have xd:=Ext.dr w2;have zd:w2.drew.heap.size=w2.heap.size:=rfl;refine (kY c hc w2.drew).mono ?_;rintro e w3 ⟨rfl,x3⟩;have z3:=x3.size;have r6:=x2.tr (xd.tr x3);refine ⟨_,_,rfl,x3.k,x3.k,x3.k,(rt2.ext (xd.tr x3)).bk (λj hj=>by rw [Nat.zero_add]),(fK (ag:=ag) (cap:=cap) (h.ext r6) ho.l (pos c)).mono ?_⟩;rintro e w6 ⟨rfl,x6⟩;have z6:=x6.size;have uF:=r6.tr x6;refine ⟨_,rfl,x6.k,x6.k,x6.k,(gE b w6).mono ?_⟩;rintro e w8 ⟨rfl,hw⟩;have x8:Ext w6 w8:=by rw [hw];exact Ext.ck _
 clear hw;have z8:=x8.size;have x08:=uF.tr x8;refine ⟨_,rfl,x8.k,x8.k,x8.k,?_⟩;have bad:∀{n:Int},cj T.2 c b=(T.2,n)->∀w5 c',w5=w8.setRow w1.heap.size c'->mE P w ag cap ((T.1,(cj T.2 c b).1),(cj T.2 c b).2) (.returned (.tuple #[zN ag cap T.1 s1 s2 s3,.int .i64 n])) w5:=by intro n e w5 c' e5;have x5:=x08.ab e5 (by omega);rw [e];exact ⟨s1,s2,s3,rfl,h.ext x5,x5⟩
 rcases cc (λe:En=>e.1==pos c) T.2 with ⟨hf,my⟩|⟨k,e,hk,he,hf,-⟩
 ·rw [hf];exact Br.mk (λ_=>λw5 e5=>bad (by unfold cj;rw [hf,if_pos (by decide)]) w5 _ e5) (λq=>by simp at q)
 rw [hf];have hpe:e.1=pos c:=by simpa using he
 have q9:=(List.getElem?_eq_some_iff.1 hk).1;refine Br.mk (λq=>by simp at q;omega) (λ_=>Br.mk (λq=>λw5 e5=>bad (by unfold cj;rw [hf,if_neg (by omega),if_pos (by unfold kX;simp at q;omega)]) w5 _ e5) (λq1=>Br.mk (λq=>λw5 e5=>bad (by unfold cj;rw [hf,if_neg (by omega),if_pos (by unfold kX;simp at q;omega)]) w5 _ e5) (λq2=> ?_)));have hy:kX c:=by unfold kX;simp at q1 q2;omega
 cases hb:aY b with
 |false=>exact Br.mk (λq=>λw5 e5=>bad (by unfold cj;rw [hf,if_neg (by omega),if_neg (by simpa using hy),if_pos hb]) w5 _ e5) (λq=>by simp at q)
 |true=>
 refine Br.mk (λq=>by simp at q) (λ_=> ?_);have hB:=h.nN x08 (w8.heap.size+1);obtain ⟨y,hy1,IN,cV,mz,mH,M6⟩:=hB.l.at hk;subst hy1;have LC:cj T.2 c b=(T.2.eraseIdx k++ [(y.1.1,(fG y.1.1 y.1.2.1 c b).1,y.1.2.2.1||(rG y.1.1 y.1.2.1 c !=b),y.1.2.2.2)],0):=by unfold cj;rw [hf,if_neg (by omega),if_neg (by simpa using hy),if_neg (by rw [hb];decide),Int.toNat_natCast,hk];rfl
 rw [LC];obtain ⟨g1,g2⟩:=ho.g _ (List.mem_of_getElem? hk);have hC:pC y.1.1 c=true:=(eN _ _).2 ⟨hy,hpe.symm⟩;have eAt:NU y.1.1 y.1.2.1 c=rG y.1.1 y.1.2.1 c:=by unfold NU rG;rw [hC];rfl
 refine ⟨cV,y.1.1.1,y.1.1.2,y.2,y.1.2.2.1,y.1.2.2.2,M6,λfD yh eC Bs=> ?_⟩;have dK:Ext w8 eC:=((Ext.ck _).ay yh).ab Bs (Nat.le_refl _);have z20:=kC yh Bs;have r20:Row eC w8.heap.size [.int .i64 y.1.1.1,.int .i64 y.1.1.2,.slice y.2.a y.2.n y.2.c,.bool y.1.2.2.1,.int .i64 y.1.2.2.2] 110:=by rw [Bs];exact Row.set (by rw [yh];exact Row.new w8 [_,_,_,_,_] _) _
 clear yh Bs;have aqj:=x08.tr dK;have fin:∀{v v0:World} {d:Bool} {c0:Array Value},Ext eC v0->v=v0.setRow w8.heap.size c0->d=(y.1.2.2.1||(rG y.1.1 y.1.2.1 c !=b))->c0= #[.int .i64 y.1.1.1,.int .i64 y.1.1.2,.slice y.2.a y.2.n y.2.c,.bool d,.int .i64 y.1.2.2.2]->
   Calls Tryz.prog 147 #[.agg #[.int .i64 y.1.1.1,.int .i64 y.1.1.2,.slice y.2.a y.2.n y.2.c],.agg #[.int .i64 c.1,.int .i64 c.2.1,.int .i64 c.2.2],.int .i64 b] v (λe cx=>∃(de:Int)(di:Int)(mb:Sl)(dV:Int),e=.returned (.tuple #[.agg #[.int .i64 de,.int .i64 di,.slice mb.a mb.n mb.c],.int .i64 dV])/\cx.heap[w.heap.size]? =v.heap[w.heap.size]?/\cx.heap[w0.heap.size]? =v.heap[w0.heap.size]?/\cx.heap[w1.heap.size]? =v.heap[w1.heap.size]?/\cx.heap[w8.heap.size]? =v.heap[w8.heap.size]?/\
   ∀jb:World,jb=cx.alloc (.cells #[.int .i64 0,.int .i64 0,.slice none 0 0] 108)->
   ∀eI:World,eI=jb.setRow cx.heap.size #[.int .i64 de,.int .i64 di,.slice mb.a mb.n mb.c]->
   ∀fJ:World,fJ=eI.setRow w8.heap.size #[.int .i64 de,.int .i64 di,.slice mb.a mb.n mb.c,.bool d,.int .i64 y.1.2.2.2]->
   Calls Tryz.prog 78 #[zN ag cap T.1 s1 s2 s3,.int .i64 (k:Int)] fJ.drew (λe g8=>∃(iK:Int)(jA:Int)(gn:Int)(fX:Int)(jy:Int)(o4:Sl)(E2:Sl)(vO:Sl),e=.returned (.agg #[.int .i64 iK,.int .i64 jA,.int .i64 gn,.int .i64 fX,.int .i64 jy,.slice o4.a o4.n o4.c,.slice E2.a E2.n E2.c,.slice vO.a vO.n vO.c])/\g8.heap[w.heap.size]? =fJ.drew.heap[w.heap.size]?/\g8.heap[w0.heap.size]? =fJ.drew.heap[w0.heap.size]?/\g8.heap[w1.heap.size]? =fJ.drew.heap[w1.heap.size]?/\g8.heap[w8.heap.size]? =fJ.drew.heap[w8.heap.size]?/\g8.heap[cx.heap.size]? =fJ.drew.heap[cx.heap.size]?/\
   av g8 (some ⟨w8.heap.size,0,none⟩) 0 [.int .i64 de,.int .i64 di,.slice mb.a mb.n mb.c,.bool d,.int .i64 y.1.2.2.2]/\Calls Tryz.prog 77 #[.agg #[.int .i64 iK,.int .i64 jA,.int .i64 gn,.int .i64 fX,.int .i64 jy,.slice o4.a o4.n o4.c,.slice E2.a E2.n E2.c,.slice vO.a vO.n vO.c],.agg #[.int .i64 de,.int .i64 di,.slice mb.a mb.n mb.c,.bool d,.int .i64 y.1.2.2.2]] g8 (λe iP=>∃(nz:Int)(kK:Int)(lU:Int)(ky:Int)(jF:Int)(AY:Sl)(LD:Sl)(uj:Sl),e=.returned (.agg #[.int .i64 nz,.int .i64 kK,.int .i64 lU,.int .i64 ky,.int .i64 jF,.slice AY.a AY.n AY.c,.slice LD.a LD.n LD.c,.slice uj.a uj.n uj.c])/\iP.heap[w.heap.size]? =g8.heap[w.heap.size]?/\iP.heap[w0.heap.size]? =g8.heap[w0.heap.size]?/\iP.heap[w1.heap.size]? =g8.heap[w1.heap.size]?/\iP.heap[w8.heap.size]? =g8.heap[w8.heap.size]?/\iP.heap[cx.heap.size]? =g8.heap[cx.heap.size]?/\
   ∀uh:World,uh=iP.setRow w1.heap.size #[.int .i64 nz,.int .i64 kK,.int .i64 lU,.int .i64 ky,.int .i64 jF,.slice AY.a AY.n AY.c,.slice LD.a LD.n LD.c,.slice uj.a uj.n uj.c]->
   mE P w ag cap ((T.1,T.2.eraseIdx k++ [(y.1.1,(fG y.1.1 y.1.2.1 c b).1,y.1.2.2.1||(rG y.1.1 y.1.2.1 c !=b),y.1.2.2.2)]),0) (.returned (.tuple #[.agg #[.int .i64 nz,.int .i64 kK,.int .i64 lU,.int .i64 ky,.int .i64 jF,.slice AY.a AY.n AY.c,.slice LD.a LD.n LD.c,.slice uj.a uj.n uj.c],.int .i64 0])) uh))):=by
  intro v v0 d c0 Jv ev hd Ft;have rv:Row v w8.heap.size [.int .i64 y.1.1.1,.int .i64 y.1.1.2,.slice y.2.a y.2.n y.2.c,.bool d,.int .i64 y.1.2.2.2] 110:=by rw [ev,Ft];exact Row.set (r20.ext Jv) _
  have xv8:Ext w8 v:=(dK.tr Jv).ab ev (Nat.le_refl _);have zv0:=Jv.size;have zv:=mL ev;have xv:=x08.tr xv8;clear ev Ft;refine (Lb (P:=Bx P w.heap.size (w8.heap.size+1)) (p:=y.1.1) (IN.ext xv8) (hP.bx xv (by omega)) g1 c hc b).mono ?_;rintro e cx ⟨⟨mb,rfl,h25⟩,eY⟩;have z22:=eY.size;refine ⟨_,_,mb,_,rfl,eY.k,eY.k,eY.k,eY.k,λjb yf eI e28 fJ MQ=> ?_⟩;have eM:Ext cx eI:=((Ext.ck _).ay yf).ab e28 (Nat.le_refl _);have z28:=kC yf e28;clear yf e28;have r29:Row fJ w8.heap.size [.int .i64 y.1.1.1,.int .i64 y.1.1.2,.slice mb.a mb.n mb.c,.bool d,.int .i64 y.1.2.2.2] 110:=by rw [MQ];exact Row.set (rv.ext (eY.tr eM)) _
  have z29:=mL MQ;have abl:=(xv.tr (eY.tr eM)).ab MQ (by omega);have aj8:RR (Bx P w.heap.size (w8.heap.size+1)) fJ mb (cK (fG y.1.1 y.1.2.1 c b).1):=(h25.ext eM).same λi hp _=>⟨by rw [MQ,setRow_other _ _ _ _ (by have:=hp.2;omega)],hp⟩
  have aj9:=h.nN abl (w8.heap.size+1);clear MQ;have Un:=Ext.dr fJ;have aqn:fJ.drew.heap.size=fJ.heap.size:=rfl;refine (j3 (ag:=ag) (cap:=cap) (aj9.ext Un) (hP.bx (abl.tr Un) (by omega)) ho.l (i:=k) q9).mono ?_;rintro e g8 ⟨sa,sb,sc,rfl,h30,oL⟩;have z30:=oL.size;refine ⟨_,_,_,_,_,sa,sb,sc,rfl,oL.k,oL.k,oL.k,oL.k,oL.k,(r29.ext (Un.tr oL)).bk (λj hj=>by rw [Nat.zero_add]),?_⟩;have aeI:=abl.tr (Un.tr oL);have hel:(T.2.eraseIdx k).length<=1000000:=by rw [List.length_eraseIdx];split<;>(have:=ho.l;omega)
  refine (rI (ag:=ag) (cap:=cap) h30 (hP.bx aeI (by omega)) hel ((y.1.1,(fG y.1.1 y.1.2.1 c b).1,d,y.1.2.2.2),mb) ((aj8.ext Un).ext oL)).mono ?_;rintro e iP ⟨sa',sb',sc',rfl,h39,kq⟩;refine ⟨_,_,_,_,_,sa',sb',sc',rfl,kq.k,kq.k,kq.k,kq.k,kq.k,λuh e48=> ?_⟩;rw [<-hd];exact ⟨sa',sb',sc',rfl,(h39.box e48 ⟨by omega,by omega⟩).out,(aeI.tr kq).ab e48 (by omega)⟩
 refine Br.mk (λq=>λea uq=>fin (Ext.ck _) uq (by rw [q];rfl) rfl) (λq=>(GN (p:=y.1.1) (IN.ext dK).r g1 c hc).mono ?_);rintro e Bq ⟨rfl,jY⟩;rw [eAt];exact ⟨_,rfl,jY.k,jY.k,jY.k,jY.k,λw51 e51=>fin jY e51 (by rw [q];rfl) rfl⟩
end
end Go.Proofs.YtalpkjfpmdpbiaaGreatDoor
namespace Go.Proofs.YtalpkjfpmdpbiaaGreatDoor
open Go Go.Vc Go.RowKit Go.Proofs Go.dQ Go.bf Go.Code
section
variable {P P':Nat->Prop} {w w' v v':World} {s s1 s2 s3:Sl} {T:Tb} {ag cap:Int}
def KI{D:Dk}(h:iq D)(id:Int):(qh D id).1.length<=1048576:=by
 have h0:=yy h (2*id);have h1:=yy h (2*id+1);have r0:=Lf (getD D (2*id));have r1:=Lf (getD D (2*id+1));unfold qh;split
 ·rw [Ml];split
  ·split<;>simp only [MF]<;>omega
  ·split
   ·simp only;omega
   ·split<;>simp only<;>omega
 ·simp
set_option maxRecDepth 100000 in
def EP(h:RT P w T s1 s2 s3)(hP:Fw P w)(ho:qS T)(hm:mD T.1<=500000)(ue:inI cap)(p:Po):
  ah 39 #[zN ag cap T.1 s1 s2 s3,pv p] w (mE P w ag cap (oD ag cap T.1 T.2 p)):=by
 apply (zO.vc (aK:=s1) (aL:=s2) (aH:=s3));intro w0 e0 w1 e1 w2 e2;have x2:Ext w w2:=((bq e0).ay e1).ay e2;have z0:=du e0;have z1:w1.heap.size=w.heap.size+2:=by rw [e1];simp [z0]
 have z2:w2.heap.size=w.heap.size+3:=by rw [e2];simp [z1]
 refine (tz p w2).mono ?_;rintro e w3 ⟨rfl,x3⟩;have z3:=x3.size;have r6:=x2.tr x3;refine ⟨_,rfl,x3.heap aa,x3.heap aa,x3.heap aa,?_⟩;have hid0:¬oA p->jQ p=0:=yu;have hid1:oA p->1<=jQ p/\jQ p<=1099511627776:=λq=>Mb q
 refine Br.mk (λq=>λw5 e5=> ?_) (λq=> ?_)
 ·have cV:¬oA p:=λhh=>by have:=hid1 hh;simp at q;omega
  have e1:oD ag cap T.1 T.2 p=((T.1,T.2),5):=by unfold oD;rw [if_pos cV]
  have x5:=r6.ab e5 aa;rw [e1];exact ⟨s1,s2,s3,rfl,h.ext x5,x5⟩
 have cV:oA p:=by
  by_cases hh:oA p
  ·exact hh
  ·have:=hid0 hh;simp [this] at q
 have hid:=hid1 cV;refine (fK (ag:=ag) (cap:=cap) (h.ext r6) ho.l p).mono ?_;rintro e w6 ⟨rfl,x6⟩;have z6:=x6.size;have uF:=r6.tr x6;refine ⟨_,rfl,x6.heap aa,x6.heap aa,x6.heap aa,?_⟩;have hl:=ho.l;have leaf:∀{v:World} {T':Tb} {sa sb sc:Sl} (y:Ci),Ext w v->w.heap.size+3<=v.heap.size->RT (Bx P w (w.heap.size+3)) v T' sa sb sc->RR (Bx P w (w.heap.size+3)) v y.2 (cK y.1.2.1)->T'.2.length<=1000000->
   ah 77 #[zN ag cap T'.1 sa sb sc,.agg #[.int .i64 y.1.1.1,.int .i64 y.1.1.2,.slice y.2.a y.2.n y.2.c,.bool y.1.2.2.1,.int .i64 y.1.2.2.2]] v λe w'=>∃sa' sb' sc':Sl,e=(zN ag cap T'.1 sa' sb' sc')/\Ext v w'/\∀TB c,TB=w'.setRow w1 c->mE P w ag cap ((T'.1,T'.2++ [y.1]),0) (.returned (.tuple #[zN ag cap T'.1 sa' sb' sc',af])) TB:=by
  intro v T' sa sb sc y xv zv hT hy hl';refine (rI (ag:=ag) (cap:=cap) hT (hP.bx xv zv) hl' y hy).mono ?_;rintro e w' ⟨sa',sb',sc',rfl,h',x'⟩;exact ⟨sa',sb',sc',rfl,x',λTB c e1=>⟨sa',sb',sc',rfl,(h'.box e1 ⟨by omega,by omega⟩).out,(xv.tr x').ab e1 aa⟩⟩
 have hRd:∀{b:List Int},lR b->(cJ aY b 8192).2=0->cK (aW (cJ aY b 8192).1)=(cJ aY b 8192).1/\gH ag p b=aW (cJ aY b 8192).1:=λ{b} hb h0=>by
  obtain ⟨f1,f2,f3⟩:=pH (b:=b) (n:=8192) hb aE h0;have hmy:jv aY (cJ aY b 8192).1 8192=true:=by have:=f2.jv aa;rw [f3] at this;exact this
  exact ⟨(tA hmy).1,by unfold gH;rw [if_pos h0]⟩
 have hRn:∀{b:List Int},(cJ aY b 8192).2≠0->gH ag p b=made ag p:=λ{b} h0=>by unfold gH;rw [if_neg h0]
 rcases (cc (λe:En=>e.1==p) T.2).symm with ⟨k,e,hk,he,hf,-⟩|⟨hf,my⟩
 ·rw [hf];have e1:oD ag cap T.1 T.2 p=((T.1,T.2.eraseIdx k++ [e]),0):=by unfold oD;rw [if_neg (by simpa using cV),hf,if_pos aa,ju,hk];rfl
  have q9:=(bF.1 hk).1;have h6:=h.nN uF (w.heap.size+3);obtain ⟨y,hy,IN,hin2,mz,mH,M6⟩:=h6.l.at hk;subst hy;refine Br.mk (λ_=>⟨hin2,y.1.1.1,y.1.1.2,y.2,y.1.2.2.1,y.1.2.2.2,M6,λcA ud cm nu=> ?_⟩) (λq=>by simp at q);have cl:Ext w6 cm:=(bq ud).ab nu (ax _);have Wx:=kC ud nu;have r14:Row cm w6 [.int .i64 y.1.1.1,.int .i64 y.1.1.2,.slice y.2.a y.2.n y.2.c,.bool y.1.2.2.1,.int .i64 y.1.2.2.2] 110:=by rw [nu];exact Row.set (by rw [ud];exact Row.new w6 [_,_,_,_,_] _) _
  have xd:=Ext.dr cm;have zd:=lW cm;have ae1:=uF.tr (cl.tr xd);refine (j3 (ag:=ag) (cap:=cap) (h6.ext (cl.tr xd)) (hP.bx ae1 aa) hl (i:=k) q9).mono ?_;rintro e cS ⟨sa,sb,sc,rfl,WN,bA⟩;have z15:=bA.size;refine ⟨_,_,_,_,_,sa,sb,sc,rfl,bA.heap aa,bA.heap aa,bA.heap aa,bA.heap aa,(r14.ext (xd.tr bA)).bk (λj hj=>by rw [cO]),?_⟩;have hel:(T.2.eraseIdx k).length<=1000000:=by rw [List.length_eraseIdx];split<;>omega
  refine (leaf y (ae1.tr bA) aa WN ((IN.ext (cl.tr xd)).ext bA) hel).mono ?_;rintro e fu ⟨sa',sb',sc',rfl,di,fin⟩;rw [e1];exact ⟨_,_,_,_,_,sa',sb',sc',rfl,di.heap aa,di.heap aa,di.heap aa,di.heap aa,λlz vS=>fin lz _ vS⟩
 rw [hf];have e1:oD ag cap T.1 T.2 p=if (cE cap T.1 T.2).2≠0 then cE cap T.1 T.2 else (((cE cap T.1 T.2).1.1,(cE cap T.1 T.2).1.2++ [(p,gH ag p (qh (cE cap T.1 T.2).1.1 (jQ p)).1,false,0)]),0):=by unfold oD;rw [if_neg (by simpa using cV),hf,if_neg aE]
 obtain ⟨its,kM,hms⟩:=h.l;have hn:=kM.n;have vD:its.length=T.2.length:=by rw [<-hms,aB]
 refine Br.mk (λq=>by simp at q) (λ_=>Br.mk (λhfull=> ?_) (λhfree=> ?_))
 ·have hfull:¬((T.2.length:Nat):Int)<cap:=by rw [<-vD,<-hn];simpa using hfull
  have eR:cE cap T.1 T.2=if bC (λe:En=>e.2.2.2==0) T.2<0 then ((T.1,T.2),8) else JU T.1 T.2 (bC (λe:En=>e.2.2.2==0) T.2).toNat:=by unfold cE;rw [if_neg hfull]
  have wl:ai (((s3.n:Nat):Int)-1)=((T.2.length:Nat):Int)-1:=by rw [wI];omega
  rw [wl];refine ⟨λn i fr wr=>i=(n:Int)-1/\n<=T.2.length/\wr=w6/\((fr= -1/\∀m,n<=m->∀y,T.2[m]? =some y->(y.2.2.2==0)=false)\/∃(k:Nat)(y:En),n<=k/\T.2[k]? =some y/\(y.2.2.2==0)=true/\fr=k/\∀m,n<=m->m<k->∀y,T.2[m]? =some y->(y.2.2.2==0)=false),⟨T.2.length,rfl,rfl,rfl,rfl,ax _,rfl,.inl ⟨rfl,λm hm' y hy=>by have:=(bF.1 hy).1;omega⟩⟩,?_⟩;rintro n us i fr iP ⟨rfl,II,rfl,Dv⟩;apply Br.mk<;>intro hc
  ·simp only [ge_iff_le,bB] at hc;obtain ⟨j,rfl⟩:∃j,n=j+1:=⟨n-1,by omega⟩;have ej:(((j+1:Nat):Int)-1)=(j:Int):=by omega
   rw [ej];obtain ⟨e,he⟩:=bh (l:=T.2) (i:=j) aa;obtain ⟨y,hy,-,hin2,mz,mH,-⟩:=(h.ext uF).l.at he;subst hy;have wj:ai ((j:Int)-1)=(j:Int)-1:=wI;refine ⟨hin2,Bj mz ⟨y.1.2.2.2,mH 4 _ rfl,Br.mk (λq=>⟨j,by omega,rfl,rfl,rfl,wj,by omega,rfl,.inr ⟨j,y.1,ax _,he,q,rfl,λm h1 h2=>by omega⟩⟩) (λq=>⟨j,by omega,rfl,rfl,rfl,wj,by omega,rfl,?_⟩)⟩⟩;have ext1:∀{k:Nat},(∀m,j+1<=m->m<k->∀y,T.2[m]? =some y->(y.2.2.2==0)=false)->∀m,j<=m->m<k->∀y,T.2[m]? =some y->(y.2.2.2==0)=false:=λhh m h1 h2 y' hy'=>by
    rcases fx j m with q3|q3
    ·exact hh m aa h2 y' hy'
    ·have:m=j:=by omega
     subst this;rw [he] at hy';cases hy';exact q
   rcases Dv with ⟨f1,f2⟩|⟨k,y',f1,f2,f3,f4,f5⟩
   ·refine .inl ⟨f1,λm h1 y' hy'=> ?_⟩;exact ext1 (k:=m+1) (λm' h1 _=>f2 m' h1) m h1 aa y' hy'
   ·exact .inr ⟨k,y',by omega,f2,f3,f4,ext1 f5⟩
  ·simp only [ge_iff_le,bQ] at hc;have hn0:n=0:=by omega
   subst hn0;rcases Dv with ⟨rfl,f2⟩|⟨k,e,-,hk,hek,rfl,f5⟩
   ·refine Br.mk (λ_=>λnp U0=> ?_) (λq=>by simp at q);have hfi:bC (λe:En=>e.2.2.2==0) T.2= -1:=iW λy hy=>by obtain ⟨m,hm'⟩:=mO hy;exact f2 m (fm _) y hm'
    rw [hfi,if_pos aE] at eR;rw [e1,eR,if_pos cy];have lU:=uF.ab U0 aa;exact ⟨s1,s2,s3,rfl,h.ext lU,lU⟩
   ·have hfi:bC (λe:En=>e.2.2.2==0) T.2=k:=mW hk hek λm hm' y hy=>f5 m (fm _) hm' y hy
    rw [hfi,if_neg aa,ju,Rq hk] at eR;have q9:=(bF.1 hk).1;refine Br.mk (λq=>by simp at q;omega) (λ_=>(tu (h.nN uF (w.heap.size+3)) (hP.bx uF aa) ho.d ho.f ho.g hl hk).mono ?_);rintro e' pY ⟨sa,sb,sc,rfl,h43,ky⟩;have z43:=ky.size;have kI:(G5 T k e).1.2.length=T.2.length:=by unfold G5;simp
    have hmD:mD (G5 T k e).1.1<=mD T.1+1:=Ig _ _;have hDk:iq (G5 T k e).1.1:=Lp ho.d _;generalize G5 T k e=R at*;have akU:=uF.tr ky;refine ⟨_,_,_,_,_,sa,sb,sc,_,rfl,ky.heap aa,ky.heap aa,ky.heap aa,λYa Jn ye Yb=> ?_⟩;have wW:Ext pY ye:=(bq Jn).ab Yb (ax _);have z54:=kC Jn Yb;have abG:=akU.tr wW;refine Br.mk (λq=>λA5 e55=> ?_) (λq=> ?_)
    ·have q:=kB q;rw [if_neg q] at eR;rw [e1,eR,if_pos q];exact ⟨sa,sb,sc,rfl,((h43.ext wW).box e55 ⟨by omega,by omega⟩).out,abG.ab e55 aa⟩
    ·have q:=kB q;rw [if_pos q] at eR;rw [e1,eR,if_neg cy];refine (j3 (ag:=ag) (cap:=cap) (h43.ext wW) (hP.bx abG aa) aa (i:=k) aa).mono ?_;rintro e' MX ⟨sa,sb,sc,rfl,h56,Dp⟩;have z56:=Dp.size;refine ⟨_,_,_,_,_,sa,sb,sc,rfl,Dp.heap aa,Dp.heap aa,Dp.heap aa,Dp.heap aa,λJp e65=> ?_⟩;have h65:=h56.box e65 ⟨ax _,by omega⟩;have Jb:=(abG.tr Dp).ab e65 (ax _);have z65:=mL e65;have hel:(R.1.2.eraseIdx k).length<=1000000:=by rw [List.length_eraseIdx];split<;>omega
     refine (pE h65.d (hP.bx Jb aa) hDk (Eh (by simp only;omega)) (jQ p)).mono ?_;rintro e' sy ⟨EY,rfl,Ju,lP⟩;have z66:=lP.size;refine ⟨EY,_,_,rfl,lP.heap aa,lP.heap aa,lP.heap aa,lP.heap aa,(pI p EY _ sy Ju.r Ju.y Ju.c (by have:=KI hDk (jQ p);simp only;omega)).mono ?_⟩;rintro e' vI ⟨⟨rX,qy,LG,rfl,h70⟩,jB⟩;have z70:=jB.size;refine ⟨rX,qy,LG,_,rfl,jB.heap aa,jB.heap aa,jB.heap aa,jB.heap aa,λJj U9 Bu Va=> ?_⟩;have rf:Ext vI Bu:=(bq U9).ab Va (ax _);have z76:=kC U9 Va;have Fc:=Jb.tr (lP.tr (jB.tr rf));generalize FH:(qh R.1.1 (jQ p)).1=bb at*;refine Br.mk (λq2=>(rJ ag p (yx cV) Bu).mono ?_) (λq2=> ?_)
     ·rintro e' w77 ⟨A7,rfl,IY,pc⟩;have q2:=kB q2;have z77:=pc.size;refine ⟨_,_,A7,rfl,pc.heap aa,pc.heap aa,pc.heap aa,pc.heap aa,pc.heap aa,λwT M4=> ?_⟩;have z81:=mL M4;have T7:=(Fc.tr pc).ab M4 (by have:=Jb.size;omega);have h81:RT (Bx P w (w.heap.size+3)) wT (R.1.1,R.1.2.eraseIdx k) sa sb sc:=(h65.ext (lP.tr jB)).same λi hp hi=>⟨by rw [M4,setRow_other _ _ _ _ aa];exact (rf.tr pc).heap aa,hp⟩
      have T8:RR (Bx P w (w.heap.size+3)) wT A7 (cK (made ag p)):=by refine RR.own (B:=Bu.heap.size) (ak.bP IY λj hj=> ?_) (λi hi=>⟨hP i (by have:=Fc.size;omega),.inr (by have:=Jb.size;omega)⟩);have:=(IY.own.lt hj).1;rw [M4,setRow_other _ _ _ _ aa]
      refine (leaf ((p,made ag p,false,0),A7) T7 (by have:=Jb.size;omega) h81 T8 hel).mono ?_;rintro e' w82 ⟨sa',sb',sc',rfl,q8,fin⟩;rw [hRn q2];exact ⟨_,_,_,_,_,sa',sb',sc',rfl,q8.heap aa,q8.heap aa,q8.heap aa,q8.heap aa,q8.heap aa,λTK W6=>fin TK _ W6⟩
     ·have q2:=kB q2;obtain ⟨rfl,rfl,IZ⟩:=h70 q2;obtain ⟨X4,jE⟩:=hRd Ju.y q2;rw [<-X4] at IZ;have T9:RR (Bx P w (w.heap.size+3)) Bu LG (cK (aW (cJ aY bb 8192).1)):=RR.ext (RR.own IZ λi hi=>⟨hP i (by have:=Jb.size;omega),.inr (by have:=Jb.size;omega)⟩) rf;refine (leaf ((p,aW (cJ aY bb 8192).1,false,0),LG) Fc (by have:=Jb.size;omega) (h65.ext (lP.tr (jB.tr rf))) T9 hel).mono ?_;rintro e' wU ⟨sa',sb',sc',rfl,sC,fin⟩;rw [jE];exact ⟨_,_,_,_,_,sa',sb',sc',rfl,sC.heap aa,sC.heap aa,sC.heap aa,sC.heap aa,sC.heap aa,λB6 Ua=>fin B6 _ Ua⟩
 ·have hfree:((T.2.length:Nat):Int)<cap:=by rw [<-vD,<-hn];simpa using hfree
  have eR:cE cap T.1 T.2=((T.1,T.2),0):=by unfold cE;rw [if_pos hfree]
  rw [e1,eR,if_neg cy];have h6:=h.nN uF (w.heap.size+3);refine (pE h6.d (hP.bx uF aa) ho.d (Eh aa) (jQ p)).mono ?_;rintro e' sy ⟨EY,rfl,Ju,lP⟩;have z66:=lP.size;refine ⟨EY,_,_,rfl,lP.heap aa,lP.heap aa,lP.heap aa,(pI p EY _ sy Ju.r Ju.y Ju.c (by have:=KI ho.d (jQ p);omega)).mono ?_⟩;rintro e' vI ⟨⟨rX,qy,LG,rfl,h70⟩,jB⟩;have z70:=jB.size;refine ⟨rX,qy,LG,_,rfl,jB.heap aa,jB.heap aa,jB.heap aa,λJj U9 Bu Va=> ?_⟩;have rf:Ext vI Bu:=(bq U9).ab Va (ax _);have z76:=kC U9 Va;have Fc:=uF.tr (lP.tr (jB.tr rf));generalize FH:(qh T.1 (jQ p)).1=bb at*;refine Br.mk (λq2=>(rJ ag p (yx cV) Bu).mono ?_) (λq2=> ?_)
  ·rintro e' w77 ⟨A7,rfl,IY,pc⟩;have q2:=kB q2;have z77:=pc.size;refine ⟨_,_,A7,rfl,pc.heap aa,pc.heap aa,pc.heap aa,pc.heap aa,λwT M4=> ?_⟩;have z81:=mL M4;have T7:=(Fc.tr pc).ab M4 aa;have h81:RT (Bx P w (w.heap.size+3)) wT T s1 s2 s3:=(h6.ext (lP.tr jB)).same λi hp hi=>⟨by rw [M4,setRow_other _ _ _ _ aa];exact (rf.tr pc).heap aa,hp⟩
   have T8:RR (Bx P w (w.heap.size+3)) wT A7 (cK (made ag p)):=by refine RR.own (B:=Bu.heap.size) (ak.bP IY λj hj=> ?_) (λi hi=>⟨hP i aa,.inr aa⟩);have:=(IY.own.lt hj).1;rw [M4,setRow_other _ _ _ _ aa]
   refine (leaf ((p,made ag p,false,0),A7) T7 aa h81 T8 hl).mono ?_;rintro e' w82 ⟨sa',sb',sc',rfl,q8,fin⟩;rw [hRn q2];exact ⟨_,_,_,_,_,sa',sb',sc',rfl,q8.heap aa,q8.heap aa,q8.heap aa,q8.heap aa,λTK W6=>fin TK _ W6⟩
  ·have q2:=kB q2;obtain ⟨rfl,rfl,IZ⟩:=h70 q2;obtain ⟨X4,jE⟩:=hRd Ju.y q2;rw [<-X4] at IZ;have T9:RR (Bx P w (w.heap.size+3)) Bu LG (cK (aW (cJ aY bb 8192).1)):=RR.ext (RR.own IZ λi hi=>⟨hP i aa,.inr aa⟩) rf;refine (leaf ((p,aW (cJ aY bb 8192).1,false,0),LG) Fc aa (h6.ext (lP.tr (jB.tr rf))) T9 hl).mono ?_;rintro e' wU ⟨sa',sb',sc',rfl,sC,fin⟩;rw [jE];exact ⟨_,_,_,_,_,sa',sb',sc',rfl,sC.heap aa,sC.heap aa,sC.heap aa,sC.heap aa,λB6 Ua=>fin B6 _ Ua⟩
end
end Go.Proofs.YtalpkjfpmdpbiaaGreatDoor
namespace Go.Proofs.YtalpkjfpmdpbiaaGreatDoor
open Go Go.Vc Go.RowKit Go.Proofs Go.dQ Go.bf Go.Code
section
variable {P P':Nat->Prop} {w w' v v':World} {s s1 s2 s3:Sl} {T:Tb} {ag cap:Int}
set_option maxRecDepth 100000 in
def qU(h:RT P w T s1 s2 s3)(hP:Fw P w)(ho:qS T)(hm:mD T.1<=500000)(ue:inI cap)(p:Po)(aiU:((T.2.length:Nat):Int)<cap)(AU:∀e ∈ T.2,e.1≠p):
  ah 39 #[zN ag cap T.1 s1 s2 s3,pv p] w (mE P w ag cap (oD ag cap T.1 T.2 p)):=by
 apply (zO.vc (aK:=s1) (aL:=s2) (aH:=s3));intro w0 e0 w1 e1 w2 e2;have x2:Ext w w2:=((bq e0).ay e1).ay e2;have z0:=du e0;have z1:w1.heap.size=w.heap.size+2:=by rw [e1];simp [z0]
 have z2:w2.heap.size=w.heap.size+3:=by rw [e2];simp [z1]
 refine (tz p w2).mono ?_;rintro e w3 ⟨rfl,x3⟩;have z3:=x3.size;have r6:=x2.tr x3;refine ⟨_,rfl,x3.heap aa,x3.heap aa,x3.heap aa,?_⟩;have hid0:¬oA p->jQ p=0:=yu;have hid1:oA p->1<=jQ p/\jQ p<=1099511627776:=λq=>Mb q
 refine Br.mk (λq=>λw5 e5=> ?_) (λq=> ?_)
 ·have cV:¬oA p:=λhh=>by have:=hid1 hh;simp at q;omega
  have e1:oD ag cap T.1 T.2 p=((T.1,T.2),5):=by unfold oD;rw [if_pos cV]
  have x5:=r6.ab e5 aa;rw [e1];exact ⟨s1,s2,s3,rfl,h.ext x5,x5⟩
 have cV:oA p:=by
  by_cases hh:oA p
  ·exact hh
  ·have:=hid0 hh;simp [this] at q
 have hid:=hid1 cV;refine (fK (ag:=ag) (cap:=cap) (h.ext r6) ho.l p).mono ?_;rintro e w6 ⟨rfl,x6⟩;have z6:=x6.size;have uF:=r6.tr x6;refine ⟨_,rfl,x6.heap aa,x6.heap aa,x6.heap aa,?_⟩;have hl:=ho.l;have leaf:∀{v:World} {T':Tb} {sa sb sc:Sl} (y:Ci),Ext w v->w.heap.size+3<=v.heap.size->RT (Bx P w (w.heap.size+3)) v T' sa sb sc->RR (Bx P w (w.heap.size+3)) v y.2 (cK y.1.2.1)->T'.2.length<=1000000->
   ah 77 #[zN ag cap T'.1 sa sb sc,.agg #[y.1.1.1,y.1.1.2,.slice y.2.a y.2.n y.2.c,.bool y.1.2.2.1,y.1.2.2.2]] v λe w'=>∃sa' sb' sc':Sl,e=(zN ag cap T'.1 sa' sb' sc')/\Ext v w'/\∀TB c,TB=w'.setRow w1 c->mE P w ag cap ((T'.1,T'.2++ [y.1]),0) (.returned (.tuple #[zN ag cap T'.1 sa' sb' sc',af])) TB:=by
  intro v T' sa sb sc y xv zv hT hy hl';refine (rI (ag:=ag) (cap:=cap) hT (hP.bx xv zv) hl' y hy).mono ?_;rintro e w' ⟨sa',sb',sc',rfl,h',x'⟩;exact ⟨sa',sb',sc',rfl,x',λTB c e1=>⟨sa',sb',sc',rfl,(h'.box e1 ⟨by omega,by omega⟩).out,(xv.tr x').ab e1 aa⟩⟩
 have hRd:∀{b:List Int},lR b->(cJ aY b 8192).2=0->cK (aW (cJ aY b 8192).1)=(cJ aY b 8192).1/\gH ag p b=aW (cJ aY b 8192).1:=λ{b} hb h0=>by
  obtain ⟨f1,f2,f3⟩:=pH (b:=b) (n:=8192) hb aE h0;have hmy:jv aY (cJ aY b 8192).1 8192=true:=by have:=f2.jv aa;rw [f3] at this;exact this
  exact ⟨(tA hmy).1,by unfold gH;rw [if_pos h0]⟩
 have hRn:∀{b:List Int},(cJ aY b 8192).2≠0->gH ag p b=made ag p:=λ{b} h0=>by unfold gH;rw [if_neg h0]
 rcases (cc (λe:En=>e.1==p) T.2).symm with ⟨k,e,hk,he,hf,-⟩|⟨hf,my⟩
 ·exact absurd (by simpa using he) (AU _ (bc hk))
 rw [hf];have e1:oD ag cap T.1 T.2 p=if (cE cap T.1 T.2).2≠0 then cE cap T.1 T.2 else (((cE cap T.1 T.2).1.1,(cE cap T.1 T.2).1.2++ [(p,gH ag p (qh (cE cap T.1 T.2).1.1 (jQ p)).1,false,0)]),0):=by unfold oD;rw [if_neg (by simpa using cV),hf,if_neg aE]
 obtain ⟨its,kM,hms⟩:=h.l;have hn:=kM.n;have vD:its.length=T.2.length:=by rw [<-hms,aB]
 refine Br.mk (λq=>by simp at q) (λ_=>Br.mk (λhfull=> ?_) (λhfree=> ?_))
 ·have hfull:¬((T.2.length:Nat):Int)<cap:=by rw [<-vD,<-hn];simpa using hfull
  exact absurd aiU hfull
 ·have hfree:((T.2.length:Nat):Int)<cap:=by rw [<-vD,<-hn];simpa using hfree
  have eR:cE cap T.1 T.2=((T.1,T.2),0):=by unfold cE;rw [if_pos hfree]
  rw [e1,eR,if_neg cy];have h6:=h.nN uF (w.heap.size+3);refine (pE h6.d (hP.bx uF aa) ho.d (Eh aa) (jQ p)).mono ?_;rintro e' sy ⟨EY,rfl,Ju,lP⟩;have z66:=lP.size;refine ⟨EY,_,_,rfl,lP.heap aa,lP.heap aa,lP.heap aa,(pI p EY _ sy Ju.r Ju.y Ju.c (by have:=KI ho.d (jQ p);omega)).mono ?_⟩;rintro e' vI ⟨⟨rX,qy,LG,rfl,h70⟩,jB⟩;have z70:=jB.size;refine ⟨rX,qy,LG,_,rfl,jB.heap aa,jB.heap aa,jB.heap aa,λJj U9 Bu Va=> ?_⟩;have rf:Ext vI Bu:=(bq U9).ab Va (ax _);have z76:=kC U9 Va;have Fc:=uF.tr (lP.tr (jB.tr rf));generalize FH:(qh T.1 (jQ p)).1=bb at*;refine Br.mk (λq2=>(rJ ag p (yx cV) Bu).mono ?_) (λq2=> ?_)
  ·rintro e' w77 ⟨A7,rfl,IY,pc⟩;have q2:=kB q2;have z77:=pc.size;refine ⟨_,_,A7,rfl,pc.heap aa,pc.heap aa,pc.heap aa,pc.heap aa,λwT M4=> ?_⟩;have z81:=mL M4;have T7:=(Fc.tr pc).ab M4 aa;have h81:RT (Bx P w (w.heap.size+3)) wT T s1 s2 s3:=(h6.ext (lP.tr jB)).same λi hp hi=>⟨by rw [M4,setRow_other _ _ _ _ aa];exact (rf.tr pc).heap aa,hp⟩
   have T8:RR (Bx P w (w.heap.size+3)) wT A7 (cK (made ag p)):=by refine RR.own (B:=Bu.heap.size) (ak.bP IY λj hj=> ?_) (λi hi=>⟨hP i aa,.inr aa⟩);have:=(IY.own.lt hj).1;rw [M4,setRow_other _ _ _ _ aa]
   refine (leaf ((p,made ag p,false,0),A7) T7 aa h81 T8 hl).mono ?_;rintro e' w82 ⟨sa',sb',sc',rfl,q8,fin⟩;rw [hRn q2];exact ⟨_,_,_,_,_,sa',sb',sc',rfl,q8.heap aa,q8.heap aa,q8.heap aa,q8.heap aa,λTK W6=>fin TK _ W6⟩
  ·have q2:=kB q2;obtain ⟨rfl,rfl,IZ⟩:=h70 q2;obtain ⟨X4,jE⟩:=hRd Ju.y q2;rw [<-X4] at IZ;have T9:RR (Bx P w (w.heap.size+3)) Bu LG (cK (aW (cJ aY bb 8192).1)):=RR.ext (RR.own IZ λi hi=>⟨hP i aa,.inr aa⟩) rf;refine (leaf ((p,aW (cJ aY bb 8192).1,false,0),LG) Fc aa (h6.ext (lP.tr (jB.tr rf))) T9 hl).mono ?_;rintro e' wU ⟨sa',sb',sc',rfl,sC,fin⟩;rw [jE];exact ⟨_,_,_,_,_,sa',sb',sc',rfl,sC.heap aa,sC.heap aa,sC.heap aa,sC.heap aa,λB6 Ua=>fin B6 _ Ua⟩
end
end Go.Proofs.YtalpkjfpmdpbiaaGreatDoor
