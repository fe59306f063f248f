import Derived.Test.YtjcnjlaelhdjeaaGreatDoorL
import Derived.Test.YtjcnjlaelhdjeaaGreatDoorE
import Derived.Test.YtjcnjlaelhdjeaaGreatDoorG
import Derived.Test.YtjcnjlaelhdjeaaGreatDoorD
import Derived.Test.YtjcnjlaelhdjeaaGreatDoorJ
set_option linter.all false
namespace Go.Proofs.YtjcnjlaelhdjeaaGreatDoor
open Go Go.Vc Go.RowKit Go.Proofs Go.iG Go.bW Go.aN Go.Code Go.dS Go.ej Go.fY
set_option maxRecDepth 100000
set_option maxHeartbeats 8000000
def PO:∀l:List ByteArray,(∀t∈l,t.size<=1000)->(Lib.join (l.map (·.data.toList)) [32]).length<=l.length*1001
 | [],_=>eG _
 |t::l,h=>by
  have i1:=PO l λx hx=>h x (qQ _ hx)
  have i2:t.data.toList.length<=1000:=by have:=h t (List.mem_cons_self ..);have e:=jQ t;unfold bl at e;omega
  cases l with
  |nil=>simp[Lib.join,List.intercalate]at i2⊢;omega
  |cons t2 l2=>
   simp only[eH,Lib.join,List.intercalate,List.intersperse,kX,cj,cL,mV]at i1 i2⊢;omega
def iL{l:List ByteArray}(h:∀t∈l,t.size<=1000)(hn:l.length<=500):(eI l).size<=1000000:=by have h1:=PO l h;have e:=jQ (eI l);have:bl (eI l)=Lib.join (l.map (·.data.toList)) [32]:=rfl;rw[this]at e;omega
def cF{n:Int}(hn:cH n):(bI n).size<=100:=by
 unfold cH at hn;have key:(Lib.itoa n).length<=21:=by
  unfold Lib.itoa;split
  ·have:=Mi 19 n.natAbs aa;simp only[cL];omega
  ·have:=Mi 19 n.toNat aa;omega
 have e:=jQ (bI n);have:bl (bI n)=Lib.itoa n:=rfl;rw[this]at e;omega
def Y3{x:Int}(h:er x):(iX x).size<=100:=by
 unfold er at h;have:∀n:Fin 14,(iX ((n.val:Nat):Int)).size<=100:=by decide+kernel
 have:=this ⟨x.toNat,aa⟩;rwa[show((x.toNat:Nat):Int)=x by omega]at this
def mZ{u v:World}{xs:LV}{txs:List ByteArray}(hv:v=u.alloc (.cells xs.toArray 20))(hl:txs.length=xs.length)(hn:xs.length<=500)(hit:∀(i:Nat) x t,xs[i]? =some x->txs[i]? =some t->xD v x t)(nR:∀t∈txs,t.size<=1000):
  ed 154 #[.slice (aB u.heap.size) xs.length xs.length] v (Value.string (eI txs)):=
 adl hv hl aa hit λt ht=>by have:=nR t ht;omega
def all_cons{v:World}{x:Value}{t:ByteArray}{xs:LV}{ts:List ByteArray}(h0:xD v x t)(h:∀(i:Nat) x t,xs[i]? =some x->ts[i]? =some t->xD v x t):∀(i:Nat) y s,(x::xs)[i]? =some y->(t::ts)[i]? =some s->xD v y s
 |0,y,s,h1,h2=>by cases h1;cases h2;exact h0
 |i+1,y,s,h1,h2=>h i y s h1 h2
def all_nil{v:World}{ts:List ByteArray}:∀(i:Nat) y s,([]:LV)[i]? =some y->ts[i]? =some s->xD v y s:=λi y s h=>by cases h
def Ur{u v:World}{xs:LV}{txs:List ByteArray}{x:Int}(hx:er x)(hv:v=u.alloc (.cells xs.toArray 20))(hl:txs.length=xs.length)(hn:xs.length<=500)(hit:x=0->∀w,Ext v w->∀(i:Nat) y t,xs[i]? =some y->txs[i]? =some t->xD w y t)(nR:∀t∈txs,t.size<=1000):
  ed 167 #[x,.slice (aB u.heap.size) xs.length xs.length] v (Value.string (if x=0 then eI txs else iX x)):=by
 apply adm.vc (a1:=⟨aB u.heap.size,xs.length,xs.length⟩);apply Br.mk<;>intro c
 ·intro w0 e0;refine(jg e0 (pZ hx w0) (fi _)).bf λw1 x1=>?_
  have:x≠0:=by simpa using c
  exact⟨_,rfl,by rw[if_neg this],(aU e0).tr x1⟩
 ·have c:=eK c;refine(mZ hv hl hn (hit c v (Ext.bT _)) nR).bf λw1 x1=>?_
  exact⟨_,rfl,by rw[if_pos c],x1⟩
section
variable{k:Nat}{w:World}{F:Nat->Prop}{sh g s o t B ga:Nat}{M:Sm}{occ:Value}{L:Lv}{ws:List ByteArray}
def Mc.tab(h:Mc k w F sh g s o t B ga M occ L ws){u:World}(m:Mod (λi=>F i\/i=ga) w u):lP u:=h.t u m
def dK.mod{u:World}{M':Sm}{occ':Value}{L':Lv}(hr:dK F w g s o t M' occ' L' u):Mod F w u:=by obtain⟨F',-,ht⟩:=hr;exact ht.mod
def akB(M:Sm)(L:Lv)(ws:List ByteArray):Option Out:=(gz ws).bind λx=>(ks x.2).bind λ_=>some (iX (zB L x.1).1,M,(zB L x.1).2)
def PG(h:Mc k w F sh g s o t B ga M occ L ws):ab 98 #[sh,ga] w (MR k w ga F g s o t (akB M L ws)):=by
 apply BF.vc;refine(h.at _).num λn r u _ m1 h1=>h1.fin λ_ h2=>⟨_,h2.ld,(Y4 h2.c.e n).bf λw4 hr=>?_⟩
 refine⟨_,rfl,λw6 e6=>(jg e6 (pZ (ahZ L n) w6) (fi _)).bf λw7 x7=>?_⟩;exact⟨_,rfl,h2.TL (fi _) (h2.c.i.lv (adn h2.c.i.b n)) hr ((aU e6).tr x7)⟩
def adb(M:Sm)(L:Lv)(ws:List ByteArray):Option Out:=(kI ws).bind λv=>(gz v.2).bind λa=>(gz a.2).bind λb=>(ks b.2).bind λ_=>
 some (if(iP M L (nK v.1 a.1 b.1)).2.1=0 then eI [bI (iP M L (nK v.1 a.1 b.1)).1]else iX (iP M L (nK v.1 a.1 b.1)).2.1,M,(iP M L (nK v.1 a.1 b.1)).2.2)
def Mc.len(h:Mc k w F sh g s o t B ga M occ L ws):L.length=16:=by obtain⟨av,-,he,-⟩:=h.e.row;exact he.m
def JU(M:Sm)(hL:L.length=16)(b:eJ):cH (iP M L b).1:=by
 have h: -1<=th L/\th L<=L.length:=by
  rcases dm (λx:Option cQ=>x.isNone) L with⟨e,-⟩|⟨i,x,hx,-,e,-⟩
  ·unfold th;rw[e];omega
  ·unfold th;rw[e];have:=(cG.1 hx).1;omega
 unfold iP cH
 repeat' split
 all_goals (simp only;omega)
def L7(h:Mc k w F sh g s o t B ga M occ L ws):ab 97 #[sh,ga] w (MR k w ga F g s o t (adb M L ws)):=by
 apply zC.vc;refine(h.at _).vec λx y z r u _ m1 h1 w4 e4 w5 e5=>?_
 have x5:Ext u w5:=Ext.af (aU e4) e5 (ak _);have z5:=yL e4 e5;have hB:=h1.le;refine(h1.ext x5).num λa r2 u2 ha m2 h2=>⟨(h1.ext x5).aV m2 hB aa,?_⟩
 have z2:=m2.size;refine h2.num λb r3 u3 hb m3 h3=>⟨h2.aV m3 hB aa,h3.fin λ_ h4=>⟨rfl,?_⟩⟩
 have z3:=m3.size;have h5:=h4.ext (Ext.dr u3);refine⟨_,h5.ld,(Us h5.c.e (x,y,z) a b (se ha)).bf λbN hr=>?_⟩;have nf:¬F u.heap.size:=λq=>by have:=h.e.lt q;have:=h1.m.size;omega
 refine⟨_,_,rfl,h5.PS hr hB (by show _<u3.heap.size;omega) nf,λc9 pC=>?_⟩;have m12:Mod (λi=>F i\/i=ga) w bN:=(h5.m.mono λi _ hi=>.inr hi).trans (hr.mod.mono λi _ hi=>.inl hi);have hz:=hr.mod.size;have hz:u3.heap.size<=bN:=hz;have nR:=cF (JU M h.len (nK (x,y,z) a b));refine(Ur (ado M L _) (xs:=[.iface 3 (vI (iP M L (nK (x,y,z) a b)).1)]) pC (txs:=[bI (iP M L (nK (x,y,z) a b)).1]) rfl bo (λ_ v xv=>all_cons (gP (h.tab (m12.trans (Mod.aq ((aU pC).tr xv)))) (JU M h.len _)) all_nil) (λt ht=>by rw[ig.1 ht];omega)).bf λbZ dw=>?_
 have xx:=(aU pC).tr dw;refine⟨_,rfl,dw.heap (by rw[pC];simp;omega),?_⟩;refine h5.TL ?_ (h5.c.i.lv (Y5 h5.c.i.b _)) hr xx;split
 ·exact iL (λt ht=>by rw[ig.1 ht];exact cV nR au) bo
 ·exact fi _
end
section
variable{k:Nat}{w:World}{F:Nat->Prop}{sh g s o t B ga:Nat}{M:Sm}{occ:Value}{L:Lv}{ws:List ByteArray}
def EF.qok(h:EF F w g s o t M occ L):yN M.q:=by obtain⟨Fs,hs,-⟩:=h.EN;obtain⟨-,-,-,-,hq,-⟩:=hs.queue;exact hq
def EF.few(h:EF F w g s o t M occ L):M.T.2.length<=16:=by obtain⟨Fw,hW,-⟩:=h.world;have:=hW.len;omega
def Inv.d(h:Inv k M L)(hk:k<=1000):M.T.1.l.length<=20000:=by have:M.T.1.l.length<=20*k:=h.n.1.d;omega
def Inv.sok(h:Inv k M L)(hk:k<=1000):qB M 500000000:=h.s.mono aa
def akA(M:Sm)(L:Lv)(ws:List ByteArray):Option Out:=(ks ws).bind λ_=>some (iX (tJ M.T.1 0 (dy M L)).2,akw M L,L)
def PF(h:Mc k w F sh g s o t B ga M occ L ws):ab 96 #[sh,ga] w (MR k w ga F g s o t (akA M L ws)):=by
 apply Ch.vc;have hd:=h.i.d h.z;refine(h.at _).fin λ_ h2=>⟨_,h2.ld,(YS h2.c.e aa).bf λw4 hr=>?_⟩
 refine⟨_,rfl,λw6 e6=>(jg e6 (pZ (ak3 _ _ _) w6) (fi _)).bf λw7 x7=>?_⟩;exact⟨_,rfl,h2.TL (fi _) (h.i.tab ((h.i.n.1.aV (h.i.rok h.e.qok)).mono aa aa)) hr ((aU e6).tr x7)⟩
def JS(M:Sm)(L:Lv)(ws:List ByteArray):Option Out:=(ks ws).bind λ_=>some (eI [bI (gT M.T.1 M.T.2).2.1,iX (gT M.T.1 M.T.2).2.2],{M with T:=(gT M.T.1 M.T.2).1},L)
def DH(h:Mc k w F sh g s o t B ga M occ L ws):ab 93 #[sh,ga] w (MR k w ga F g s o t (JS M L ws)):=by
 apply u6.vc;have hd:=h.i.d h.z;have h16:=h.e.few;refine(h.at _).fin λ_ h2=>?_
 obtain⟨Fs,hS,Eu,-,-⟩:=h2.c.e.EN;obtain⟨Fw,hW,bq⟩:=h2.c.e.world;refine⟨_,h2.ld,cA.2 ⟨rfl,cA.2 ⟨rfl,aB s,Eu,(cZ hS).eL ?_⟩⟩⟩;refine⟨_,rfl,(gx hW).eL ?_⟩;refine⟨_,rfl,(DE hW aa).bf λw7 hr=>?_⟩;have hr:=bq hr;obtain⟨q1,q2,q3⟩:=afm M.T.2 M.T.1 [] 0 (jI 0);have px:cH (gT M.T.1 M.T.2).2.1:=by unfold cH;unfold gT;omega
 have fD:=cF px;have yL:=Y3 q1;have m7:Mod (λi=>F i\/i=ga) w w7:=(h2.m.mono λi _ hi=>.inr hi).trans (hr.mod.mono λi _ hi=>.inl hi);have nR:∀t∈[bI (gT M.T.1 M.T.2).2.1,iX (gT M.T.1 M.T.2).2.2],t.size<=1000:=λt ht=>by
  rcases cu.1 ht with rfl|ht
  ·omega
  ·rw[ig.1 ht];exact cV yL au
 refine⟨_,_,rfl,λbr vv=>(mZ (xs:=[.iface 3 (vI _),.iface 168 (vI _)]) vv (txs:=[bI (gT M.T.1 M.T.2).2.1,iX (gT M.T.1 M.T.2).2.2]) rfl bo (all_cons (gP (h.t _ (m7.trans (Mod.aq (aU vv)))) px) (all_cons (pZ q1 br) all_nil)) nR).bf λbE bS=>?_⟩;refine⟨_,rfl,h2.TL (iL nR bo) (h.i.tab ((h.i.n.1.ark (D:=M.T.1) (l:=M.T.2)).mono aa aa)) hr ((aU vv).tr bS)⟩
def akz(M:Sm)(L:Lv)(ws:List ByteArray):Option Out:=(gz ws).bind λx=>(ks x.2).bind λ_=>some (ByteArray.mk #[111,107],{M with T:=(om M.T.1 x.1,M.T.2)},L)
open Classical in
noncomputable def HN(D:Dk):Option (Sm×Lv):=if h:∃x:Sm×Lv,Rok x.1 x.2/\(Go.bW.pU D 0).1=dy x.1 x.2/\(Go.bW.pU D 0).2.2=true then some (Classical.choose h)else none
noncomputable def yr(M:Sm)(n:Int):Sm×Lv:=match HN (cw M.T.1 n).1 with
 |some x=>({M with T:=((cw M.T.1 n).1,[]),q:=⟨4096,0,x.1.q.l.take 2000⟩,now:=x.1.now},wF x.2 (bh x.2))
 |none=>({M with T:=((cw M.T.1 n).1,[]),q:=⟨4096,0,[]⟩,now:=0},OT)
noncomputable def ada(M:Sm)(ws:List ByteArray):Option Out:=(gz ws).bind λx=>(ks x.2).bind λ_=>some (eI [bI (cw M.T.1 x.1).2],yr M x.1)
end
section
variable{k:Nat}{w w0:World}{F:Nat->Prop}{sh g s o t B ga:Nat}{M:Sm}{occ:Value}{L:Lv}{ws:List ByteArray}{R:eWp}
def Mc.ok(h:Mc k w F sh g s o t B ga M occ L ws):ES 70368744177664 L:=h.i.b.ok
def Mc.sok(h:Mc k w F sh g s o t B ga M occ L ws):qB M 800000000:=(h.i.sok h.z).mono aa
def Mc.wide(h:Mc k w F sh g s o t B ga M occ L ws){c:Ce}{b:Int}(h0:(jo M.T.2 c b).2=0):fh c:=by obtain⟨hy,e,he,hp⟩:=KM h0;have:=Sn (by rw[<-hp];exact(h.i.n.1.e e he).1) hy;unfold fh;omega
def At.nf{p:Option Out}(h:At k w0 w F sh g s o t B ga M occ L ws R p){b:Nat}(hb:w0.heap.size<=b)(h0:EF F w0 g s o t M occ L):¬F b:=λq=>by have:=h0.lt q;omega
def At.own{u:World}{ws0:List ByteArray}{p:Option Out}(h:At k w0 w F sh g s o t B ga M occ L ws R p)(h0:Mc k w0 F sh g s o t B ga M occ L ws0){b:Nat}(hb:w0.heap.size<=b)(m:Mod (λi=>i=b) w u):At k w0 u F sh g s o t B ga M occ L ws R p:=by
 have hs:=h0.r.row.lt;have hB:=h0.a.le;have hg:=h0.a.lt;have hz:=m.size;have hz0:=h.m.size;have hm:Mod (λi=>i=ga) w0 u:=h.m.tr m λi hi=>.inr aa
 exact⟨⟨h.c.e.same λi hi=>m.same i (h.c.e.lt hi) (λq=>by have:=h0.e.lt hi;omega),⟨h.c.r.row.same (m.same sh h.c.r.row.lt aa)⟩,h.c.a.aV aa λi hi=>m.same i aa aa,h0.f,h0.n,h0.i,λu' m'=>h0.t u' ((hm.mono λi _ hi=>.inr hi).trans m'),h0.z,h0.q⟩,hm,h.r⟩
def akC(M:Sm)(L:Lv)(ws:List ByteArray):Option Out:=(gz ws).bind λn=>(gz n.2).bind λx=>(gz x.2).bind λz=>(Da z.2).bind λj=>(adV (gu j.1 (ByteArray.mk #[48])||gu j.1 (ByteArray.mk #[49]))).bind λ_=>(ks j.2).bind λ_=>
 some (iX (A2 L n.1 (x.1,z.1,gu j.1 (ByteArray.mk #[49]))).1,M,(A2 L n.1 (x.1,z.1,gu j.1 (ByteArray.mk #[49]))).2)
def PH(h:Mc k w F sh g s o t B ga M occ L ws):ab 99 #[sh,ga] w (MR k w ga F g s o t (akC M L ws)):=by
 apply Ci.vc;refine(h.at _).num λn r u _ m1 h1=>h1.num λx r2 u2 _ m2 h2 w4 e4 w5 e5=>?_
 have x5:Ext u2 w5:=Ext.af (aU e4) e5 (ak _);have z5:=yL e4 e5;have hB:=h2.le;have IB:=h2.m.size;have h5:=h2.ext x5;refine h5.num λz r3 u3 _ m3 h3=>⟨h5.aV m3 hB aa,λw8 e8=>?_⟩
 have z3:=m3.size;have m8:=iu u3 u2.heap.size #[vI x,vI z,false];rw[<-e8]at m8;have z8:=m8.size;have h8:=h3.own h IB m8;refine h8.word λj r4 u4 _ m4 h4=>⟨h8.aV m4 hB aa,Br.mk (λc=>?_) (λc=>?_)⟩
 all_goals
  have z4:=m4.size
  refine h4.amt (by rw[c];rfl) λ_ h5=>⟨rfl,λbN ui=>?_⟩
  have m12:=iu u4 u2.heap.size #[vI x,vI z,.bool (gu j (ByteArray.mk #[49]))]
  rw[<-ui]at m12
  have z12:=m12.size
  have h6:=(h5.own h IB m12)
  refine h6.fin λ_ h7=>⟨rfl,?_⟩
  have h9:=h7.ext (Ext.dr bN)
  refine⟨_,h9.ld,(abw h9.c.e n (x,z,gu j (ByteArray.mk #[49]))).bf λc9 hr=>?_⟩
  have hz:bN.heap.size<=c9:=hr.mod.size
  refine⟨_,rfl,h9.PS hr hB (by show _<bN.heap.size;omega) (h9.nf IB h.e),λcP ug=>(jg ug (pZ (ajn L n (x,z,gu j (ByteArray.mk #[49]))) cP) (fi _)).bf λdA dc=>?_⟩
  exact⟨_,rfl,dc.heap (by rw[ug];simp;omega),h9.TL (fi _) (h.i.lv (afi h.i.b n (x,z,gu j (ByteArray.mk #[49])))) hr ((aU ug).tr dc)⟩
def ade(M:Sm)(L:Lv)(ws:List ByteArray):Option Out:=(gz ws).bind λn=>(kI n.2).bind λv=>(ZF v.2).bind λb=>(ks b.2).bind λ_=>some (iX (sW M L n.1 v.1 b.1).1,(sW M L n.1 v.1 b.1).2,L)
def L8(h:Mc k w F sh g s o t B ga M occ L ws):ab 100 #[sh,ga] w (MR k w ga F g s o t (ade M L ws)):=by
 apply AK.vc;refine(h.at _).num λn r u _ m1 h1=>h1.vec λx y z r2 u2 _ m2 h2 w4 e4 w5 e5=>?_
 have x5:Ext u2 w5:=Ext.af (aU e4) e5 (ak _);have z5:=yL e4 e5;have hB:=h2.le;have IB:=h2.m.size;have h5:=h2.ext x5;refine h5.aX λb r3 u3 _ m3 h3=>⟨h5.aV m3 hB aa,h3.fin λ_ h4=>⟨rfl,?_⟩⟩
 have z3:=m3.size;have h6:=h4.ext (Ext.dr u3);refine⟨_,h6.ld,(SY h6.c.e h.ok au n (x,y,z) b h.sok).bf λbN hr=>?_⟩;have hz:u3.heap.size<=bN:=hr.mod.size;refine⟨_,rfl,h6.PS hr hB (by show _<u3.heap.size;omega) (h6.nf IB h.e),λc9 pC=>(jg pC (pZ (afG M L n (x,y,z) b) c9) (fi _)).bf λbZ dw=>?_⟩;exact⟨_,rfl,dw.heap (by rw[pC];simp;omega),h6.TL (fi _) (h.i.place n (x,y,z) b) hr ((aU pC).tr dw)⟩
def akD(M:Sm)(L:Lv)(ws:List ByteArray):Option Out:=(kI ws).bind λc=>(ZF c.2).bind λb=>(ks b.2).bind λ_=>some (iX (iA M L c.1 b.1).1,(iA M L c.1 b.1).2,L)
def L9(h:Mc k w F sh g s o t B ga M occ L ws):ab 101 #[sh,ga] w (MR k w ga F g s o t (akD M L ws)):=by
 apply Cj.vc;refine(h.at _).cell λx y z r2 u2 hc m2 h2 w4 e4 w5 e5=>?_
 have x5:Ext u2 w5:=Ext.af (aU e4) e5 (ak _);have z5:=yL e4 e5;have hB:=h2.le;have IB:=h2.m.size;have h5:=h2.ext x5;refine h5.aX λb r3 u3 _ m3 h3=>⟨h5.aV m3 hB aa,h3.fin λ_ h4=>⟨rfl,?_⟩⟩
 have z3:=m3.size;have h6:=h4.ext (Ext.dr u3);refine⟨_,h6.ld,(Dx h6.c.e h.ok (x,y,z) b (Xi hc) h.wide h.sok).bf λbN hr=>?_⟩;have hz:u3.heap.size<=bN:=hr.mod.size;refine⟨_,rfl,h6.PS hr hB (by show _<u3.heap.size;omega) (h6.nf IB h.e),λc9 pC=>(jg pC (pZ (Oq M L (x,y,z) b) c9) (fi _)).bf λbZ dw=>?_⟩;exact⟨_,rfl,dw.heap (by rw[pC];simp;omega),h6.TL (fi _) (h.i.afF L (x,y,z) b) hr ((aU pC).tr dw)⟩
def adf(M:Sm)(L:Lv)(ws:List ByteArray):Option Out:=(gz ws).bind λn=>(kI n.2).bind λv=>(ks v.2).bind λ_=>
 some (if(mE M L n.1 v.1).1.2=0 then eI [kE (mE M L n.1 v.1).1.1]else iX (mE M L n.1 v.1).1.2,(mE M L n.1 v.1).2,L)
def yi(b:Int):(kE b).size<=100:=by
 unfold kE;split
 ·exact eG _
 ·rw[dG]
  cases h:nmT[b.toNat]? with
  |none=>exact eG _
  |some x=>
   have hx:=aQ h;have:∀x∈nmT,x.size<=100:=by decide+kernel
   exact this x hx
def Ma(h:Mc k w F sh g s o t B ga M occ L ws):ab 102 #[sh,ga] w (MR k w ga F g s o t (adf M L ws)):=by
 apply ye.vc;refine(h.at _).num λn r u _ m1 h1=>h1.vec λx y z r2 u2 _ m2 h2 w4 e4 w5 e5=>?_
 have x5:Ext u2 w5:=Ext.af (aU e4) e5 (ak _);have z5:=yL e4 e5;have hB:=h2.le;have IB:=h2.m.size;have h5:=h2.ext x5;refine h5.fin λ_ h4=>⟨rfl,?_⟩
 have h6:=h4.ext (Ext.dr w5);refine⟨_,h6.ld,(SZ h6.c.e h.ok au n (x,y,z) h.sok).bf λbr hr=>?_⟩;have hz:w5.heap.size<=br:=hr.mod.size;refine⟨_,_,rfl,h6.PS hr hB (by show _<w5.heap.size;omega) (h6.nf IB h.e),(kl _ br).bf λbw cJ=>?_⟩;have zx:=cJ.size;refine⟨_,rfl,cJ.k,λc9 pC=>(Ur (anm M L n (x,y,z)) (xs:=[.iface 9 (.string _)]) pC (txs:=[kE (mE M L n (x,y,z)).1.1]) rfl bo (λ_ v xv=>all_cons (.s _) all_nil) (λt ht=>by rw[ig.1 ht];exact cV (yi _) au)).bf λbZ dw=>?_⟩;refine⟨_,rfl,dw.heap (by rw[pC];simp;omega),h6.TL ?_ (h.i.brk n (x,y,z)) hr (cJ.tr ((aU pC).tr dw))⟩;split
 ·exact iL (λt ht=>by rw[ig.1 ht];exact cV (yi _) au) bo
 ·exact fi _
end
open Tryz
variable{R:eWp}{w:World}{a0 a1 a2:Int}
def Cs.vc{a0:Addr}{a1:Addr}(h:(λA=>
 ab 152 #[a1] w (Qp R (fw λx1 w0=>ab 166 #[a1] w0 (Qp R (zK λx3 x4 x5 w2=>Aw w2 #[ai,ai,ai] 73 λw6=>
 Sw w6 w2 #[x3,x4,x5] λw7=>
 ab 153 #[a1] w7 (Qp R (Rt λw8=>Kp w2 w7 w8/\
 ∃J9:Int->Option Addr->wPp,
 (eO w8.drew (ae (some a0) 0) λIe=>(λAa=>
 (ab 131 Aa w8.drew (Qp R (aiq λcr cJ cY dn dw dO dc bE=>Kp w2 w8.drew bE/\
 Aw bE A 184 λfm=>
 Sw fm bE #[cr,cJ,cY,dn,dw,dO] λeQ=>
 aR [x3,x4,x5]/\J9 dc (aB bE) eQ)))/\(Aw w8.drew A 184 λdi=>
 ab 131 Aa di (Qp R (aiq λiB jn gG nU jl rC kz dh=>Kp w2 di dh/\ox w8 di dh/\
 Sw dh w8.drew.heap.size #[iB,jn,gG,nU,jl,rC] λpw=>
 aR [x3,x4,x5]/\J9 kz (aB w8.drew.heap.size) pw)))) #[Ie,x1,.agg #[x3,x4,x5]])/\
 ∀asf:Nat->Value,∀(mP:Int)(Bp:Option Addr)(ke:World),J9 mP Bp ke->
 aO (eE Bp) (jr ke.drew (ae Bp 3) λpy=>
 aO (eE Bp) (aO (eE (ae Bp 0)) (jr ke.drew (ae (ae Bp 0) 0) λoP=>
 aO (eE Bp) (aO (eE (ae Bp 0)) (jr ke.drew (ae (ae Bp 0) 1) λmO=>
 aO (eE Bp) (aO (eE (ae Bp 0)) (jr ke.drew (ae (ae Bp 0) 2) λnC=>
 aO (eE Bp) (jr ke.drew (ae Bp 4) λrq=>
 aO (eE Bp) (jr ke.drew (ae Bp 5) λrE=>
 ab 170 #[py] ke.drew (Qp R (lu λt42 kO=>Kp w2 ke.drew kO/\
 ah kO (ae Bp 5) 0 [rE]/\ah kO (ae Bp 4) 0 [rq]/\ah kO (ae (ae Bp 0) 2) 0 [nC]/\ah kO (ae (ae Bp 0) 1) 0 [mO]/\ah kO (ae (ae Bp 0) 0) 0 [oP]/\Aw kO #[.iface 9 (.string t42),.iface 3 (oP),.iface 3 (mO),.iface 3 (nC),.iface 3 (rq),.iface 3 (rE)] 20 λiO=>
 ab 167 #[mP,.slice (aB kO) 6 6] iO (Qp R (lu λt45 kf=>Kp w2 iO kf/\
 ah kf (ae Bp 5) 0 [rE]/\ah kf (ae Bp 4) 0 [rq]/\ah kf (ae (ae Bp 0) 2) 0 [nC]/\ah kf (ae (ae Bp 0) 1) 0 [mO]/\ah kf (ae (ae Bp 0) 0) 0 [oP]/\R (Value.string t45) kf)))))))))))))))))))) #[ai,ai,ai,ai,ai,ai]):ab 103 #[a0,a1] w R:=
 k7 (an:=⟨[],[(5,⟨[(8,.int .i64),(7,.ptr)],[],[]⟩)],[]⟩) (args:=[.pointer (some a0),.pointer (some a1)]) Tryz.Zp Tryz.mixed func103 h (by kernel_rfl)
def DT.vc{a0:Addr}(h:
 rP (λI0 n1=>I0 n1 (31) w) λI0 n1 Bn x3 w4=>
 Br (x3>=0)
 (eO w4 (ae (some a0) 0) λp6=>
 ab 113 #[p6,.agg #[a1,x3,a2]] w4 (fw λx8 w7=>Br (x8==(-1))
 (R (vI (-2)) w7)
 (Br (x8==0)
 (∃n5,n5<n1/\I0 n5 ((aC (x3-1))) w7)
 (R x3 w7))))
 (R (vI (-1)) w4)):ab 134 #[a0,a1,a2] w R:=
 cq (Mq 2 7) func134 h
def Xh{w:World}(hT:lP w){x y z:Int}(hx:cH x)(hy:cH y)(hz:cH z):xD w (.iface 73 (.agg #[x,y,z])) (eI [bI x,bI y,bI z]):=
 .v x y z _ λu v xu e=>mZ (xs:=[.iface 3 (vI x),.iface 3 (vI y),.iface 3 (vI z)]) e rfl bo
  (all_cons (gP (vE hT (xu.aZ e)) hx) (all_cons (gP (vE hT (xu.aZ e)) hy) (all_cons (gP (vE hT (xu.aZ e)) hz) all_nil)))
  λt ht=>by have h1:=cF hx;have h2:=cF hy;have h3:=cF hz;simp only[cu,iT,or_false]at ht;rcases ht with rfl|rfl|rfl<;>omega
def adv{w:World}(hT:lP w)(b:Bool):xD w (.iface 4 (.bool b)) (eI [bI (if b then 1 else 0)]):=by
 have hi:cH (if b then 1 else 0):=by unfold cH;cases b<;>decide
 exact .b b _ λu v xu e=>mZ (xs:=[.iface 3 (vI (if b then 1 else 0))]) e rfl bo (all_cons (gP (vE hT (xu.aZ e)) hi) all_nil)
  λt ht=>by rw[ig.1 ht];exact cV (cF hi) au
def J2{x y z:Int}(hx:cH x)(hy:cH y)(hz:cH z):(eI [bI x,bI y,bI z]).size<=1000:=by
 have h1:=cF hx;have h2:=cF hy;have h3:=cF hz;have e:=jQ (eI [bI x,bI y,bI z]);have e1:=jQ (bI x);have e2:=jQ (bI y);have e3:=jQ (bI z);have:bl (eI [bI x,bI y,bI z])=bl (bI x)++32::(bl (bI y)++32::bl (bI z)):=by show Lib.join [bl (bI x),bl (bI y),bl (bI z)] [32]=_;simp[Lib.join,List.intercalate]
 rw[this]at e;simp at e;omega
section
variable{k:Nat}{w w0:World}{F:Nat->Prop}{sh g s o t B ga:Nat}{M:Sm}{occ:Value}{L:Lv}{ws:List ByteArray}{R:eWp}
def YX(M:Sm)(L:Lv)(ws:List ByteArray):Option Out:=(kI ws).bind λc=>(ks c.2).bind λ_=>some (qS (jc M.T.2 c.1),M,L)
def UE(b:Int):(qS b).size<=1000000:=by
 unfold qS;split
 ·decide
 ·exact BJ b
def Ug(h:Mc k w F sh g s o t B ga M occ L ws):ab 104 #[sh,ga] w (MR k w ga F g s o t (YX M L ws)):=by
 refine J5 h.e h.r h.a h.f h.n BJ _ ?_ ?_
 ·intro lp u m;have e:YX M L ws=none:=by
   unfold YX
   cases hp:kI ws with
   |none=>rfl
   |some x=>
    obtain⟨c,r⟩:=x;show(ks r).bind _=none;unfold ks;rw[if_neg λq=>lp c (by rw[hp,q])];rfl
  rw[e];exact MR.bad m
 ·intro c hp;refine⟨Xi hp,λu m=>?_⟩;have e:YX M L ws=some (qS (jc M.T.2 c),M,L):=by unfold YX;rw[hp];rfl
  rw[e];exact MR.same h (UE _) m (Ext.bT _)
def Zg{F:Nat->Prop}{w:World}{o t:Nat}{aj limit:Int}{T:Tb}{ch:List Cg}(h:WF F w o t aj limit T ch)(x z:Int)(hx:cH x)(hz:cH z):
  ed 134 #[o,x,z] w (vI (vV T.2 x z 32)):=by
 obtain⟨F1,sc,hT,hR,hO,rfl⟩:=id h;apply DT.vc;refine⟨λn y w'=>y+1=n/\y<=31/\Ext w w'/\vV T.2 x z 32=vV T.2 x z n,⟨32,aa,aa,Ext.bT _,rfl⟩,?_⟩;rintro n us y w4 ⟨hy,aFM,x4,he⟩;apply Br.mk<;>intro c
 ·replace c:=lM c;obtain⟨k,rfl⟩:∃k:Nat,n=k+1:=⟨n-1,aa⟩;have hyk:y=(k:Nat):=by omega
  subst hyk;refine⟨_,(hR.ext x4).at 0 rfl,(Bw (hT.ext x4) (x,(k:Int),z) ⟨hx,(show cH (k:Int)by unfold cH;omega),hz⟩).bf λw7 x7=>?_⟩;refine⟨_,rfl,Br.mk (λc1=>?_) (λc1=>Br.mk (λc2=>?_) (λc2=>?_))⟩
  ·simp only[beq_iff_eq]at c1;refine⟨?_,x4.tr x7⟩;rw[he];unfold vV;rw[if_pos c1]
  ·simp only[beq_eq_false_iff_ne]at c1;simp only[beq_iff_eq]at c2;have wr:aC ((k:Int)-1)=(k:Int)-1:=wI;refine⟨k,aa,?_⟩;rw[wr];refine⟨aa,aa,x4.tr x7,?_⟩;rw[he];show vV T.2 x z (k+1)=_;rw[vV,if_neg c1,if_pos c2]
  ·simp only[beq_eq_false_iff_ne]at c1 c2;refine⟨?_,x4.tr x7⟩;rw[he];unfold vV;rw[if_neg c1,if_neg c2]
 ·replace c:=lW c;have:n=0:=by omega
  subst this;exact⟨by rw[he];rfl,x4⟩
def aqN(M:Sm)(L:Lv)(ws:List ByteArray):Option Out:=(xC ws).bind λp=>(ks p.2).bind λ_=>some (eI [bI (vV M.T.2 p.1.1 p.1.2 32)],M,L)
def ah8{p:Int×Int}{r:List ByteArray}(h:xC ws=some (p,r)):cH p.1/\cH p.2:=by
 unfold xC at h;split at h
 ·cases h
 ·rename_i x r1 h1;split at h
  ·cases h
  ·rename_i z r2 h2
   cases h
   exact⟨se h1,se h2⟩
def Uh(h:Mc k w F sh g s o t B ga M occ L ws):ab 105 #[sh,ga] w (MR k w ga F g s o t (aqN M L ws)):=by
 apply DU.vc;refine(h.at _).pos λx z r u hp m1 h1 w4 e4 w5 e5=>?_
 have x5:Ext u w5:=Ext.af (aU e4) e5 (ak _);have z5:=yL e4 e5;have hB:=h1.le;obtain⟨hx,hz⟩:=ah8 hp;refine(h1.ext x5).fin λ_ h4=>⟨rfl,?_⟩
 have hb:Row w5.drew u.heap.size [vI x,vI z] 139:=by
  have:Row w5 u.heap.size [vI x,vI z] 139:=by have hr4:Row w4 u.heap.size [ai,ai] 139:=Row.nw e4;rw[e5];exact hr4.set [_,_]
  exact this.ext (Ext.dr w5)
 have h5:=h4.ext (Ext.dr w5);have hsh:=h5.c.r.row;obtain⟨Fs,hS,Eu,-,-⟩:=h5.c.e.EN;obtain⟨Fw,hW,-,-⟩:=hS.world;refine⟨_,h5.ld,cA.2 ⟨rfl,cA.2 ⟨rfl,aB s,Eu,(cZ hS).eL ?_⟩⟩⟩;have ls:∀{v:World},Ext w5.drew v->ah v (ae (aB sh) 0) 0 [g]:=λxv=>by rw[aF];exact(hsh.ext xv).bH (λj _=>by simp)
 refine⟨_,rfl,rfl,hb.bH (o:=1) (λj hj=>by simp at hj;subst hj;rfl),hb.bH (o:=0) (λj hj=>by simp at hj;subst hj;rfl),ls (Ext.bT _),(Zg hW x z hx hz).bf λbr bL=>?_⟩;have hs5:=nV w5;have zx:=bL.size;have hT:=WU M.T.2 x z 32;have px:cH (vV M.T.2 x z 32):=by unfold cH;omega
 have fD:=cF px;have nR:∀t∈[bI (vV M.T.2 x z 32)],t.size<=1000:=λt ht=>by rw[ig.1 ht];omega
 refine⟨_,rfl,bL.k,ls bL,λbN ui=>?_⟩;have cr:=bL.aZ ui;refine(mZ (xs:=[.iface 3 (vI _)]) ui (txs:=[bI (vV M.T.2 x z 32)]) rfl bo (all_cons (gP (h.t _ ((h5.m.mono λi _ hi=>.inr hi).trans (Mod.aq cr))) px) all_nil) nR).bf λbw cJ=>?_
 exact⟨_,rfl,cJ.heap (by rw[ui];simp;omega),ls (cr.tr cJ),h5.same (iL nR bo) (cr.tr cJ)⟩
def akF(M:Sm)(L:Lv)(ws:List ByteArray):Option Out:=(gz ws).bind λn=>(ks n.2).bind λ_=>
 some (if(dJ L n.1).2=true then eI [eI [bI (dJ L n.1).1.aw.1,bI (dJ L n.1).1.aw.2.1,bI (dJ L n.1).1.aw.2.2],eI [bI (dJ L n.1).1.speed.1,bI (dJ L n.1).1.speed.2.1,bI (dJ L n.1).1.speed.2.2],eI [bI (if(dJ L n.1).1.fG then 1 else 0)]]else ByteArray.mk #[110,111,110,101],M,L)
def ah9(h:kx L)(n:Int):(cH (dJ L n).1.aw.1/\cH (dJ L n).1.aw.2.1/\cH (dJ L n).1.aw.2.2)/\cH (dJ L n).1.speed.1/\cH (dJ L n).1.speed.2.1/\cH (dJ L n).1.speed.2.2:=by
 unfold dJ
 cases hy:cE L n with
 |none=>unfold cH adw;decide
 |some y=>
  have hm:y.1.may=true:=h y (by
   unfold cE at hy;split at hy
   ·exact aQ (J6.1 hy)
   ·cases hy)
  obtain⟨-,-,h3,h4⟩:=kj.1 hm;unfold c8 at h3 h4;unfold cH;simp only;omega
def PJ(h:Mc k w F sh g s o t B ga M occ L ws):ab 106 #[sh,ga] w (MR k w ga F g s o t (akF M L ws)):=by
 apply BK.vc;refine(h.at _).num λn r u _ m1 h1=>h1.fin λ_ h2=>⟨_,h2.ld,(J7 h2.c.e n).bf λw4 x4=>?_⟩
 refine⟨_,_,_,_,_,_,_,_,_,_,rfl,λc9 pC bZ CH=>?_⟩;have dw:Ext u bZ:=x4.tr (Ext.af (aU pC) CH (ak _));have z16:=yL pC CH;refine Br.mk (λc=>λcP ug=>?_) (λc=>λeQ wx=>?_)
 ·have c:(dJ L n).2=false:=by simpa using c
  refine(jg ug (.s _) au).bf λdA dc=>?_
  refine⟨_,rfl,dc.heap (by rw[ug];simp;omega),?_⟩;have h3:=h2;simp only[c,Bool.false_eq_true,if_false]at h3;exact h3.same au ((dw.aZ ug).tr dc)
 ·have c:(dJ L n).2=true:=by simpa using c
  obtain⟨⟨f1,f2,f3⟩,s1,s2,s3⟩:=ah9 h.i.b n;have hb:cH (if(dJ L n).1.fG then 1 else 0):=by unfold cH;split<;>decide
  have hT:lP eQ:=h.t _ ((h2.m.mono λi _ hi=>.inr hi).trans (Mod.aq (dw.aZ wx)));have j1:(eI [bI (if(dJ L n).1.fG then 1 else 0)]).size<=1000:=by rw[join_one];exact cV (cF hb) au
  have nR:∀t∈[eI [bI (dJ L n).1.aw.1,bI (dJ L n).1.aw.2.1,bI (dJ L n).1.aw.2.2],eI [bI (dJ L n).1.speed.1,bI (dJ L n).1.speed.2.1,bI (dJ L n).1.speed.2.2],eI [bI (if(dJ L n).1.fG then 1 else 0)]],t.size<=1000:=λt ht=>by
   simp only[cu,iT,or_false]at ht;rcases ht with rfl|rfl|rfl
   ·exact J2 f1 f2 f3
   ·exact J2 s1 s2 s3
   ·exact j1
  refine(mZ (xs:=[.iface 73 (.agg #[_,_,_]),.iface 73 (.agg #[_,_,_]),.iface 4 (.bool _)]) wx (txs:=[eI [bI (dJ L n).1.aw.1,bI (dJ L n).1.aw.2.1,bI (dJ L n).1.aw.2.2],eI [bI (dJ L n).1.speed.1,bI (dJ L n).1.speed.2.1,bI (dJ L n).1.speed.2.2],eI [bI (if(dJ L n).1.fG then 1 else 0)]]) rfl bo (all_cons (Xh hT f1 f2 f3) (all_cons (Xh hT s1 s2 s3) (all_cons (adv hT _) all_nil))) nR).bf λdi fk=>?_
  refine⟨_,rfl,fk.heap (by rw[wx];simp;omega),?_⟩;have h3:=h2;simp only[c,if_true]at h3;exact h3.same (iL nR bo) ((dw.aZ wx).tr fk)
def akG(M:Sm)(L:Lv)(ws:List ByteArray):Option Out:=(ks ws).bind λ_=>some (Xj L,M,L)
def Xk(h:Mc k w F sh g s o t B ga M occ L ws)(hw:ws≠[]){q:Unit->Option Out}{K:wPp}:ab 153 #[ga] w λe u=>IQ (MR k w ga F g s o t ((ks ws).bind q)) e u (e=pz/\K u):=
 (h.at _).fin λq=>absurd q hw
def UF:(Xj L).size<=1000000:=by
 unfold Xj;refine iL (λt ht=>?_) (by rw[aK];have:=UG L;omega);obtain⟨n,hn,rfl⟩:=bc.1 ht;have h0:=xH hn;have:∀n:Fin 100,(ByteArray.mk (Lib.decDigits n.val).toArray).size<=1000:=by decide+kernel
 exact this ⟨n.toNat,aa⟩
def Mb(h:Mc k w F sh g s o t B ga M occ L ws):ab 107 #[sh,ga] w (MR k w ga F g s o t (akG M L ws)):=by
 by_cases hw:ws=[]
 ·subst hw;refine(P8 h.e h.r h.a).bf λu x=>?_
  exact MR.same h UF (Mod.refl _ _) x
 ·apply qT.vc;exact Xk h hw
def J8(n:Int):ByteArray:=if -600000<=n/\n<=600000 then bI n else ByteArray.mk #[]
def akH(M:Sm)(L:Lv)(ws:List ByteArray):Option Out:=(ks ws).bind λ_=>some (eI (wP J8 M.T.2),M,L)
end
def XS{d c0:Ce}{r:Int}:∀(n k:Nat) {s:S3}{h0 h:Hi},wY d c0 k s h0.1->h∈goK d c0 r n s h0->(0<=h0.2.2/\h0.2.2<=4294967296*(k+1))->0<=h.2.2/\h.2.2<=4294967296*(k+n+1)
 |0,k,s,h0,h,hr,hm,h1=>by cases hm
 |n+1,k,s,h0,h,hr,hm,h1=>by
  unfold goK at hm
  split at hm
  ·rcases cu.1 hm with rfl|hm
   ·omega
   ·cases hq:iU d s h0 with
    |none=>rw[hq]at hm;cases hm
    |some q=>
     rw[hq]at hm
     have h2:=Rl hr hq
     have h3:0<=q.2.2.2/\q.2.2.2<=4294967296*((k+1:Nat)+1):=by
      have ha:=at3 s;have hs:=Rm (a:=eM s 3) hr aa;unfold iU at hq;split at hq
      ·cases hq
      ·rename_i gl;injection hq with hq;rw[<-hq];simp only;have hp:0<=(iz s (eM s 3)).1*65536:=by have:=hs.2.1.1;omega
       have hle:(iz s (eM s 3)).1*65536/(iz s (eM s 3)).2<=(iz s (eM s 3)).1*65536:=Int.ediv_le_self _ hp;have S5:0<=(iz s (eM s 3)).1*65536/(iz s (eM s 3)).2:=Int.ediv_nonneg hp (by rw[hs.1];unfold yh;omega);have:=hs.2.1.2;omega
     have:=XS n (k+1) h2 hm h3;omega
  ·cases hm
def aiP{M:Sm}{L:lCs}{m:Int}(hL:ES m L)(hm:m<=99970000000000)(n:Int)(gE:Ce):(cH (cM M L n gE).1.1.1/\cH (cM M L n gE).1.1.2.1/\cH (cM M L n gE).1.1.2.2)/\cH (cM M L n gE).1.2.2.1/\cH (cM M L n gE).1.2.2.2:=by
 by_cases h0:(cM M L n gE).2=0
 ·have hn:=(Cr hL hm h0).1;obtain⟨y,-,-,hc,-⟩:=Ro h0;have hh:=Rp (by rw[aiQ];decide) hc;have ht:0<=(cM M L n gE).1.2.2.2/\(cM M L n gE).1.2.2.2<=4294967296*40:=by
   unfold lh at hc;split at hc
   ·rename_i h hf;injection hc with hc;rw[<-hc];have pL:=G6 hf;unfold lj at pL;have hb:=Kx (eN (pk y.1)) (j9 gE) (λi hi=>by
     have:i=0\/i=1\/i=2:=by omega
     unfold j9 wZ dj;rcases this with rfl|rfl|rfl<;>simp<;>omega)
    have:=XS _ 0 hb pL ⟨jI 0,(by show(0:Int)<=4294967296*((0:Nat)+1);decide)⟩;have e5:=aiQ;rw[e5]at this;simp only;omega
   ·injection hc with _ hc
    cases hc
  unfold jL at hn;unfold cH;omega
 ·have e:(cM M L n gE).1=Vs:=by
   unfold cM at h0⊢
   cases hq:cE L n with
   |none=>rfl
   |some y=>
    rw[hq]at h0;simp only at h0⊢;split
    ·rfl
    ·rename_i q2;split
     ·rfl
     ·rename_i q3;rw[if_neg q2,if_neg q3]at h0;exact absurd rfl h0
  rw[e];unfold Vs cH;decide
section
variable{k:Nat}{w w0:World}{F:Nat->Prop}{sh g s o t B ga:Nat}{M:Sm}{occ:Value}{L:Lv}{ws:List ByteArray}{R:eWp}
def Rq(h:Rr):List ByteArray:=[kE h.2.1,bI h.1.1,bI h.1.2.1,bI h.1.2.2,bI h.2.2.1,bI h.2.2.2]
def akE(M:Sm)(L:Lv)(ws:List ByteArray):Option Out:=(gz ws).bind λn=>(kI n.2).bind λv=>(ks v.2).bind λ_=>
 some (if(cM M L n.1 v.1).2=0 then eI (Rq (cM M L n.1 v.1).1)else iX (cM M L n.1 v.1).2,M,L)
def PI(h:Mc k w F sh g s o t B ga M occ L ws):ab 103 #[sh,ga] w (MR k w ga F g s o t (akE M L ws)):=by
 apply Cs.vc;refine(h.at _).num λn r u _ m1 h1=>h1.vec λx y z r2 u2 _ m2 h2 w4 e4 w5 e5=>?_
 have x5:Ext u2 w5:=Ext.af (aU e4) e5 (ak _);have z5:=yL e4 e5;have hB:=h2.le;have IB:=h2.m.size;have h5:=h2.ext x5;have hz5:=h5.m.size;refine h5.fin λ_ h4=>⟨rfl,?_⟩
 have h6:=h4.ext (Ext.dr w5);have d5:=nV w5;have L6:=vL h6.c.e h.ok au n (x,y,z);generalize hl:cM M L n (x,y,z)=l at*;have px:=aiP (M:=M) h.ok au n (x,y,z);rw[hl]at px;have her:er l.2:=hl▸Nh M L n (x,y,z);refine⟨λe p v=>Ext w5.drew v/\e=l.2/\∃b,p=aB b/\Row v b [l.1.1.1,l.1.1.2.1,l.1.1.2.2,l.1.2.1,l.1.2.2.1,l.1.2.2.2] 184,⟨_,h6.ld,L6.mono ?_,?_⟩,?_⟩
 ·rintro _ bE ⟨rfl,bS⟩;refine⟨_,_,_,_,_,_,_,rfl,bS.k,λfm Td eQ wx=>⟨rfl,?_,rfl,_,rfl,?_⟩⟩
  ·exact bS.tr (Ext.af (aU Td) wx (ak _))
  ·rw[wx];exact Row.set (by rw[Td];exact Row.new _ [_,_,_,_,_,_] _) _
 ·intro di vq;have fk:=aU vq;have z21:=fD vq;refine((hl▸vL (h6.ext fk).c.e h.ok au n (x,y,z))).bf λdh fX=>?_
  have z22:=fX.size;refine⟨_,_,_,_,_,_,_,rfl,fX.k,fX.k,λpw e30=>⟨rfl,?_,rfl,_,rfl,?_⟩⟩
  ·exact Ext.af (fk.tr fX) e30 (ak _)
  ·rw[e30];exact Row.set ((show Row di w5.drew.heap.size _ _ by rw[vq];exact Row.new _ [_,_,_,_,_,_] _).ext fX) _
 ·rintro us e p v ⟨xv,rfl,b,rfl,hr⟩;have hv:=hr.ext (Ext.dr v);have lr:∀{u:World},Ext v.drew u->∀j:Nat,∀a,[vI l.1.1.1,l.1.1.2.1,l.1.1.2.2,l.1.2.1,l.1.2.2.1,l.1.2.2.2][j]? =some a->Vc.ld u (jM b j)=some a:=λxu j a ha=>by rw[(hv.ext xu).ld];exact ha
  have zv:=xv.size;have dv:v.drew.heap.size=v.heap.size:=rfl;have lL:∀{u:World},Ext v.drew u->∀j:Nat,∀a,[vI l.1.1.1,l.1.1.2.1,l.1.1.2.2,l.1.2.1,l.1.2.2.1,l.1.2.2.2][j]? =some a->ah u (jM b j) 0 [a]:=λxu j a ha=>(hv.ext xu).bH (o:=j) (vs:=[a]) (λi hi=>by simp at hi;subst hi;simpa using ha)
  simp only[aF];refine cA.2 ⟨rfl,_,lr (Ext.bT _) 3 _ rfl,cA.2 ⟨rfl,cA.2 ⟨rfl,_,lr (Ext.bT _) 0 _ rfl,cA.2 ⟨rfl,cA.2 ⟨rfl,_,lr (Ext.bT _) 1 _ rfl,cA.2 ⟨rfl,cA.2 ⟨rfl,_,lr (Ext.bT _) 2 _ rfl,cA.2 ⟨rfl,_,lr (Ext.bT _) 4 _ rfl,cA.2 ⟨rfl,_,lr (Ext.bT _) 5 _ rfl,(kl _ v.drew).bf λkO kA=>?_⟩⟩⟩⟩⟩⟩⟩⟩⟩;have z41:=kA.size;have nb:u2.heap.size<v.heap.size:=by omega
  refine⟨_,rfl,kA.k,lL kA 5 _ rfl,lL kA 4 _ rfl,lL kA 2 _ rfl,lL kA 1 _ rfl,lL kA 0 _ rfl,λiO Yn=>?_⟩;have vU:=kA.aZ Yn;obtain⟨⟨i1,i2,i3⟩,i4,i5⟩:=px;have nR:∀t∈Rq l.1,t.size<=1000:=λt ht=>by have a0:=yi l.1.2.1;have a1:=cF i1;have a2:=cF i2;have a3:=cF i3;have a4:=cF i4;have a5:=cF i5;unfold Rq at ht;simp only[cu,iT,or_false]at ht;rcases ht with rfl|rfl|rfl|rfl|rfl|rfl<;>omega
  have hT:∀{u:World},Ext v.drew u->lP u:=λxu=>h.t _ ((h6.m.mono λi _ hi=>.inr hi).trans (Mod.aq ((xv.tr (Ext.dr v)).tr xu)))
  refine(Ur her (xs:=[.iface 9 (.string _),.iface 3 (vI _),.iface 3 (vI _),.iface 3 (vI _),.iface 3 (vI _),.iface 3 (vI _)]) Yn (txs:=Rq l.1) rfl bo (λ_ u xu=>all_cons (.s _) (all_cons (gP (hT (vU.tr xu)) i1) (all_cons (gP (hT (vU.tr xu)) i2) (all_cons (gP (hT (vU.tr xu)) i3) (all_cons (gP (hT (vU.tr xu)) i4) (all_cons (gP (hT (vU.tr xu)) i5) all_nil)))))) nR).bf λkf qE=>?_
  have xx:=vU.tr qE;refine⟨_,rfl,qE.heap (by rw[Yn];simp;omega),lL xx 5 _ rfl,lL xx 4 _ rfl,lL xx 2 _ rfl,lL xx 1 _ rfl,lL xx 0 _ rfl,?_⟩;refine h6.same ?_ ((xv.tr (Ext.dr v)).tr xx);split
  ·exact iL nR (by simp[Rq])
  ·exact fi _
end
section
variable{k:Nat}{w w0:World}{F:Nat->Prop}{sh g s o t B ga:Nat}{M:Sm}{occ:Value}{L:Lv}{ws:List ByteArray}{R:eWp}
def akI(M:Sm)(L:Lv)(ws:List ByteArray):Option Out:=(gz ws).bind λn=>(ks n.2).bind λ_=>(adV (decide (n.1>=1)&&decide (n.1<=100))).bind λ_=>
 some (eI [bI (fJ n.1.toNat M L).1,bI (fJ n.1.toNat M L).2.1.now],(fJ n.1.toNat M L).2.1,(fJ n.1.toNat M L).2.2)
def PK(h:Mc k w F sh g s o t B ga M occ L ws):ab 109 #[sh,ga] w (MR k w ga F g s o t (akI M L ws)):=by
 apply Ck.vc;refine(h.at _).num λn r u _ m1 h1=>h1.fin λ_ h2=>Br.mk (λc=>?_) (λc=>?_)
 ·have c1:1<=n:=of_decide_eq_true c;refine h2.amt (b:=decide (n<=100)) (by rw[c];rfl) λhb h3=>?_
  have c2:n<=100:=of_decide_eq_true hb;have hk:=h.z;have hsh:=h3.c.r.row;have fK:=hsh.lt;have shell:∀{v:World},Mod F u v->Vc.ld v (ae (aB sh) 0)=some (.pointer (aB g)):=λm=>by rw[aF,(hsh.same (m.same sh fK h.q)).ld];rfl
  refine⟨λm x y v=>∃j:Nat,x=j/\y=(fJ j M L).1/\(j:Int)+m=n/\∃occ',dK F u g s o t (fJ j M L).2.1 occ' (fJ j M L).2.2 v,⟨n.toNat,0,rfl,rfl,aa,occ,h3.c.e.res (Ext.bT _)⟩,?_⟩;rintro m us x y v ⟨j,rfl,rfl,hj,occ',hr⟩;obtain⟨hJ,ht1,ht2⟩:=h.i.ak6 j;obtain⟨F',hE,ht⟩:=id hr;have hs:qB (fJ j M L).2.1 600000000:=hJ.s.mono aa;apply Br.mk<;>intro c
  ·have c:(j:Int)<n:=of_decide_eq_true c;refine⟨_,shell hr.mod,(Kg hE hJ.b.ok au au hJ.n.due hs hJ.u).mono ?_⟩;rintro _ bN ⟨rfl,jT,-⟩;have hl:=EZ (q:=(fJ j M L).2.1.q) (now:=qC (fJ j M L).2.1) hJ.u;have TE:(uO (fJ j M L).2.1).length<=64:=hl;refine⟨_,rfl,m-1,aa,j+1,by rw[wI];omega,?_,aa,_,dK.tr ht jT⟩;rw[wI];rfl
  ·have c:¬(j:Int)<n:=of_decide_eq_false c;have hj0:n.toNat=j:=by omega
   obtain⟨Fs,hS,Eu,-,-⟩:=hE.EN;refine⟨_,shell hr.mod,cA.2 ⟨rfl,cA.2 ⟨rfl,aB s,Eu,(Cz hS).eL ?_⟩⟩⟩;have i1:cH (fJ j M L).1:=by unfold cH;omega
   have i2:cH (fJ j M L).2.1.now:=by have:=hs.now;unfold cH;omega
   have s1:=cF i1;have s2:=cF i2;have nR:∀t∈[bI (fJ j M L).1,bI (fJ j M L).2.1.now],t.size<=1000:=λt ht=>by simp only[cu,iT,or_false]at ht;rcases ht with rfl|rfl<;>omega
   refine⟨_,rfl,λdA Ot=>?_⟩;have hT:lP dA:=h.t _ (((h3.m.mono λi _ hi=>.inr hi).trans (hr.mod.mono λi _ hi=>.inl hi)).trans (Mod.aq (aU Ot)));refine(mZ (xs:=[.iface 3 (vI _),.iface 3 (vI _)]) Ot (txs:=[bI (fJ j M L).1,bI (fJ j M L).2.1.now]) rfl bo (all_cons (gP hT i1) (all_cons (gP hT i2) all_nil)) nR).bf λfm dQ=>?_
   refine⟨_,rfl,?_⟩;have h4:=h3;simp only[hj0]at h4;exact h4.TL (iL nR bo) (hJ.inv aa) hr ((aU Ot).tr dQ)
 ·exact h2.amt (b:=false) (by rw[c];rfl) λhb=>by cases hb
def jP(ws:List ByteArray):Option Out:=(kI ws).bind λv=>(ks v.2).bind λ_=>some (ByteArray.mk #[111,107],FO v.1.1 v.1.2.1 200000 v.1.2.2,OT)
def anp(room:Int):KR (T9 room):=λx hx=>by rcases hx with hx|hx<;>cases hx
def Inv.new(a b c:Int)(k:Nat):Inv k (FO a b 200000 c) OT:=
 ⟨λy hy=>(by cases (Pd.1 hy).2),⟨⟨jI 0,by simp only;omega⟩,eG _,⟨jI 0,(by show(0:Int)<=1099511627776;decide)⟩,eG _⟩,⟨⟨λe he=>(by cases he),eG _,anp _⟩,λx hx=>(by cases hx),jI 0,(by show(0:Int)<=1099511627776;decide)⟩,by show 1<=min (max c 1) 64/\min (max c 1) 64<=64;omega⟩
def YV(h:Mc k w F sh g s o t B ga M occ L ws)(hw:jP ws=none):ab 86 #[sh,ga] w λe u=>e=Io/\Mod (λi=>i=ga) w u:=by
 have key:ab 86 #[sh,ga] w (MR k w ga F g s o t ((gz ws).bind λa=>(gz a.2).bind λb=>(gz b.2).bind λc=>(ks c.2).bind λ_=>none)):=by
  apply qi.vc;refine(h.at _).num λa r u h1 m1 q1=>q1.num λb r2 u2 h2 m2 q2=>q2.num λc r3 u3 h3 m3 q3=>q3.fin λhr q4=>?_
  exfalso;unfold jP kI at hw;simp only[h1,h2,h3,hr]at hw
  cases hw
 refine key.mono λe u hr=>?_
 generalize hp:((gz ws).bind λa=>(gz a.2).bind λb=>(gz b.2).bind λc=>(ks c.2).bind λ_=>(none:Option Out))=p at hr;have:p=none:=by
  rw[<-hp]
  cases gz ws with
  |none=>rfl
  |some a=>
   show(gz a.2).bind _=none
   cases gz a.2 with
   |none=>rfl
   |some b=>
    show(gz b.2).bind _=none
    cases gz b.2 with
    |none=>rfl
    |some c=>
     show(ks c.2).bind _=none
     cases ks c.2<;>rfl
 subst this;exact hr
end
section
variable{k:Nat}{w w0 u u':World}{F:Nat->Prop}{sh g s o t B ga:Nat}{M:Sm}{occ:Value}{L:Lv}{ws r:List ByteArray}{line c:ByteArray}{T:ByteArray}
def aqL(h:EF F w g s o t M occ L):∃F1,TF F1 w t M.aj M.cap M.T/\∀{w':World}{T':Tb},Fy F1 w t M.aj M.cap T' w'->dK F w g s o t {M with T:=T'} occ L w':=by obtain⟨Fw,hW,bq⟩:=h.world;obtain⟨F1,hT,-,hrt⟩:=hW.table;exact⟨F1,hT,λhr=>bq (hrt hr)⟩
def L3(h:EF F w g s o t M occ L)(hW:M.T.1.l.length<=1000000)(p:Po):
  ab 89 #[t,pv p] w λe w'=>e=vI (oa M.T.1 M.T.2 p).2/\dK F w g s o t {M with T:=(oa M.T.1 M.T.2 p).1} occ L w':=by
 obtain⟨F1,hT,bq⟩:=aqL h;exact(IJ hT hW p).mono λe w' hh=>⟨hh.1,bq hh.2⟩
def JQ(h:EF F w g s o t M occ L)(hp:∀y∈M.T.2,-1000000000<=y.2.2.2/\y.2.2.2<=1000000000)(p:Po):
  (ab 91 #[t,pv p] w λe w'=>e=vI (zq M.T.2 p).2/\dK F w g s o t {M with T:=(M.T.1,(zq M.T.2 p).1)} occ L w')/\
  ab 92 #[t,pv p] w λe w'=>e=vI (kY M.T.2 p).2/\dK F w g s o t {M with T:=(M.T.1,(kY M.T.2 p).1)} occ L w':=by
 obtain⟨F1,hT,bq⟩:=aqL h;obtain⟨st,d,r,sl,its,g1,e,rfl⟩:=hT;have hp':∀y∈its,-1000000000<=y.pins/\y.pins<=1000000000:=λy hy=>hp y.ob (by rw[<-e];exact bc.2 ⟨y,hy,rfl⟩)
 rw[<-e];exact⟨(ac7 g1 hp' p).mono λe w' hh=>⟨hh.1,bq (wK hh.2)⟩,(Ue g1 hp' p).mono λe w' hh=>⟨hh.1,bq (wK hh.2)⟩⟩
def amc(j:Nat)(M:Sm)(p:Po):Int×Sm:=match j with
 |0=>((yO M.aj M.cap M.T.1 M.T.2 p).2,{M with T:=(yO M.aj M.cap M.T.1 M.T.2 p).1})
 |1=>((oa M.T.1 M.T.2 p).2,{M with T:=(oa M.T.1 M.T.2 p).1})
 |2=>((TK M.T.1 M.T.2 p).2,{M with T:=(TK M.T.1 M.T.2 p).1})
 |3=>((zq M.T.2 p).2,{M with T:=(M.T.1,(zq M.T.2 p).1)})
 |_=>((kY M.T.2 p).2,{M with T:=(M.T.1,(kY M.T.2 p).1)})
def YT(j:Nat)(M:Sm)(L:Lv)(r:List ByteArray):Option Out:=match xC r with|some (p,[])=>some (iX (amc j M p).1,(amc j M p).2,L)|_=>none
def uE(hl:line.size<=4294967296)(hw:cT line=c::r)(j:Nat)(hj:j<5)(hi:uF[j+1]? =some c):kH k line M L ((YT j M L r).getD (kZ,M,L)):=by
 refine kH.tbl hl hw j hj hi (amc j M) λ{w F g s o t occ} h hI hk p=>?_
 have hd:=hI.d hk;have hT:=hI.n.1;have ht:∀{T'},nI k (20*k+1) T'->Inv (k+1) {M with T:=T'} L:=λq=>hI.tab (q.mono aa aa)
 have hp:∀y∈M.T.2,-1000000000<=y.2.2.2/\y.2.2.2<=1000000000:=λy hy=>by obtain⟨-,q1,q2⟩:=hT.e y hy;omega
 have:j=0\/j=1\/j=2\/j=3\/j=4:=by omega
 rcases this with rfl|rfl|rfl|rfl|rfl
 ·exact⟨ahS ..,ht (hT.load (D:=M.T.1) (l:=M.T.2) p),bR (by kernel_rfl) rfl (FM h aa p)⟩
 ·exact⟨YU ..,ht (hT.ame (D:=M.T.1) (l:=M.T.2) p),bR (by kernel_rfl) rfl (L3 h aa p)⟩
 ·exact⟨ac8 ..,ht (hT.flush (D:=M.T.1) (l:=M.T.2) p),bR (by kernel_rfl) rfl (PD h aa p)⟩
 ·exact⟨(ac9 ..).1,hI.tab ((hT.pin (D:=M.T.1) (l:=M.T.2) p).mono aa aa),bR (by kernel_rfl) rfl (JQ h hp p).1⟩
 ·exact⟨(ac9 ..).2,hI.tab ((hT.aqM (D:=M.T.1) (l:=M.T.2) p).mono aa aa),bR (by kernel_rfl) rfl (JQ h hp p).2⟩
def Uf(hl:line.size<=4294967296)(hw:cT line=ByteArray.mk #[119,111,114,108,100]::r):kH k line M L ((jP r).getD (kZ,M,L)):=by
 intro w0 w F sh g s o t occ hk hT hx hF0 hsh0 h hs hF hI;have lE:=hs.row.lt;have hz:=hx.size;have nR:((jP r).getD (kZ,M,L)).1.size<=1000000:=by
  cases hq:jP r with
  |none=>show kZ.size<=1000000;decide
  |some x=>
   unfold jP at hq
   cases h1:kI r with
   |none=>rw[h1]at hq;cases hq
   |some v=>
    rw[h1]at hq
    cases h2:ks v.2 with
    |none=>simp only[Option.bind_some,h2]at hq;cases hq
    |some _=>simp only[Option.bind_some,h2]at hq;cases hq;show(ByteArray.mk #[111,107]).size<=1000000;decide
 refine(JR h hs line hl hw 0 86 rfl (λ_ _ _ _ _=>rfl) (λargs w=>j5 Tryz.func86 (by kernel_rfl) rfl args w)
  (λtx u=>tx=((jP r).getD (kZ,M,L)).1/\∃g' s' o' t' occ' F',EF F' u g' s' o' t' ((jP r).getD (kZ,M,L)).2.1 occ' ((jP r).getD (kZ,M,L)).2.2/\FN u sh g'/\¬F' sh/\Mod (λi=>F i\/i=sh) w u/\(∀i,F' i->F i\/w.heap.size<i)/\Inv (k+1) ((jP r).getD (kZ,M,L)).2.1 ((jP r).getD (kZ,M,L)).2.2) ?_ ?_).mono ?_
 ·rintro t' v v' ⟨rfl,g',s',o',t',occ',F',hE,hS,hn,hm,dP,hI'⟩ hm';have nF:¬F' w:=λq=>(dP _ q).elim (λq=>by have:=h.lt q;omega) (λq=>by omega)
  exact⟨rfl,g',s',o',t',occ',F',hE.same λi hi=>hm'.same i (hE.lt hi) (λq=>nF (q▸hi)),⟨hS.row.same (hm'.same sh hS.row.lt aa)⟩,hn,hm.tr hm' (λi hi=>.inr aa),dP,hI'⟩
 ·intro v B ga xv DA hga;have hgl:=DA.lt;have hle:=DA.le;have hFga:¬F ga:=λq=>by have:=h.lt q;omega
  have hzv:=xv.size;have hc:Mc k v F sh g s o t B ga M occ L r:=⟨h.ext xv,⟨hs.row.ext xv⟩,DA,hFga,aa,hI,λu m=>W4 hT (hx.tr xv) m λi hi=>hi.elim (hF0 i) (λq=>by omega),hk,hF⟩
  cases hq:jP r with
  |none=>
   refine(YV hc hq).bf λv' m=>?_
   refine⟨m.same _ aa aa,.inr ⟨rfl,rfl,g,s,o,t,occ,F,hc.ef m,⟨hc.r.row.same (m.same sh hc.r.row.lt aa)⟩,hF,(Mod.aq xv).tr m (λi hi=>.inr aa),λi hi=>.inl hi,hI.up⟩⟩
  |some x=>
   have hp:∃a b c,kI r=some ((a,b,c),[])/\x=(ByteArray.mk #[111,107],FO a b 200000 c,OT):=by
    unfold jP at hq
    cases h1:kI r with
    |none=>rw[h1]at hq;cases hq
    |some y=>
     obtain⟨⟨a,b,c⟩,r'⟩:=y;rw[h1]at hq;by_cases h2:r'=[]
     ·subst h2
      cases hq
      exact⟨a,b,c,rfl,rfl⟩
     ·have:ks r'=none:=by unfold ks;rw[if_neg h2]
      simp only[Option.bind_some,this]at hq
      cases hq
   obtain⟨a,b,c,hp,rfl⟩:=hp;refine(L4 (w:=v) ⟨hs.row.ext xv⟩ DA aa hp).mono ?_;rintro e v' ⟨rfl,hm,g',s',o',t',F',hE,hS,hF'⟩;exact⟨hm.same _ aa aa,.inl ⟨_,rfl,rfl,g',s',o',t',PE,F',hE,hS,λq=>by have:=hF' _ q;omega,(Mod.aq xv).tr hm (λi hi=>by rcases hi with hi|hi;exact .inr aa;exact .inl (.inr hi)),λi hi=>.inr (by have:=hF' i hi;omega),Inv.new a b c _⟩⟩
 ·rintro e w' ⟨t',rfl,rfl,g',s',o',t',occ',F',hE,hS,hn,hm,dP,hI'⟩;exact⟨rfl,nR,g',s',o',t',occ',F',hE,hS,hn,hm,λi hi=>(dP i hi).imp id (λq=>by omega),hI'⟩
noncomputable def amf(i:Nat)(M:Sm)(L:Lv)(r:List ByteArray):Option Out:=match i with
 |0=>jP r
 |1=>YT 0 M L r
 |2=>YT 1 M L r
 |3=>YT 2 M L r
 |4=>YT 3 M L r
 |5=>YT 4 M L r
 |6=>JS M L r
 |7=>akz M L r
 |8=>ada M r
 |9=>akA M L r
 |10=>adb M L r
 |11=>akB M L r
 |12=>akC M L r
 |13=>ade M L r
 |14=>akD M L r
 |15=>adf M L r
 |16=>akE M L r
 |17=>YX M L r
 |18=>aqN M L r
 |19=>akF M L r
 |20=>akG M L r
 |21=>akH M L r
 |22=>akI M L r
 |_=>none
open Classical in
noncomputable def uH(M:Sm)(L:Lv)(ws:List ByteArray):Out:=match ws with
 | []=>(ByteArray.mk #[],M,L)
 |c::r=>(if h:∃i:Nat,uF[i]? =some c then amf (Classical.choose h) M L r else none).getD (kZ,M,L)
def YZ{i:Nat}(hi:uF[i]? =some c):uH M L (c::r)=(amf i M L r).getD (kZ,M,L):=by have h:∃i:Nat,uF[i]? =some c:=⟨i,hi⟩;unfold uH;simp only;rw[dif_pos h];have e:Classical.choose h=i:=(List.getElem?_inj (cG.1 (Classical.choose_spec h)).1 l8).1 ((Classical.choose_spec h).trans hi.symm);rw[e]
end
set_option linter.unusedVariables false
def Tn(c:Int)(x y:Out):Prop:=y.1=x.1/\x.2.1.cap=c/\∃T',y.2=(eB x.2.1 T',x.2.2)/\mr x.2.1.T.2 T'.2/\wa x.2.2
def abY(c:Int)(o o':Option Out):Prop:=(o=none/\o'=none)\/∃x y,o=some x/\o'=some y/\Tn c x y
def abY.bind{α:Type}{a:Option α}{f g:α->Option Out}{c:Int}(h:∀x,a=some x->abY c (f x) (g x)):abY c (a.bind f) (a.bind g):=by
 cases a with
 |none=>exact .inl ⟨rfl,rfl⟩
 |some x=>exact h x rfl
def eD(ws:List ByteArray):List Int:=ws.filterMap λt=>if(zX t).2 then some (zX t).1 else none
def Cx(c:ByteArray)(r:List ByteArray):Prop:=2<=(eD r).length->
 ((c=ByteArray.mk #[97,116]\/c=ByteArray.mk #[101,100,105,116])->(eD r).getD 0 0<=40/\-40<=(eD r).getD (min ((eD r).length-1) 2) 0)/\
 (c=ByteArray.mk #[116,111,112]->(eD r).getD 0 0<=40/\-40<=(eD r).getD 1 0)
def uT{r r':List ByteArray}{x:Int}(h:gz r=some (x,r')):eD r=x::eD r':=by
 unfold gz at h
 cases r with
 |nil=>cases h
 |cons t q=>
  simp only[Da]at h;split at h
  ·rename_i hb
   cases h
   unfold eD;rw[List.filterMap_cons,if_pos hb]
  ·cases h
def abZ{r r':List ByteArray}{v:Ce}(h:kI r=some (v,r')):∃l,eD r=v.1::v.2.1::v.2.2::l:=by
 unfold kI at h;split at h
 ·cases h
 ·rename_i x r1 h1;split at h
  ·cases h
  ·rename_i y r2 h2;split at h
   ·cases h
   ·rename_i z r3 h3
    cases h
    exact⟨_,by rw[uT h1,uT h2,uT h3]⟩
def ab0{r r':List ByteArray}{v:Int×Int}(h:xC r=some (v,r')):∃l,eD r=v.1::v.2::l:=by
 unfold xC at h;split at h
 ·cases h
 ·rename_i x r1 h1;split at h
  ·cases h
  ·rename_i z r2 h2
   cases h
   exact⟨_,by rw[uT h1,uT h2]⟩
def Cx.vec{c:ByteArray}{r r':List ByteArray}{v:Ce}(h:Cx c r)(hc:c=ByteArray.mk #[97,116]\/c=ByteArray.mk #[101,100,105,116])(hv:kI r=some (v,r')):Ea v:=by
 obtain⟨l,e⟩:=abZ hv;unfold Cx at h;rw[e]at h;have q:=(h bo).1 hc;have e2:min ((v.1::v.2.1::v.2.2::l).length-1) 2=2:=by simp only[cL];omega
 rw[e2]at q;have q1:v.1<=40:=q.1;have q2: -40<=v.2.2:=q.2;omega
def Cx.pos{r r':List ByteArray}{v:Int×Int}(h:Cx (ByteArray.mk #[116,111,112]) r)(hv:xC r=some (v,r')):v.1<=40/\-40<=v.2:=by obtain⟨l,e⟩:=ab0 hv;unfold Cx at h;rw[e]at h;exact(h bo).2 rfl
section
variable{M:Sm}{T:Tb}{L:Lv}{r:List ByteArray}
def XF{l l':List En}(h:mr l l'){x z:Int}(hx:x<48/\-48<=z):∀n:Nat,vV l' x z n=vV l x z n
 |0=>rfl
 |n+1=>by
  unfold vV
  rw[<-h.v (x,((n:Nat):Int),z) hx.1 hx.2,XF h hx n]
def Eh(M:Sm)(L:Lv)(c:Ce)(b:Int):(iA M L c b).2.cap=M.cap:=by unfold iA;split<;>rfl
def Z0(M:Sm)(L:Lv)(n:Int)(gE:Ce)(b:Int):(sW M L n gE b).2.cap=M.cap:=by
 unfold sW
 repeat' split
 all_goals first|rfl|exact Eh ..
def acy(M:Sm)(L:Lv)(n:Int)(gE:Ce):(mE M L n gE).2.cap=M.cap:=by
 unfold mE
 repeat' split
 all_goals first|rfl|exact Eh ..
def RS:List Nat:=[10,11,12,13,14,15,16,17,18,19,20,22]
def acz(h:mr M.T.2 T.2)(hR:wa L)(hL:kx L){i:Nat}(hi:i∈RS){c:ByteArray}(hc:uF[i]? =some c)(hf:Cx c r)(ht:i=22->r=[ByteArray.mk #[49]]):abY M.cap (amf i M L r) (amf i (eB M T) L r):=by
 have same:∀t,abY M.cap (some (t,M,L)) (some (t,eB M T,L)):=λt=>.inr ⟨_,_,rfl,rfl,rfl,rfl,T,rfl,h,hR⟩
 unfold RS at hi;simp only[cu,iT,or_false]at hi;rcases hi with rfl|rfl|rfl|rfl|rfl|rfl|rfl|rfl|rfl|rfl|rfl|rfl
 ·refine .bind λv _=>.bind λa _=>.bind λb _=>.bind λ_ _=>?_
  obtain⟨e,r'⟩:=aaE h hR (nK v.1 a.1 b.1);rw[e];exact .inr ⟨_,_,rfl,rfl,rfl,rfl,T,rfl,h,r'⟩
 ·exact .bind λx _=>.bind λ_ _=>.inr ⟨_,_,rfl,rfl,rfl,rfl,T,rfl,h,acA hR _⟩
 ·exact .bind λn _=>.bind λx _=>.bind λz _=>.bind λj _=>.bind λ_ _=>.bind λ_ _=>.inr ⟨_,_,rfl,rfl,rfl,rfl,T,rfl,h,acB hR _ _⟩
 ·refine .bind λn _=>.bind λv _=>.bind λb _=>.bind λ_ _=>?_
  obtain⟨T',e,t⟩:=aaL h hR n.1 v.1 b.1;rw[e];exact .inr ⟨_,_,rfl,rfl,rfl,Z0 ..,T',rfl,t,hR⟩
 ·cases hc
  refine .bind λv hv=>.bind λb _=>.bind λ_ _=>?_
  obtain⟨T',e,t⟩:=El h (hf.vec (.inr rfl) hv) L b.1;rw[e];exact .inr ⟨_,_,rfl,rfl,rfl,Eh ..,T',rfl,t,hR⟩
 ·refine .bind λn _=>.bind λv _=>.bind λ_ _=>?_
  obtain⟨T',e,t⟩:=aaO h hR n.1 v.1;rw[e];exact .inr ⟨_,_,rfl,rfl,rfl,acy ..,T',rfl,t,hR⟩
 ·refine .bind λn _=>.bind λv _=>.bind λ_ _=>?_
  rw[IK h hR];exact same _
 ·cases hc
  refine .bind λv hv=>.bind λ_ _=>?_
  have q:=hf.vec (.inl rfl) hv;rw[show jc (eB M T).T.2 v.1=jc M.T.2 v.1 from(h.v v.1 aa aa).symm];exact same _
 ·cases hc
  refine .bind λv hv=>.bind λ_ _=>?_
  have q:=hf.pos hv;rw[show vV (eB M T).T.2 v.1.1 v.1.2 32=vV M.T.2 v.1.1 v.1.2 32 from XF h aa 32];exact same _
 ·exact .bind λn _=>.bind λ_ _=>same _
 ·exact .bind λ_ _=>same _
 ·obtain rfl:=ht rfl;obtain⟨T',e,t,r'⟩:=ab1 h hL hR;have e1:∀M:Sm,amf 22 M L [ByteArray.mk #[49]]=some (eI [bI (0+((uO M).length:Int)),bI (zS M L).1.now],(zS M L).1,(zS M L).2):=λM=>by show akI M L _=_;unfold akI;rw[show gz [ByteArray.mk #[49]]=some (1,[])by kernel_rfl];rfl
  rw[e1,e1,e];exact .inr ⟨_,_,rfl,rfl,rfl,aaP _ _,T',rfl,t,r'⟩
def ab3(h:mr M.T.2 T.2)(hR:wa L)(hL:kx L){i:Nat}(hi:i∈RS){c:ByteArray}(hc:uF[i]? =some c)(hf:Cx c r)(ht:i=22->r=[ByteArray.mk #[49]]):Tn M.cap (uH M L (c::r)) (uH (eB M T) L (c::r)):=by
 rw[YZ hc,YZ hc];rcases acz h hR hL hi hc hf ht with⟨e,e'⟩|⟨x,y,e,e',q⟩
 ·rw[e,e'];exact⟨rfl,rfl,T,rfl,h,hR⟩
 ·rw[e,e'];exact q
def acC{j:Nat}{p:Po}(h:mr M.T.2 T.2)(hj:j=0/\Fa p\/j=1/\Fa p\/j=2)(hc:9<=M.cap)(hg:o0 (amc j (eB M T) p).2.T.2):∃T',(amc j (eB M T) p).2=eB M T'/\mr M.T.2 T'.2:=by
 rcases hj with⟨rfl,hp⟩|⟨rfl,hp⟩|rfl
 ·exact⟨_,rfl,afA h hp hc hg⟩
 ·exact⟨_,rfl,ab4 h hp hg⟩
 ·exact⟨_,rfl,afH h hg⟩
def aaT(h:mr M.T.2 T.2){t:ByteArray}(hg:o0 ((JS (eB M T) L []).getD (t,eB M T,L)).2.1.T.2):∃T',((JS (eB M T) L []).getD (t,eB M T,L)).2=(eB M T',L)/\mr M.T.2 T'.2:=⟨_,rfl,aaZ h hg⟩
end
def u0{sh g:Nat}{u u':World}(h:FN u sh g)(hk:u'.heap[sh]? =u.heap[sh]?):FN u' sh g:=⟨h.row.same hk⟩
variable{R:eWp}{w:World}
section
variable{k:Nat}{w0 w u u':World}{A:List Nat}{sh:Nat}{M:Sm}{occ:Value}{L:Lv}{ln:ByteArray}
def Nx(k:Nat)(w0:World)(A:List Nat)(sh:Nat)(M:Sm)(L:Lv)(u:World):Prop:=(∃occ,ad6 w0 A sh M occ L u)/\Inv k M L
def Nx.ext(h:Nx k w0 A sh M L u)(x:Ext u u'):Nx k w0 A sh M L u':=⟨⟨_,(h.1.choose_spec.ext x).1⟩,h.2⟩
def Nx.x(h:Nx k w0 A sh M L u):Ext w0 u:=h.1.choose_spec.1
def amz(w:World)(k:Nat):ab 26 #[] w λe w'=>∃sh,e=Value.pointer (aB sh)/\Nx k w [] sh (FO 1 9 200000 16) OT w':=
 (ad7 w).mono λe w' ⟨sh,he,h⟩=>⟨sh,he,⟨_,h⟩,Inv.new _ _ _ _⟩
end
def ajk(n:Int):ByteArray:=⟨(vX 15 n).toArray⟩
def XL(n:Int):Go.iG.nG n≠32:=by intro q;have h:=Go.iG.Dr n;rw[q]at h;have:(32:UInt8).toNat=32:=rfl;omega
def XM:∀(f n:Nat),afJ (f+1) n≠[]/\∀c∈afJ (f+1) n,c≠32
 |0,n=>by
  unfold afJ
  split
  ·exact⟨by simp,λc hc=>by rw[List.mem_singleton.1 hc];exact XL _⟩
  ·exact⟨by simp,λc hc=>by
    have:c=Go.iG.nG (n:Int):=by simpa[afJ]using hc
    rw[this];exact XL _⟩
 |f+1,n=>by
  have ih:=XM f (n/10);unfold afJ;split
  ·exact⟨by simp,λc hc=>by rw[List.mem_singleton.1 hc];exact XL _⟩
  ·refine⟨by simp,λc hc=>?_⟩;rcases List.mem_append.1 hc with hc|hc
   ·exact ih.2 c hc
   ·rw[List.mem_singleton.1 hc];exact XL _
def acG{n:Int}(h:n.natAbs<10^15):Wd (ajk n):=by
 have e:bl (ajk n)=(if n<0 then [45]else [])++afJ 15 n.natAbs:=ac0 15 n h;obtain⟨h1,h2⟩:=XM 14 n.natAbs;refine⟨λq=>h1 ?_,λc hc=>?_⟩
 ·rw[e]at q;exact(List.append_eq_nil_iff.1 q).2
 ·rw[e]at hc;rcases List.mem_append.1 hc with hc|hc
  ·split at hc
   ·rw[List.mem_singleton.1 hc];decide
   ·cases hc
  ·exact h2 c hc
def ach{n:Int}(h:n.natAbs<10^15):zX (ajk n)=(n,true):=adg h
def abp{n:Int}(h:n.natAbs<10^15):(ajk n).size<=100:=by have h1:=Pn h;have e:=jQ (ajk n);have:(bl (ajk n)).length=(vX 15 n).length:=rfl;omega
def abq{n:Int}(h:n.natAbs<10^15)(w:World):ed 13 #[n] w (Value.string (ajk n)):=Lt 14 n w au h inO
def yj{F:Nat->Prop}{w:World}{g s o t:Nat}{M:Sm}{occ:Value}{L:lCs}(h:EF F w g s o t M occ L):kh 23 #[g] w true:=by apply aat.vc;obtain⟨Fs,hS,Eu,-,-⟩:=h.EN;obtain⟨Fw,hW,-,-⟩:=hS.world;refine⟨_,Eu,(cZ hS).eL ?_⟩;refine⟨_,rfl,uN rfl ((BS h).eL ?_)⟩;refine⟨_,rfl,uN rfl ⟨_,Eu,(cZ hS).eL ?_⟩⟩;refine⟨_,rfl,(lZ hW).eL ?_⟩;refine⟨_,rfl,bO.2 ⟨by simp[fnC],yes rfl ⟨_,Eu,(cZ hS).eL ?_⟩⟩⟩;refine⟨_,rfl,(gx hW).eL ?_⟩;exact⟨_,rfl,rfl,rfl⟩
def u7{w:World}{sh g:Nat}(h:FN w sh g):kh 24 #[sh] w (Value.pointer (aB g)):=by apply yc.vc;exact⟨_,by rw[aF,h.row.ld];rfl,rfl,rfl⟩
def HE{d:ByteArray}(hd:Wd d):cT ((ByteArray.mk #[119,111,114,108,100,32]++d)++ByteArray.mk #[32,57,32,56])=[ByteArray.mk #[119,111,114,108,100],d,ByteArray.mk #[57],ByteArray.mk #[56]]:=by refine acf ?_;simp only[acZ,fT];show wb ([119,111,114,108,100]++32::(bl d++32::([57]++32::[56])))=_;rw[B2 _ au au,B2 _ hd.1 hd.2,B2 _ au au,Vb au au];rfl
def okI:List Nat:=[0,1,2,3,6,10,11,12,13,14,15,16,17,18,19,20,22]
def abo{k:Nat}{M:Sm}{L:Lv}{line c:ByteArray}{r:List ByteArray}(hl:line.size<=4294967296)(hw:cT line=c::r){i:Nat}(hi:uF[i]? =some c)(ho:i∈okI):kH k line M L ((amf i M L r).getD (kZ,M,L)):=by
 unfold okI at ho;simp only[cu,iT,or_false]at ho;rcases ho with rfl|rfl|rfl|rfl|rfl|rfl|rfl|rfl|rfl|rfl|rfl|rfl|rfl|rfl|rfl|rfl|rfl
 ·cases hi;exact Uf hl hw
 ·exact uE hl hw 0 au hi
 ·exact uE hl hw 1 au hi
 ·exact uE hl hw 2 au hi
 ·exact kH.uG hl hw 6 93 hi Tryz.func93 DH
 ·exact kH.uG hl hw 10 97 hi Tryz.func97 L7
 ·exact kH.uG hl hw 11 98 hi Tryz.func98 PG
 ·exact kH.uG hl hw 12 99 hi Tryz.func99 PH
 ·exact kH.uG hl hw 13 100 hi Tryz.func100 L8
 ·exact kH.uG hl hw 14 101 hi Tryz.func101 L9
 ·exact kH.uG hl hw 15 102 hi Tryz.func102 Ma
 ·exact kH.uG hl hw 16 103 hi Tryz.func103 PI
 ·exact kH.uG hl hw 17 104 hi Tryz.func104 Ug
 ·exact kH.uG hl hw 18 105 hi Tryz.func105 Uh
 ·exact kH.uG hl hw 19 106 hi Tryz.func106 PJ
 ·exact kH.uG hl hw 20 107 hi Tryz.func107 Mb
 ·exact kH.uG hl hw 22 109 hi Tryz.func109 PK
def OkL(s:ByteArray):Prop:=∃i c r,i∈okI/\cT s=c::r/\uF[i]? =some c
def XH(k:Nat)(M:Sm)(L:Lv){s:ByteArray}(hl:s.size<=4294967296)(h:OkL s):kH k s M L (uH M L (cT s)):=by obtain⟨i,c,r,hi,hw,hc⟩:=h;rw[hw,YZ hc];exact abo hl hw hc hi
def Nx.af1{k:Nat}{w0Y7 u:World}{A:List Nat}{sh:Nat}{M:Sm}{L:Lv}{ln:ByteArray}(h:Nx k w0Y7 A sh M L u)(hk:k<=1000)(hT:lP w0Y7)(hl:ln.size<=4294967296)(hq:OkL ln):
  Calls Tryz.prog 14 #[.pointer (some ⟨sh,0,none⟩),.string ln] u λe u'=>e=.returned (.string (uH M L (cT ln)).1)/\Nx (k+1) w0Y7 A sh (uH M L (cT ln)).2.1 (uH M L (cT ln)).2.2 u':=by
 obtain⟨⟨occ,h1,h0,g,s,o,t,F,h2,h3,h4,h5,h6⟩,hI⟩:=h;refine(XH k M L hl hq w0Y7 u F sh g s o t occ hk hT h1 (λi hi=>(h6 i hi).1) h5 h2 h3 h4 hI).mono ?_;rintro _ u' ⟨rfl,-,g',s',o',t',occ',F',hE,hS,hn,hm,ad5,hI'⟩;have hzz:=h1.size;exact⟨rfl,⟨occ',hm.ext h1 (λi hi=>hi.elim (λq=>(h6 i q).1) (λq=>by omega)),λi hi=>⟨gK (h0 i hi).1 hm.size,(h0 i hi).2⟩,g',s',o',t',F',hE,hS,hn,h5,λi hi=>(ad5 i hi).elim (h6 i) λq=>⟨by omega,λhA=>by have:=(h0 i hA).1;omega⟩⟩,hI'⟩
structure xg(w:World)(A:List Nat)(a b k j:Nat)(M:Sm)(L:Lv)(M':Sm)(L':Lv)(u:World):Prop where
 x:Ext w u
 s:∃g s o t occ F g' s' o' t' occ' G,(EF F u g s o t M occ L/\FN u a g/\Inv k M L/\∀i,F i->w.heap.size<=i/\i≠a/\i≠b/\i∉A)/\(EF G u g' s' o' t' M' occ' L'/\FN u b g'/\Inv j M' L'/\∀i,G i->w.heap.size<=i/\i≠b/\i≠a/\i∉A)/\
  (∀i,F i->¬G i)/\(w.heap.size<=a/\w.heap.size<=b/\a≠b)/\∀i∈A,i<u.heap.size/\i≠a/\i≠b
section
variable{w u u':World}{A:List Nat}{a b k j:Nat}{M M':Sm}{L L':Lv}{ln:ByteArray}
def xg.swap(h:xg w A a b k j M L M' L' u):xg w A b a j k M' L' M L u:=by obtain⟨h0,g,s,o,t,occ,F,g',s',o',t',occ',G,h1,h2,h3,⟨h4,h5,h6⟩,h7⟩:=h;exact⟨h0,g',s',o',t',occ',G,g,s,o,t,occ,F,h2,h1,λi q q'=>h3 i q' q,⟨h5,h4,λq=>h6 q.symm⟩,λi hi=>⟨(h7 i hi).1,(h7 i hi).2.2,(h7 i hi).2.1⟩⟩
def xg.ext(h:xg w A a b k j M L M' L' u)(x:Ext u u'):xg w A a b k j M L M' L' u':=by obtain⟨h0,g,s,o,t,occ,F,g',s',o',t',occ',G,⟨e1,e2,e3,e4⟩,⟨f1,f2,f3,f4⟩,h3,h4,h7⟩:=h;exact⟨h0.tr x,g,s,o,t,occ,F,g',s',o',t',occ',G,⟨e1.ext x,u0 e2 (x.heap e2.row.lt),e3,e4⟩,⟨f1.ext x,u0 f2 (x.heap f2.row.lt),f3,f4⟩,h3,h4,λi hi=>⟨gK (h7 i hi).1 x.size,(h7 i hi).2⟩⟩
def xg.add(h:xg w A a b k j M L M' L' u)(x:Ext u u'){c:Nat}(hc:u.heap.size<=c)(hc':c<u'.heap.size):xg w (c::A) a b k j M L M' L' u':=by
 obtain⟨h0,g,s,o,t,occ,F,g',s',o',t',occ',G,⟨e1,e2,e3,e4⟩,⟨f1,f2,f3,f4⟩,h3,h4,h7⟩:=h;have la:=e2.row.lt;have lb:=f2.row.lt;have new:∀{i},i∉A->i<u.heap.size->i∉c::A:=λ{i} hi hl q=>by
  rcases List.mem_cons.1 q with rfl|q
  ·omega
  ·exact hi q
 refine⟨h0.tr x,g,s,o,t,occ,F,g',s',o',t',occ',G,⟨e1.ext x,u0 e2 (x.heap la),e3,λi hi=>⟨(e4 i hi).1,(e4 i hi).2.1,(e4 i hi).2.2.1,new (e4 i hi).2.2.2 (e1.lt hi)⟩⟩,⟨f1.ext x,u0 f2 (x.heap lb),f3,λi hi=>⟨(f4 i hi).1,(f4 i hi).2.1,(f4 i hi).2.2.1,new (f4 i hi).2.2.2 (f1.lt hi)⟩⟩,h3,h4,λi hi=>?_⟩;rcases List.mem_cons.1 hi with rfl|hi
 ·exact⟨hc',by omega,by omega⟩
 ·exact⟨gK (h7 i hi).1 x.size,(h7 i hi).2⟩
def xg.sub{A':List Nat}(h:xg w A a b k j M L M' L' u)(hA:∀i∈A',i∈A):xg w A' a b k j M L M' L' u:=by obtain⟨h0,g,s,o,t,occ,F,g',s',o',t',occ',G,⟨e1,e2,e3,e4⟩,⟨f1,f2,f3,f4⟩,h3,h4,h7⟩:=h;exact⟨h0,g,s,o,t,occ,F,g',s',o',t',occ',G,⟨e1,e2,e3,λi hi=>⟨(e4 i hi).1,(e4 i hi).2.1,(e4 i hi).2.2.1,λq=>(e4 i hi).2.2.2 (hA i q)⟩⟩,⟨f1,f2,f3,λi hi=>⟨(f4 i hi).1,(f4 i hi).2.1,(f4 i hi).2.2.1,λq=>(f4 i hi).2.2.2 (hA i q)⟩⟩,h3,h4,λi hi=>h7 i (hA i hi)⟩
def xg.line(h:xg w A a b k j M L M' L' u)(hk:k<=1000)(hT:lP w)(hl:ln.size<=4294967296)(hq:OkL ln):
  Calls Tryz.prog 14 #[.pointer (some ⟨a,0,none⟩),.string ln] u λe u'=>e=.returned (.string (uH M L (cT ln)).1)/\(uH M L (cT ln)).1.size<=1000000/\xg w A a b (k+1) j (uH M L (cT ln)).2.1 (uH M L (cT ln)).2.2 M' L' u'/\KpA A u u':=by
 obtain⟨h0,g,s,o,t,occ,F,g',s',o',t',occ',G,⟨e1,e2,e3,e4⟩,⟨f1,f2,f3,f4⟩,h3,⟨h4,h5,h6⟩,h7⟩:=h;refine(XH k M L hl hq w u F a g s o t occ hk hT h0 (λi hi=>(e4 i hi).1) h4 e1 e2 (λq=>(e4 a q).2.1 rfl) e3).mono ?_;rintro _ u' ⟨rfl,hz,g2,s2,o2,t2,occ2,F',hE,hS,hn,hm,ad5,hI'⟩;have hzz:=h0.size;have la:=e2.row.lt;have lb:=f2.row.lt;refine⟨rfl,hz,⟨hm.ext h0 (λi hi=>hi.elim (λq=>(e4 i q).1) (λq=>by omega)),g2,s2,o2,t2,occ2,F',g',s',o',t',occ',G,⟨hE,hS,hI',λi hi=>?_⟩,⟨f1.same λi hi=>hm.same i (f1.lt hi) λq=>q.elim (λq=>h3 i q hi) (f4 i hi).2.2.1,u0 f2 (hm.same b lb λq=>q.elim (λq=>(e4 b q).2.2.1 rfl) λq=>h6 q.symm),f3,f4⟩,λi hi hg=>?_,⟨h4,h5,h6⟩,λi hi=>⟨gK (h7 i hi).1 hm.size,(h7 i hi).2⟩⟩,λi hi=>hm.same i (h7 i hi).1 λq=>q.elim (λq=>(e4 i q).2.2.2 hi) (h7 i hi).2.1⟩
 ·rcases ad5 i hi with q|q
  ·exact e4 i q
  ·exact⟨by omega,λr=>hn (r▸hi),by omega,λr=>by have:=(h7 i r).1;omega⟩
 ·rcases ad5 i hi with q|q
  ·exact h3 i q hg
  ·have:=f1.lt hg;omega
def xg.eng(h:xg w A a b k j M L M' L' u):(kx L/\o0 M.T.2)/\∃g,Calls Tryz.prog 24 #[.pointer (some ⟨a,0,none⟩)] u (λe u'=>e=.returned (.pointer (some ⟨g,0,none⟩))/\u'=u)/\Calls Tryz.prog 23 #[.pointer (some ⟨g,0,none⟩)] u (λe u'=>e=.returned (.bool true)/\u'=u)/\
  Calls Tryz.prog 25 #[.pointer (some ⟨g,0,none⟩)] u λe w'=>∃sl:Sl,e=.returned (.slice sl.a sl.n sl.c)/\nY u.heap.size w' sl (dy M L)/\Ext u w':=by
 obtain⟨h0,g,s,o,t,occ,F,g',s',o',t',occ',G,⟨e1,e2,e3,e4⟩,-⟩:=h;refine⟨⟨e3.b,?_⟩,g,u7 e2,yj e1,Px e1⟩;obtain⟨Fs,hs,-⟩:=e1.EN;obtain⟨Fw,hW,-⟩:=hs.world;exact hW.afc
end
def Oh(M:Sm)(p:Po):Sm:={M with T:=(yO M.aj M.cap M.T.1 M.T.2 p).1}
def bgM(own:Int):Sm:=Oh (Oh (Oh (Oh (Oh (FO own 9 200000 8) (0,0)) (1,0)) (-1,0)) (0,1)) (0,-1)
def vk{M:Sm}{L:Lv}{ln x z:ByteArray}{p:Po}(hw:cT ln=[ByteArray.mk #[108,111,97,100],x,z])(hp:xC [x,z]=some (p,[])):OkL ln/\(uH M L (cT ln)).2=(Oh M p,L):=by refine⟨⟨1,_,_,by decide,hw,rfl⟩,?_⟩;rw[hw,YZ (i:=1) rfl];show((YT 0 M L [x,z]).getD _).2=_;unfold YT;rw[hp];rfl
def Vd{M:Sm}{L:Lv}{d:ByteArray}{own:Int}(hd:Wd d)(hn:zX d=(own,true)):OkL ((ByteArray.mk #[119,111,114,108,100,32]++d)++ByteArray.mk #[32,57,32,56])/\(uH M L (cT ((ByteArray.mk #[119,111,114,108,100,32]++d)++ByteArray.mk #[32,57,32,56]))).2=(FO own 9 200000 8,OT):=by refine⟨⟨0,_,_,by decide,HE hd,rfl⟩,?_⟩;rw[HE hd,YZ (i:=0) rfl];show((jP [d,ByteArray.mk #[57],ByteArray.mk #[56]]).getD _).2=_;unfold jP;rw[acD (x:=own) (y:=9) (z:=8) hn (by kernel_rfl) (by kernel_rfl)];rfl
def acE(own:Int):eW (bgM own).T.2/\∀q,eR (bgM own).T.2 q->A5 q:=by
 have h0:eW (FO own 9 200000 8).T.2/\∀q,eR (FO own 9 200000 8).T.2 q->A5 q:=⟨List.nodup_nil,λq ⟨e,he,_⟩=>(by cases he)⟩;have s:∀{M:Sm},M.cap=9->(eW M.T.2/\∀q,eR M.T.2 q->A5 q)->∀{p},A5 p->eW (Oh M p).T.2/\∀q,eR (Oh M p).T.2 q->A5 q:=λhc h p hp=>acF h hp aa
 have c0:(FO own 9 200000 8).cap=9:=by show min (max (9:Int) 1) 16=9;decide
 have f:∀p:Po,p∈([(0,0),(1,0),(-1,0),(0,1),(0,-1)]:List Po)->A5 p:=λp h=>h
 exact s (M:=Oh (Oh (Oh (Oh (FO own 9 200000 8) (0,0)) (1,0)) (-1,0)) (0,1)) c0 (s (M:=Oh (Oh (Oh (FO own 9 200000 8) (0,0)) (1,0)) (-1,0)) c0 (s (M:=Oh (Oh (FO own 9 200000 8) (0,0)) (1,0)) c0 (s (M:=Oh (FO own 9 200000 8) (0,0)) c0 (s c0 h0 (f _ au)) (f _ au)) (f _ au)) (f _ au)) (f _ au)
def R3(a0Y7:Int)(ha:cH a0Y7)(w:World)(hT:lP w):Calls Tryz.prog 10 #[.int .i64 a0Y7] w λe w'=>∃sh,e=.returned (.pointer (some ⟨sh,0,none⟩))/\Nx 6 w [] sh (bgM (CD a0Y7 1000)) OT w':=by
 apply aaY.vc;refine(amz w 0).mono ?_;rintro _ w0Y7 ⟨sh,rfl,N0⟩;refine⟨_,rfl,uN rfl ((S0 a0Y7 1000 w0Y7 ha au (by unfold cH;omega)).mono ?_)⟩;rintro _ w2Y7 ⟨rfl,e2⟩;rw[e2];have hb:=aby a0Y7 1000 au;generalize CD a0Y7 1000=own at*;refine⟨_,rfl,(abq (n:=own) aa w0Y7).mono ?_⟩;rintro _ w4Y7 ⟨rfl,x4⟩;have sd:=abp (n:=own) aa;have s1:(ByteArray.mk #[119,111,114,108,100,32]).size=6:=rfl;have s2:(ByteArray.mk #[32,57,32,56]).size=4:=rfl;have step:∀{k:Nat}{M:Sm}{L:Lv}{M':Sm}{u:World}{ln:ByteArray},Nx k w [] sh M L u->k<=1000->ln.size<=4294967296->OkL ln/\(uH M L (cT ln)).2=(M',OT)->Calls Tryz.prog 14 #[.pointer (some ⟨sh,0,none⟩),.string ln] u λe u'=>∃t:ByteArray,e=.returned (.string t)/\Nx (k+1) w [] sh M' OT u':=λN hk hl he=>by refine(N.af1 hk hT hl he.1).mono ?_;rintro _ u' ⟨rfl,N'⟩;rw[he.2]at N';exact⟨_,rfl,N'⟩
 refine⟨_,rfl,le_max aa,le_max (by simp only[ByteArray.size_append];omega),(step (N0.ext x4) au (by simp only[ByteArray.size_append];omega) (Vd (acG aa) (ach aa))).mono ?_⟩;rintro _ w6 ⟨_,rfl,N6⟩;refine⟨_,rfl,(step N6 au au (vk (p:=(0,0)) (x:=ByteArray.mk #[48]) (z:=ByteArray.mk #[48]) (by kernel_rfl) (by kernel_rfl))).mono ?_⟩;rintro _ w8 ⟨_,rfl,N8⟩;refine⟨_,rfl,(step N8 au au (vk (p:=(1,0)) (x:=ByteArray.mk #[49]) (z:=ByteArray.mk #[48]) (by kernel_rfl) (by kernel_rfl))).mono ?_⟩;rintro _ K8 ⟨_,rfl,N10⟩;refine⟨_,rfl,(step N10 au au (vk (p:=(-1,0)) (x:=ByteArray.mk #[45,49]) (z:=ByteArray.mk #[48]) (by kernel_rfl) (by kernel_rfl))).mono ?_⟩;rintro _ w12 ⟨_,rfl,N12⟩;refine⟨_,rfl,(step N12 au au (vk (p:=(0,1)) (x:=ByteArray.mk #[48]) (z:=ByteArray.mk #[49]) (by kernel_rfl) (by kernel_rfl))).mono ?_⟩;rintro _ w14 ⟨_,rfl,N14⟩;refine⟨_,rfl,(step N14 au au (vk (p:=(0,-1)) (x:=ByteArray.mk #[48]) (z:=ByteArray.mk #[45,49]) (by kernel_rfl) (by kernel_rfl))).mono ?_⟩;rintro _ w16 ⟨_,rfl,N16⟩;obtain⟨⟨occ,h1,h0,g,s,o,t,F,hE,hS,h4,h5,h6⟩,hI⟩:=id N16;refine⟨_,rfl,(u7 hS).mono ?_⟩;rintro _ w18 ⟨rfl,e18⟩;rw[e18];refine⟨_,rfl,(yj hE).mono ?_⟩;rintro _ w20 ⟨rfl,e20⟩;rw[e20];exact⟨_,rfl,uN rfl ⟨sh,rfl,N16⟩⟩
def acH{w u v:World}{a b:Nat}{M:Sm}{L:Lv}(h:Nx 6 w [] a M L u)(h':Nx 6 u [] b M L v):xg w [] a b 6 6 M L M L v:=by obtain⟨⟨occ,h1,-,g,s,o,t,F,h2,h3,h4,h5,h6⟩,hI⟩:=h;obtain⟨⟨occ',q1,-,g',s',o',t',G,q2,q3,q4,q5,q6⟩,qIY7⟩:=h';have z:=h1.size;have la:=h3.row.lt;exact⟨h1.tr q1,g,s,o,t,occ,F,g',s',o',t',occ',G,⟨h2.ext q1,u0 h3 (q1.heap la),hI,λi hi=>⟨(h6 i hi).1,λr=>h4 (r▸hi),λr=>by have:=h2.lt hi;omega,iT⟩⟩,⟨q2,q3,qIY7,λi hi=>⟨by have:=(q6 i hi).1;omega,λr=>q4 (r▸hi),λr=>by have:=(q6 i hi).1;omega,iT⟩⟩,λi hi hg=>by have:=h2.lt hi;have:=(q6 i hg).1;omega,⟨h5,by omega,by omega⟩,λi hi=>(by cases hi)⟩
structure Tw(w:World)(A:List Nat)(a b n:Nat)(u:World):Prop where
 s:∃(M:Sm)(T:Tb)(L:Lv)(k j:Nat),xg w A a b k j M L (eB M T) L u/\k<=n/\j<=n/\mr M.T.2 T.2/\wa L/\M.cap=9
section
variable{w u u':World}{A:List Nat}{a b n:Nat}{ln:ByteArray}
def Tw.ext(h:Tw w A a b n u)(x:Ext u u'):Tw w A a b n u':=by obtain⟨M,T,L,k,j,h1,h2⟩:=h;exact⟨M,T,L,k,j,h1.ext x,h2⟩
def Tw.x(h:Tw w A a b n u):Ext w u:=by obtain⟨M,T,L,k,j,h1,h2⟩:=h;exact h1.x
def Tw.up(h:Tw w A a b n u){m:Nat}(hm:n<=m):Tw w A a b m u:=by obtain⟨M,T,L,k,j,h1,h2,h3,h4⟩:=h;exact⟨M,T,L,k,j,h1,by omega,by omega,h4⟩
def Tw.add(h:Tw w A a b n u)(x:Ext u u'){c:Nat}(hc:u.heap.size<=c)(hc':c<u'.heap.size):Tw w (c::A) a b n u':=by obtain⟨M,T,L,k,j,h1,h2⟩:=h;exact⟨M,T,L,k,j,h1.add x hc hc',h2⟩
def Tw.sub{A':List Nat}(h:Tw w A a b n u)(hA:∀i∈A',i∈A):Tw w A' a b n u:=by obtain⟨M,T,L,k,j,h1,h2⟩:=h;exact⟨M,T,L,k,j,h1.sub hA,h2⟩
def Tw.far(h:Tw w A a b n u)(hn:n<=900)(hT:lP w)(hl:ln.size<=4294967296)(hw:cT ln=[ByteArray.mk #[102,108,117,115,104,97,108,108]]\/∃(i:Nat)(c x z:ByteArray)(p:Po),cT ln=[c,x,z]/\uF[i+1]? =some c/\xC [x,z]=some (p,[])/\(i=0/\Fa p\/i=1/\Fa p\/i=2)):
  Calls Tryz.prog 14 #[.pointer (some ⟨b,0,none⟩),.string ln] u λe u'=>∃t:ByteArray,e=.returned (.string t)/\Tw w A a b (n+1) u'/\KpA A u u':=by
 obtain⟨M,T,L,k,j,h1,h2,h3,h4,h5,h6⟩:=h;have hq:OkL ln:=by
  rcases hw with hw|⟨i,c,x,z,p,hw,hc,hpp,hi⟩
  ·exact⟨6,_,_,by decide,hw,rfl⟩
  ·refine⟨i+1,_,_,?_,hw,hc⟩;rcases hi with⟨rfl,-⟩|⟨rfl,-⟩|rfl<;>decide
 refine(h1.swap.line aa hT hl hq).mono ?_;rintro _ u' ⟨rfl,-,hp,hk⟩;refine⟨_,rfl,?_,hk⟩;have hg:=hp.eng.1.2;have key:∃T',(uH (eB M T) L (cT ln)).2=(eB M T',L)/\mr M.T.2 T'.2:=by
  rcases hw with hw|⟨i,c,x,z,p,hw,hc,hpp,hi⟩
  ·rw[hw,YZ (i:=6) rfl]at hg⊢;exact aaT h4 hg
  ·rw[hw,YZ hc]at hg⊢;have e:(amf (i+1) (eB M T) L [x,z])=YT i (eB M T) L [x,z]:=by rcases hi with⟨rfl,-⟩|⟨rfl,-⟩|rfl<;>rfl
   rw[e]at hg⊢;unfold YT at hg⊢;rw[hpp]at hg⊢;obtain⟨T',e',t⟩:=acC h4 hi aa hg;exact⟨T',by show((amc i (eB M T) p).2,L)=_;rw[e'],t⟩
 obtain⟨T',e,t⟩:=key;rw[e]at hp;exact⟨M,T',L,k,j+1,hp.swap,by omega,by omega,t,h5,h6⟩
def Tw.both(h:Tw w A a b n u)(hn:n<=900)(hT:lP w)(hl:ln.size<=4294967296){i:Nat}(hi:i∈RS){c:ByteArray}{r:List ByteArray}(hw:cT ln=c::r)(hc:uF[i]? =some c)(hf:Cx c r)(ht:i=22->r=[ByteArray.mk #[49]]):
  Calls Tryz.prog 14 #[.pointer (some ⟨a,0,none⟩),.string ln] u λe u'=>∃t:ByteArray,e=.returned (.string t)/\KpA A u u'/\
   Calls Tryz.prog 14 #[.pointer (some ⟨b,0,none⟩),.string ln] u' λe u''=>e=.returned (.string t)/\KpA A u' u''/\Tw w A a b (n+1) u'':=by
 obtain⟨M,T,L,k,j,h1,h2,h3,h4,h5,h6⟩:=h;have hq:OkL ln:=by refine⟨i,c,r,?_,hw,hc⟩;unfold RS at hi;unfold okI;simp only[cu,iT,or_false]at hi⊢;omega
 refine(h1.line aa hT hl hq).mono ?_;rintro _ u' ⟨rfl,-,hp,hk⟩;refine⟨_,rfl,hk,(hp.swap.line aa hT hl hq).mono ?_⟩;rintro _ u'' ⟨rfl,-,hq,hk'⟩;have:=ab3 (i:=i) (r:=r) h4 h5 h1.eng.1.1 hi hc hf ht;rw[hw]at hq⊢;obtain⟨e1,e2,T',e3,t',r'⟩:=this;rw[e3]at hq;exact⟨by rw[e1],hk',_,T',_,_,_,hq.swap,by omega,by omega,t',r',e2.trans h6⟩
def Tw.ahd(h:Tw w A a b n u):∃R:List Int,mJ R/\R.length<=50000/\∀{v:World},Ext u v->∃g g':Nat,Calls Tryz.prog 24 #[.pointer (some ⟨a,0,none⟩)] v (λe u'=>e=.returned (.pointer (some ⟨g,0,none⟩))/\u'=v)/\Calls Tryz.prog 24 #[.pointer (some ⟨b,0,none⟩)] v (λe u'=>e=.returned (.pointer (some ⟨g',0,none⟩))/\u'=v)/\
  ∀x∈[g,g'],Calls Tryz.prog 23 #[.pointer (some ⟨x,0,none⟩)] v (λe u'=>e=.returned (.bool true)/\u'=v)/\Calls Tryz.prog 25 #[.pointer (some ⟨x,0,none⟩)] v λe w'=>∃sl:Sl,e=.returned (.slice sl.a sl.n sl.c)/\nY v.heap.size w' sl R/\Ext v w':=by
 obtain⟨M,T,L,k,j,h1,-⟩:=h;refine⟨dy M L,W3 M L,ahQ M L,λx=>?_⟩;obtain⟨-,g,q1,q2,q3⟩:=(h1.ext x).eng;obtain⟨-,g',p1,p2,p3⟩:=(h1.ext x).swap.eng;refine⟨g,g',q1,p1,λy hy=>?_⟩;rcases List.mem_cons.1 hy with rfl|hy
 ·exact⟨q2,q3⟩
 ·rw[List.mem_singleton.1 hy];exact⟨p2,p3⟩
end
def afN(own:Int):(bgM own).cap=9:=by show min (max (9:Int) 1) 16=9;decide
def acI(M:Sm):eB M M.T=M:=rfl
def agv{w u v:World}{a b:Nat}{M:Sm}(q:eW M.T.2/\∀p,eR M.T.2 p->A5 p)(hc:M.cap=9)(h:Nx 6 w [] a M OT u)(h':Nx 6 u [] b M OT v):Tw w [] a b 6 v:=by have hp:=acH h h';have hg:=hp.eng.1.2;exact⟨M,M.T,OT,6,6,by rw[acI];exact hp,by omega,by omega,⟨q.1,q.1,hg,hg,λ_ _=>Iff.rfl,q.2,λp r=>.inl (q.2 p r),λ_ _ _=>rfl⟩,λy hy=>(by cases (List.mem_replicate.1 hy).2),hc⟩
def q8(s:ByteArray):ByteArray:=(cT s).headD (ByteArray.mk #[])
def IX(s:ByteArray)(hs:s.size<=4294967296)(w:World):Calls Tryz.prog 21 #[.string s] w λe w'=>e=.returned (.string (q8 s))/\Ext w w':=by
 apply AB.vc;unfold AB.pre;refine(Hq s w hs).mono ?_;rintro _ w0Y7 ⟨s1,rfl,ho,x0⟩;have r1:=ar.rd ho au;have hn:s1.n=(cT s).length:=by rw[r1.n,aK]
 unfold q8;refine⟨s1,rfl,Br.mk (λc=>?_) (λc=>?_)⟩
 ·have c:s1.n=0:=by simpa using c
  rw[List.length_eq_zero_iff.1 (hn.symm.trans c)];exact⟨rfl,x0⟩
 ·have c:s1.n≠0:=by simpa using c
  cases e:cT s with
  |nil=>rw[e]at hn;exact absurd hn c
  |cons t r=>
   rw[e]at r1;refine⟨r1.jX au au aa,t,?_,rfl,x0⟩;have:=r1.rd 0 (sv t) rfl 0 _ rfl;simpa using this
def RZ(l:List ByteArray):(eD l).length<=l.length:=List.length_filterMap_le ..
set_option maxHeartbeats 1000000 in
def ab5(s:ByteArray)(hs:s.size<=1000000)(w:World):Calls Tryz.prog 22 #[.string s] w λe w'=>∃b:Bool,e=.returned (.bool b)/\Ext w w'/\(b=false->∀c r,cT s=c::r->Cx c r):=by
 apply HT.vc;unfold HT.pre;refine(Hq s w aa).mono ?_;rintro _ w0Y7 ⟨s1,rfl,ho,x0⟩;have r1:=ar.rd ho au;have hn:s1.n=(cT s).length:=by rw[r1.n,aK]
 have hws:∀t∈cT s,t.size<=4294967296:=λt ht=>by have:=aa3 ht;omega
 have hwl:=aa4 s;refine⟨s1,rfl,Br.mk (λc=>⟨false,rfl,x0,λ_ c0 r0 e=>?_⟩) (λc=>?_)⟩
 ·have c:=of_decide_eq_true c;rw[hn,e,cL]at c;have hr:r0=[]:=List.length_eq_zero_iff.1 aa;rw[hr];exactλq=>absurd q au
 have c:=of_decide_eq_false c;obtain⟨c0,r0,e⟩:∃c0 r0,cT s=c0::r0:=by
  cases h:cT s with
  |nil=>rw[h]at hn;rw[hn]at c;exact absurd au c
  |cons a b=>exact⟨a,b,rfl⟩
 rw[e]at r1 hn hws hwl;rw[cL]at hn hwl;have fin:∀{b:Bool}{v:World},Ext w0Y7 v->(b=false->Cx c0 r0)->∃b':Bool,Ending.returned (.bool b)=.returned (.bool b')/\Ext w v/\(b'=false->∀c r,cT s=c::r->Cx c r):=λ{b v} x h=>⟨b,rfl,x0.tr x,λhb c r q=>by rw[e]at q;cases q;exact h hb⟩
 refine⟨λn x sl v=>∃p:Nat,x=1+(p:Int)/\p+n=r0.length/\ar w0Y7.heap.size 3 1 v sl ((eD (r0.take p)).map λn=>[.int .i64 n])/\Ext w0Y7 v,⟨r0.length,0,by simp,by omega,ar.nil,Ext.bT _⟩,?_⟩;rintro n1 us x sl v ⟨p,rfl,hp,ho6,xv⟩;have r6Y7:=ar.rd ho6 au;have hn6:sl.n=(eD (r0.take p)).length:=by rw[r6Y7.n,aK]
 have hl6:=RZ (r0.take p);rw[cS]at hl6;have wk:IntKind.wrap .i64 (1+(p:Int)+1)=1+((p+1:Nat):Int):=by rw[wI (by unfold cH;omega)];omega
 refine Br.mk (λd=>?_) (λd=>?_)
 ·have d:p<r0.length:=by have:=of_decide_eq_true d;omega
  obtain⟨t,ht⟩:∃t,r0[p]? =some t:=⟨_,cK d⟩;have hld:Vc.ld v (ae s1.a ((1+((p:Nat):Int)).toNat*1))=some (.string t):=by have:=xv.ld (r1.rd (p+1) (sv t) (by rw[aW,Kh,ht];rfl) 0 _ rfl);rw[show(1+((p:Nat):Int)).toNat=p+1 by omega];simpa using this
  have etk:eD (r0.take (p+1))=eD (r0.take p)++(if(zX t).2 then [(zX t).1]else []):=by
   unfold eD;rw[dq,ht,List.filterMap_append]
   cases h:(zX t).2<;>simp[h]
  refine⟨r1.jX au aa aa,t,hld,(L1 t v (hws t (qQ _ (aQ ht)))).mono ?_⟩;rintro _ w8 ⟨rfl,e8⟩;rw[e8];refine⟨_,_,rfl,Br.mk (λq w11 e11=>?_) (λq=>⟨n1-1,by omega,p+1,wk,by omega,by rw[etk,q];simpa using ho6,xv⟩)⟩;subst e11;rw[q,if_pos rfl]at etk;obtain⟨a1,a2⟩:=ho6.l6 (bytes:=8) (news:=[.int .i64 (zX t).1]) (.cells #[.int .i64 (zX t).1] 3) xv.size rfl (λu hu=>by simp at hu;subst hu;rfl) aa aa;refine⟨a1,λs12 w13 ahy=>?_⟩;obtain⟨b1,b2,b3,b4,-⟩:=a2 s12 w13 ahy;exact⟨b1,n1-1,by omega,p+1,wk,by omega,by rw[etk,cl];exact b2,Below.trans xv b4⟩
 ·have d:p=r0.length:=by have:=of_decide_eq_false d;omega
  rw[d,kB]at r6Y7 hn6;clear hl6;have hl:=RZ r0;have lds:∀i:Nat,i<(eD r0).length->Vc.ld v (ae sl.a ((i:Int).toNat*1))=some (.int .i64 ((eD r0).getD i 0)):=λi hi=>by have:=r6Y7.rd i [.int .i64 ((eD r0).getD i 0)] (by rw[aW,cK hi,dG,cK hi];rfl) 0 _ rfl;simpa using this
  refine Br.mk (λq=>fin xv λ_ r=>absurd r (by have:=of_decide_eq_true q;omega)) (λq=>?_);have q:¬(sl.n:Int)<2:=of_decide_eq_false q;have ei:(if 2<IntKind.wrap .i64 ((sl.n:Int)-1)then(2:Int)else IntKind.wrap .i64 ((sl.n:Int)-1))=((min ((eD r0).length-1) 2:Nat):Int):=by rw[wI (by unfold cH;omega)];split<;>omega
  rw[ei];have l0:=lds 0 aa;have l1:=lds 1 aa;have i0:gD sl.a 0 sl.n:=r6Y7.jX au au aa;have ldc:Vc.ld v (ae s1.a ((0:Int).toNat*1))=some (.string c0):=by have:=xv.ld (r1.rd 0 (sv c0) rfl 0 _ rfl);simpa using this
  refine⟨r6Y7.jX au aa aa,_,lds _ aa,r1.jX au au aa,c0,ldc,?_⟩;have i1:gD sl.a 1 sl.n:=r6Y7.jX au au aa;obtain⟨last,hla⟩:∃last,last=(eD r0).getD (min ((eD r0).length-1) 2) 0:=⟨_,rfl⟩;rw[<-hla];have key:∀{b:Bool},(b=false->((c0=ByteArray.mk #[97,116]\/c0=ByteArray.mk #[101,100,105,116])->(eD r0).getD 0 0<=40/\-40<=last)/\(c0=ByteArray.mk #[116,111,112]->(eD r0).getD 0 0<=40/\-40<=(eD r0).getD 1 0))->∃b':Bool,Ending.returned (.bool b)=.returned (.bool b')/\Ext w v/\(b'=false->∀c r,cT s=c::r->Cx c r):=λh=>fin xv λhb _=>by rw[<-hla];exact h hb
  have e1:∀x:ByteArray,gu c0 x=true->c0=x:=λx=>(kD _ _).1
  have e0:∀x:ByteArray,gu c0 x=false->c0≠x:=λx h q=>by rw[(kD _ _).2 q]at h;cases h
  clear lds r1 r6Y7 ldc ei hl hws hwl hn hn6 c q fin ho ho6 hp wk;have d1:c0=ByteArray.mk #[97,116]->c0≠ByteArray.mk #[116,111,112]:=λh q=>by rw[h]at q;revert q;decide
  have d2:c0=ByteArray.mk #[101,100,105,116]->c0≠ByteArray.mk #[116,111,112]:=λh q=>by rw[h]at q;revert q;decide
  have at_:c0=ByteArray.mk #[97,116]\/c0=ByteArray.mk #[101,100,105,116]->∀{a:Int},a=(eD r0).getD 0 0->decide (a>40)=false->decide (last< -40)=false->((c0=ByteArray.mk #[97,116]\/c0=ByteArray.mk #[101,100,105,116])->(eD r0).getD 0 0<=40/\-40<=last)/\(c0=ByteArray.mk #[116,111,112]->(eD r0).getD 0 0<=40/\-40<=(eD r0).getD 1 0):=λh a ha h1 h2=>by have h1:=of_decide_eq_false h1;have h2:=of_decide_eq_false h2;exact⟨λ_=>⟨by omega,by omega⟩,λq=>absurd q (h.elim d1 d2)⟩
  have other:∀{b:Bool},c0≠ByteArray.mk #[97,116]->c0≠ByteArray.mk #[101,100,105,116]->c0≠ByteArray.mk #[116,111,112]->∃b':Bool,Ending.returned (.bool b)=.returned (.bool b')/\Ext w v/\(b'=false->∀c r,cT s=c::r->Cx c r):=λh1 h2 h3=>key λ_=>⟨λr=>(r.elim h1 h2).elim,λr=>(h3 r).elim⟩
  have top:c0=ByteArray.mk #[116,111,112]->∀{a b:Int},a=(eD r0).getD 0 0->b=(eD r0).getD 1 0->decide (a>40)=false->decide (b< -40)=false->((c0=ByteArray.mk #[97,116]\/c0=ByteArray.mk #[101,100,105,116])->(eD r0).getD 0 0<=40/\-40<=last)/\(c0=ByteArray.mk #[116,111,112]->(eD r0).getD 0 0<=40/\-40<=(eD r0).getD 1 0):=λh a b ha hb h1 h2=>by have h1:=of_decide_eq_false h1;have h2:=of_decide_eq_false h2;exact⟨λr=>r.elim (λq=>absurd h (d1 q)) (λq=>absurd h (d2 q)),λ_=>⟨by omega,by omega⟩⟩
  refine Br.mk (λh=>Br.mk (λ_=>?_) (λh'=>by rw[h]at h';cases h')) (λh=>Br.mk (λh'=>?_) (λh'=>Br.mk (λh2=>?_) (λh2=>Br.mk (λ_=>?_) (λ_=>other (e0 _ h) (e0 _ h') (e0 _ h2)))))
  ·exact⟨i0,_,l0,Br.mk (λ_=>key λq=>by cases q) (λq=>key λq'=>at_ (.inl (e1 _ h)) rfl q q')⟩
  ·exact⟨i0,_,l0,Br.mk (λ_=>key λq=>by cases q) (λq=>key λq'=>at_ (.inr (e1 _ h')) rfl q q')⟩
  ·exact⟨i0,_,l0,Br.mk (λ_=>key λq=>by cases q) (λq=>⟨i1,_,l1,key λq'=>top (e1 _ h2) rfl rfl q q'⟩)⟩
  ·exact⟨i0,_,l0,Br.mk (λ_=>other (e0 _ h) (e0 _ h') (e0 _ h2)) (λ_=>⟨i0,_,l0,Br.mk (λ_=>other (e0 _ h) (e0 _ h') (e0 _ h2)) (λ_=>Br.mk (λ_=>other (e0 _ h) (e0 _ h') (e0 _ h2)) (λ_=>other (e0 _ h) (e0 _ h') (e0 _ h2)))⟩)⟩
def V4{w:World}{m:Int}(hm:w.cell? ⟨0,0,none⟩=some (vI m)):ed 19 #[] w true:=by
 apply aaX.vc;refine(aaj hm).bf λw0 x0=>?_
 exact⟨_,rfl,by kernel_rfl,x0⟩
def eS:List ByteArray:=[ByteArray.mk #[115,112,97,119,110],ByteArray.mk #[107,105,108,108],ByteArray.mk #[116,101,108,108],ByteArray.mk #[112,108,97,99,101],ByteArray.mk #[98,114,101,97,107],ByteArray.mk #[101,100,105,116],ByteArray.mk #[108,111,111,107],ByteArray.mk #[97,116],ByteArray.mk #[116,111,112],ByteArray.mk #[98,111,100,121],ByteArray.mk #[108,105,118,101],ByteArray.mk #[116,105,99,107]]
abbrev XI:ByteArray:=ByteArray.mk #[116,105,99,107]
abbrev agw:ByteArray:=ByteArray.mk #[116,105,99,107,32,49]
def Dp(s:ByteArray):ByteArray:=if q8 s=XI then agw else s
def abx{s:ByteArray}(h:eS.any (λc=>gu (q8 s) c)=true):∃(i:Nat)(c:ByteArray)(r:List ByteArray),i∈RS/\cT (Dp s)=c::r/\uF[i]? =some c/\(i=22->r=[ByteArray.mk #[49]]):=by
 obtain⟨c,hc,e⟩:=List.any_eq_true.1 h;have e:=(kD _ _).1 e;have key:∀c∈eS,c≠ByteArray.mk #[]/\((c=XI/\uF[22]? =some c)\/(c≠XI/\∃i,i∈RS/\i≠22/\uF[i]? =some c)):=by
  unfold eS RS;intro c hc;simp only[cu,iT,or_false]at hc;rcases hc with rfl|rfl|rfl|rfl|rfl|rfl|rfl|rfl|rfl|rfl|rfl|rfl
  ·exact⟨by decide,.inr ⟨by decide,10,by decide,by decide,rfl⟩⟩
  ·exact⟨by decide,.inr ⟨by decide,11,by decide,by decide,rfl⟩⟩
  ·exact⟨by decide,.inr ⟨by decide,12,by decide,by decide,rfl⟩⟩
  ·exact⟨by decide,.inr ⟨by decide,13,by decide,by decide,rfl⟩⟩
  ·exact⟨by decide,.inr ⟨by decide,15,by decide,by decide,rfl⟩⟩
  ·exact⟨by decide,.inr ⟨by decide,14,by decide,by decide,rfl⟩⟩
  ·exact⟨by decide,.inr ⟨by decide,16,by decide,by decide,rfl⟩⟩
  ·exact⟨by decide,.inr ⟨by decide,17,by decide,by decide,rfl⟩⟩
  ·exact⟨by decide,.inr ⟨by decide,18,by decide,by decide,rfl⟩⟩
  ·exact⟨by decide,.inr ⟨by decide,19,by decide,by decide,rfl⟩⟩
  ·exact⟨by decide,.inr ⟨by decide,20,by decide,by decide,rfl⟩⟩
  ·exact⟨by decide,.inl ⟨rfl,rfl⟩⟩
 obtain⟨h0,k⟩:=key c hc;rcases k with⟨rfl,hi⟩|⟨ht,i,hi,hn,hci⟩
 ·refine⟨22,XI,[ByteArray.mk #[49]],by decide,?_,hi,λ_=>rfl⟩;unfold Dp;rw[if_pos e];kernel_rfl
 ·cases hw:cT s with
  |nil=>
   have:q8 s=ByteArray.mk #[]:=by unfold q8;rw[hw];rfl
   exact absurd (e.symm.trans this) h0
  |cons c' r=>
   have ec:c'=c:=by unfold q8 at e;rw[hw]at e;exact e
   subst ec;refine⟨i,c',r,hi,?_,hci,λq=>absurd q hn⟩;unfold Dp;rw[if_neg λq=>ht (e.symm.trans q)];exact hw
def ack:List ByteArray:=[ByteArray.mk #[102,108,117,115,104,97,108,108],ByteArray.mk #[108,111,97,100,32,51,32,48],ByteArray.mk #[117,110,108,111,97,100,32,51,32,48],ByteArray.mk #[108,111,97,100,32,48,32,45,52],ByteArray.mk #[117,110,108,111,97,100,32,48,32,45,52],ByteArray.mk #[102,108,117,115,104,32,48,32,48]]
def abF{t:ByteArray}(h:t∈ack):t.size<=100/\(cT t=[ByteArray.mk #[102,108,117,115,104,97,108,108]]\/∃(i:Nat)(c x z:ByteArray)(p:Po),cT t=[c,x,z]/\uF[i+1]? =some c/\xC [x,z]=some (p,[])/\(i=0/\Fa p\/i=1/\Fa p\/i=2)):=by
 unfold ack at h;simp only[cu,iT,or_false]at h;rcases h with rfl|rfl|rfl|rfl|rfl|rfl
 ·exact⟨by decide,.inl (by kernel_rfl)⟩
 ·exact⟨by decide,.inr ⟨0,ByteArray.mk #[108,111,97,100],ByteArray.mk #[51],ByteArray.mk #[48],(3,0),by kernel_rfl,rfl,by kernel_rfl,.inl ⟨rfl,.inl rfl⟩⟩⟩
 ·exact⟨by decide,.inr ⟨1,ByteArray.mk #[117,110,108,111,97,100],ByteArray.mk #[51],ByteArray.mk #[48],(3,0),by kernel_rfl,rfl,by kernel_rfl,.inr (.inl ⟨rfl,.inl rfl⟩)⟩⟩
 ·exact⟨by decide,.inr ⟨0,ByteArray.mk #[108,111,97,100],ByteArray.mk #[48],ByteArray.mk #[45,52],(0,-4),by kernel_rfl,rfl,by kernel_rfl,.inl ⟨rfl,.inr rfl⟩⟩⟩
 ·exact⟨by decide,.inr ⟨1,ByteArray.mk #[117,110,108,111,97,100],ByteArray.mk #[48],ByteArray.mk #[45,52],(0,-4),by kernel_rfl,rfl,by kernel_rfl,.inr (.inl ⟨rfl,.inr rfl⟩)⟩⟩
 ·exact⟨by decide,.inr ⟨2,ByteArray.mk #[102,108,117,115,104],ByteArray.mk #[48],ByteArray.mk #[48],(0,0),by kernel_rfl,rfl,by kernel_rfl,.inr (.inr rfl)⟩⟩
def SR(t:ByteArray):gu t t=true:=(kD _ _).2 rfl
def SU{B:Nat}{w:World}{s:Sl}{l:List Int}(h:nY B w s l):l.length=s.n/\ah w s.a 0 (l.map (Value.int .u8)):=by have r:=ar.rd h au;refine⟨by rw[r.n,aK],vb λj hj=>?_⟩;rw[aK]at hj;have:=r.rd j [.int .u8 l[j]] (by rw[aW,cK hj];rfl) 0 _ rfl;rw[eF,aW,cK hj];simpa using this
def ac3{w u:World}(x:Ext w u){p:Option Addr}{vs:List Value}(h:ah w p 0 vs):ah u p 0 vs:=vb λj hj=>by
 have:=mR h j hj
 rw[cK hj]at this⊢
 exact x.ld this
set_option maxHeartbeats 2000000 in
def J0{w:World}{m:Int}(hm:w.cell? ⟨0,0,none⟩=some (.int .i64 m))(hT:lP w)(a0Y7:Int)(ha:cH a0Y7){a1:Sl}{txs:List ByteArray}(hr:RdK w a1 1 (txs.map sv)){a2:Sl}{ways:List Int}(hr2:RdK w a2 1 (ways.map λn=>[.int .i64 n]))(hin:∀n∈ways,cH n):
  Calls Tryz.prog 4 #[.int .i64 a0Y7,.slice a1.a a1.n a1.c,.slice a2.a a2.n a2.c] w λe w'=>e=.returned (.bool true)/\Ext w w':=by
 apply nc.vc;unfold nc.pre;have hn1:a1.n=txs.length:=by rw[hr.n,aK]
 have hn2:a2.n=ways.length:=by rw[hr2.n,aK]
 refine(R3 a0Y7 ha w hT).mono ?_;rintro _ w0Y7 ⟨a,rfl,N0⟩;refine⟨_,rfl,(R3 a0Y7 ha w0Y7 (vE hT N0.x)).mono ?_⟩;rintro _ w2Y7 ⟨b,rfl,N2Y7⟩;have W2:=agv (acE _) (afN _) N0 N2Y7;refine⟨_,rfl,Br.mk (λc=>by cases c) (λ_=>Br.mk (λc=>by cases c) (λ_ w4Y7 e4=>?_))⟩;have x4:Ext w2Y7 w4Y7:=(Ext.bT _).aZ e4;have z4:w4Y7.heap.size=w2Y7.heap.size+1:=by rw[e4];simp
 have r4:Row w4Y7 w2Y7.heap.size (eS.map Value.string) 9:=by rw[e4];exact Row.new _ (eS.map Value.string) _
 have W4Y7:Tw w [w2Y7.heap.size] a b 6 w4Y7:=W2.add x4 (ak _) aa;clear e4;refine⟨λn x u=>∃k:Nat,x=(k:Int)/\k+n=20/\Tw w [w2Y7.heap.size] a b (6+2*k) u/\Row u w2Y7.heap.size (eS.map Value.string) 9,⟨20,0,rfl,rfl,W4Y7,r4⟩,?_⟩;rintro n us x u ⟨k,rfl,hkn,W,ru⟩;have wk:IntKind.wrap .i64 ((k:Int)+1)=((k+1:Nat):Int):=by rw[wI (by unfold cH;omega)];omega
 have fin:Calls Tryz.prog 19 #[] u λe w'=>∃b:Bool,e=.returned (.bool b)/\Ending.returned (.bool b)=.returned (.bool true)/\Ext w w':=by have hm':u.cell? ⟨0,0,none⟩=some (.int .i64 m):=W.x.ld (show Vc.ld w (some ⟨0,0,none⟩)=_ from hm);refine(V4 hm').mono ?_;rintro _ v ⟨rfl,xv⟩;exact⟨_,rfl,rfl,W.x.tr xv⟩
 refine Br.mk (λc=>Br.mk (λc2=>?_) (λ_=>fin)) (λ_=>fin);have c:=of_decide_eq_true c;have c2:=of_decide_eq_true c2;have hkl:k<txs.length:=by omega
 obtain⟨tx,htx⟩:∃tx,txs[k]? =some tx:=⟨_,cK hkl⟩;have hru:=hr.ext W.x;have ahz:Vc.ld u (ae a1.a (((k:Nat):Int).toNat*1))=some (.string tx):=by have:=hru.rd k (sv tx) (by rw[aW,htx];rfl) 0 _ rfl;simpa using this
 have hfs:=ae9 tx 60;refine⟨hru.jX (i:=(k:Int)) au aa aa,tx,ahz,(afa tx 60 u).mono ?_⟩;rintro _ w12 ⟨rfl,e12⟩;rw[e12];generalize Sh tx 60=s at*;have go:∀{v:World},Ext u v->∃n10,n10<n/\∃k':Nat,IntKind.wrap .i64 ((k:Int)+1)=(k':Int)/\k'+n10=20/\Tw w [w2Y7.heap.size] a b (6+2*k') v/\Row v w2Y7.heap.size (eS.map Value.string) 9:=λx=>⟨n-1,by omega,k+1,wk,by omega,(W.ext x).up aa,ru.ext x⟩
 refine⟨s,rfl,λn x b v=>∃i:Nat,x=(i:Int)/\i+n=12/\b=(eS.take i).any (λc=>gu (q8 s) c)/\Ext u v,⟨12,0,rfl,rfl,rfl,Ext.bT _⟩,?_⟩;rintro n15 agG J3 b18 V6 ⟨i,rfl,hi,ad8,x19⟩;have wiY7:IntKind.wrap .i64 ((i:Int)+1)=((i+1:Nat):Int):=by rw[wI (by unfold cH;omega)];omega
 refine Br.mk (λd=>?_) (λd=>?_)
 ·have d:i<12:=by have:=of_decide_eq_true d;omega
  have xd:=x19.tr (Ext.dr V6);obtain⟨c,hc⟩:∃c,eS[i]? =some c:=⟨_,cK d⟩;have etk:(eS.take (i+1)).any (λc=>gu (q8 s) c)=((eS.take i).any (λc=>gu (q8 s) c)||gu (q8 s) c):=by rw[dq,hc,List.any_append];simp
  refine Br.mk (λq=>⟨n15-1,by omega,i+1,wiY7,by omega,by rw[etk,<-ad8,q];rfl,xd⟩) (λq=>?_);have lds:∀{v:World},Ext u v->Vc.ld v (ae (some ⟨w2Y7.heap.size,0,none⟩) ((i:Int).toNat*1))=some (.string c):=λx=>by have:=(ru.ext x).at i (v:=.string c) (by rw[aW,hc];rfl);simpa using this
  refine⟨⟨rfl,by omega,by omega⟩,c,lds xd,(IX s aa _).mono ?_⟩;rintro _ w22 ⟨rfl,x22⟩;refine⟨_,rfl,?_,n15-1,by omega,i+1,wiY7,by omega,by rw[etk,<-ad8,q];rfl,xd.tr x22⟩;show Vc.ld _ (ae _ 0)=_;rw[fu];exact lds (xd.tr x22)
 ·have d:i=12:=by have:=of_decide_eq_false d;omega
  subst d;rw[dN au]at ad8;refine⟨λt v=>t=Dp s/\Ext u v,(IX s aa V6).mono ?_,?_⟩
  ·rintro _ w25 ⟨rfl,x25⟩;refine⟨_,rfl,Br.mk (λq=>⟨?_,x19.tr x25⟩) (λq=>⟨?_,x19.tr x25⟩)⟩
   ·unfold Dp;rw[if_pos ((kD _ _).1 q)]
   ·unfold Dp;rw[if_neg λr=>by rw[(kD _ _).2 r]at q;cases q]
  rintro ahl t28 w29 ⟨rfl,x29⟩;refine Br.mk (λ_=>go x29) (λq=>?_);have q:b18=true:=by simpa using q
  rw[ad8]at q;obtain⟨j,c0,r0,hj,hw0,hcj,htj⟩:=abx q;have hsz:(Dp s).size<=1000:=by
   unfold Dp;split
   ·decide
   ·omega
  generalize Dp s=t at*;refine(ab5 t aa w29).mono ?_;rintro _ Yg ⟨b31,rfl,x30,ahA⟩;have afU:=x29.tr x30;refine⟨b31,rfl,Br.mk (λ_=>go afU) (λq31=>?_)⟩;have hNf:=ahA q31 c0 r0 hw0;have W30:=W.ext afU;have r30:=ru.ext afU;refine⟨λv=>Tw w [w2Y7.heap.size] a b (6+2*k+1) v/\Row v w2Y7.heap.size (eS.map Value.string) 9,Br.mk (λe=>?_) (λ_=>⟨W30.up aa,r30⟩),?_⟩
  ·have e:k<ways.length:=by have:=of_decide_eq_true e;omega
   intro w33 e33;have x33:Ext Yg w33:=(Ext.bT _).aZ e33;have z33:w33.heap.size=Yg.heap.size+1:=by rw[e33];simp
   have r33:Row w33 Yg.heap.size (ack.map Value.string) 9:=by rw[e33];exact Row.new _ (ack.map Value.string) _
   have W33:=W30.add x33 (ak _) aa;clear e33;obtain⟨y,hy⟩:∃y,ways[k]? =some y:=⟨_,cK e⟩;have hr3:=hr2.ext W33.x;have ahB:Vc.ld w33 (ae a2.a (((k:Nat):Int).toNat*1))=some (.int .i64 y):=by have:=hr3.rd k [.int .i64 y] (by rw[aW,hy];rfl) 0 _ rfl;simpa using this
   refine⟨hr3.jX (i:=(k:Int)) au aa aa,y,ahB,(S0 y 6 w33 (hin y (aQ hy)) au (by unfold cH;omega)).mono ?_⟩;rintro _ w35 ⟨rfl,e35⟩;rw[e35];have hb:=aby y 6 au;generalize CD y 6=g at*;obtain⟨g,rfl⟩:∃g':Nat,g=(g':Int):=⟨g.toNat,by omega⟩;obtain⟨t37,h37⟩:∃t,ack[g]? =some t:=⟨_,cK (show g<6 by omega)⟩;have ahC:Vc.ld w33 (ae (some ⟨Yg.heap.size,0,none⟩) ((g:Int).toNat*1))=some (.string t37):=by have:=r33.at g (v:=.string t37) (by rw[aW,h37];rfl);simpa using this
   obtain⟨s37,l37⟩:=abF (aQ h37);refine⟨_,rfl,rfl,⟨rfl,by omega,by omega⟩,t37,ahC,(W33.far aa hT aa l37).mono ?_⟩;rintro _ w38 ⟨t39,rfl,W38,k38⟩;exact⟨t39,rfl,k38 _ (List.mem_cons_self ..),W38.sub λi hi=>qQ _ hi,(r30.ext x33).same (k38 _ bo)⟩
  rintro ahp w41 ⟨W41,r41⟩;refine(W41.both aa hT aa hj hw0 hcj hNf htj).mono ?_;rintro _ w42 ⟨t43,rfl,k42,ahD⟩;refine⟨t43,rfl,ahD.mono ?_⟩;rintro _ w44 ⟨rfl,k44,W44⟩;have r44:=(r41.same (k42 _ (List.mem_cons_self ..))).same (k44 _ (List.mem_cons_self ..));refine⟨t43,rfl,Br.mk (λq=>by rw[SR]at q;cases q) (λ_=>?_)⟩;obtain⟨R,hRb,hRl,hR⟩:=W44.ahd;obtain⟨g,g',p1,p2,p3⟩:=hR (Ext.bT w44);refine p1.mono ?_;rintro _ w46 ⟨rfl,e46⟩;rw[e46];refine⟨_,rfl,(p3 g bo).1.mono ?_⟩;rintro _ w48 ⟨rfl,e48⟩;rw[e48];refine⟨_,rfl,Br.mk (λq=>by cases q) (λ_=>p2.mono ?_)⟩;rintro _ w50 ⟨rfl,e50⟩;rw[e50];refine⟨_,rfl,(p3 g' bo).1.mono ?_⟩;rintro _ w52 ⟨rfl,e52⟩;rw[e52];have xd:=Ext.dr w44;obtain⟨g1,g1',q1,q2,q3⟩:=hR xd;refine⟨_,rfl,Br.mk (λq=>by cases q) (λ_=>q1.mono ?_)⟩;rintro _ w54 ⟨rfl,e54⟩;rw[e54];refine⟨_,rfl,(q3 g1 bo).2.mono ?_⟩;rintro _ w56 ⟨s57,rfl,ahE,x56⟩;obtain⟨n57,l57⟩:=SU ahE;obtain⟨g2,g2',o1,o2,o3⟩:=hR (xd.tr x56);refine⟨s57,rfl,R,n57,l57,o2.mono ?_⟩;rintro _ w59 ⟨rfl,e59⟩;rw[e59];refine⟨_,rfl,l57,(o3 g2' bo).2.mono ?_⟩;rintro _ w61 ⟨s62,rfl,ahH,x61⟩;obtain⟨n62,l62⟩:=SU ahH;refine⟨s62,rfl,ac3 x61 l57,R,n62,l62,Br.mk (λq=>by rw[SR]at q;cases q) (λ_=>?_)⟩;have x9:=xd.tr (x56.tr x61);exact⟨n-1,by omega,k+1,wk,by omega,(W44.ext x9).up aa,r44.ext x9⟩
end Go.Proofs.YtjcnjlaelhdjeaaGreatDoor
