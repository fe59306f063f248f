import Derived.Test.YtjcnjlaelhdjeaaGreatDoorL
import Derived.Test.YtjcnjlaelhdjeaaGreatDoorE
import Derived.Test.YtjcnjlaelhdjeaaGreatDoorG
import Derived.Test.YtjcnjlaelhdjeaaGreatDoorD
import Derived.Test.YtjcnjlaelhdjeaaGreatDoorJ
set_option linter.all false
namespace Go.Proofs.YtjcnjlaelhdjeaaGreatDoor
open Go Go.Vc Go.RowKit Go.Proofs Go.iG Go.bW Go.aN Go.Code Go.dS Go.ej Go.fY
set_option maxRecDepth 100000
set_option maxHeartbeats 8000000
def PO:∀l:aa,(∀t∈l,t.size<=1000)->(Lib.join (l.map (·.data.toList)) [32]).length<=l.length*1001
 | [],_=>eG _
 |t::l,h=>by
  have i1:=PO l λx hx=>h x (qQ _ hx)
  have i2:t.data.toList.length<=1000:=a0a
  cases l with
  |nil=>simp[Lib.join,List.intercalate]at i2⊢;omega
  |cons t2 l2=>
   simp only[eH,Lib.join,List.intercalate,List.intersperse,kX,cj,cL,mV]at i1 i2⊢;omega
def iL{l:aa}(h:∀t∈l,t.size<=1000)(hn:l.length<=500):(eI l).size<=1000000:=by have h1:=PO l h;have e:=jQ (eI l);have:bl (eI l)=Lib.join (l.map (·.data.toList)) [32]:=rfl;rw[this]at e;omega
def cF{n:Int}(hn:cH n):(bI n).size<=100:=by
 unfold cH at hn;have key:(Lib.itoa n).length<=21:=by
  unfold Lib.itoa;split
  ·have:=Mi 19 n.natAbs U;simp only[cL];omega
  ·have:=Mi 19 n.toNat U;omega
 have e:=jQ (bI n);have:bl (bI n)=Lib.itoa n:=rfl;rw[this]at e;omega
def Y3{x:Int}(h:er x):(iX x).size<=100:=by
 unfold er at h;have:∀n:Fin 14,(iX ((n.val:Nat):Int)).size<=100:=by decide+kernel
 have:=this ⟨x.toNat,U⟩;rwa[show((x.toNat:Nat):Int)=x by omega]at this
def mZ{u v:au}{xs:LV}{txs:aa}(hv:v=u.alloc (.cells xs.toArray 20))(hl:txs.length=xs.length)(hn:xs.length<=500)(hit:∀(i:Nat) x t,xs[i]? =some x->txs[i]? =some t->xD v x t)(nR:∀t∈txs,t.size<=1000): ed 154 #[.slice (O u) xs.length xs.length] v (bP (eI txs)):=
 adl hv hl U hit λt ht=>a1N (nR t ht)
def all_cons{v:au}{x:aC}{t:aq}{xs:LV}{ts:aa}(h0:xD v x t)(h:∀(i:Nat) x t,xs[i]? =some x->ts[i]? =some t->xD v x t):∀(i:Nat) y s,(x::xs)[i]? =some y->(t::ts)[i]? =some s->xD v y s
 |0,y,s,h1,h2=>by cases h1;cases h2;exact h0
 |i+1,y,s,h1,h2=>h i y s h1 h2
def all_nil{v:au}{ts:aa}:∀(i:Nat) y s,([]:LV)[i]? =some y->ts[i]? =some s->xD v y s:=λi y s h=>by cases h
def Ur{u v:au}{xs:LV}{txs:aa}{x:Int}(hx:er x)(hv:v=u.alloc (.cells xs.toArray 20))(hl:txs.length=xs.length)(hn:xs.length<=500)(hit:x=0->∀w,Ext v w->∀(i:Nat) y t,xs[i]? =some y->txs[i]? =some t->xD w y t)(nR:∀t∈txs,t.size<=1000): ed 167 #[x,.slice (O u) xs.length xs.length] v (bP (if x=0 then eI txs else iX x)):=by
 apply adm.B (a1:=⟨O u,xs.length,xs.length⟩);apply Z.mk<;>intro c
 ·intro w0 e0;refine(jg e0 (pZ hx w0) (fi _)).F λw1 x1=>?_
  have:x≠0:=by simpa using c
  exact⟨_,rfl,by rw[if_neg this],(aU e0).A x1⟩
 ·have c:=eK c;refine(mZ hv hl hn (hit c v (Ext.M _)) nR).F λw1 x1=>?_
  exact⟨_,rfl,by rw[if_pos c],x1⟩
section
variable{k:Nat}{w:au}{F:Nat->Prop}{sh g s o t B ga:Nat}{M:Sm}{occ:aC}{L:Lv}{ws:aa}
def Mc.s_(h:Mc k w F sh g s o t B ga M occ L ws){u:au}(m:Mod (λi=>F i\/i=ga) w u):lP u:=h.t u m
def dK.mod{u:au}{M':Sm}{occ':aC}{L':Lv}(hr:dK F w g s o t M' occ' L' u):Mod F w u:=by obtain⟨F',-,ht⟩:=hr;exact ht.mod
def akB(M:Sm)(L:Lv)(ws:aa):Option Out:=(gz ws).bind λx=>(ks x.2).bind λ_=>some (iX (zB L x.1).1,M,(zB L x.1).2)
def PG(h:Mc k w F sh g s o t B ga M occ L ws):Y 98 #[sh,ga] w (MR k w ga F g s o t (akB M L ws)):=by
 apply BF.B;refine(h.at _).num λn r u _ m1 h1=>h1.fin λ_ h2=>⟨_,h2.ld,(Y4 h2.c.e n).F λw4 hr=>?_⟩
 refine⟨_,rfl,λw6 e6=>(jg e6 (pZ (ahZ L n) w6) (fi _)).F λw7 x7=>?_⟩;exact⟨_,rfl,h2.TL (fi _) (h2.c.i.lv (adn h2.c.i.b n)) hr ((aU e6).A x7)⟩
def adb(M:Sm)(L:Lv)(ws:aa):Option Out:=(kI ws).bind λv=>(gz v.2).bind λa=>(gz a.2).bind λb=>(ks b.2).bind λ_=>
 some (if(iP M L (nK v.1 a.1 b.1)).2.1=0 then eI [bI (iP M L (nK v.1 a.1 b.1)).1]else iX (iP M L (nK v.1 a.1 b.1)).2.1,M,(iP M L (nK v.1 a.1 b.1)).2.2)
def Mc.len(h:Mc k w F sh g s o t B ga M occ L ws):L.length=16:=by obtain⟨av,-,he,-⟩:=h.e.row;exact he.m
def JU(M:Sm)(hL:L.length=16)(b:eJ):cH (iP M L b).1:=by
 have h: -1<=th L/\th L<=L.length:=by
  rcases dm (λx:Option cQ=>x.isNone) L with⟨e,-⟩|⟨i,x,hx,-,e,-⟩
  ·unfold th;rw[e];omega
  ·unfold th;rw[e];have:=(cG.1 hx).1;omega
 unfold iP cH
 repeat' split
 all_goals (simp only;omega)
def L7(h:Mc k w F sh g s o t B ga M occ L ws):Y 97 #[sh,ga] w (MR k w ga F g s o t (adb M L ws)):=by
 apply zC.B;refine(h.at _).vec λx y z r u _ m1 h1 w4 e4 w5 e5=>?_
 have x5:Ext u w5:=Ext.L (aU e4) e5 (ak _);have z5:=yL e4 e5;have hB:=h1.le;refine(h1.ext x5).num λa r2 u2 ha m2 h2=>⟨(h1.ext x5).aV m2 hB U,?_⟩
 have z2:=m2.size;refine h2.num λb r3 u3 hb m3 h3=>⟨h2.aV m3 hB U,h3.fin λ_ h4=>⟨rfl,?_⟩⟩
 have z3:=m3.size;have h5:=h4.ext (Ext.K u3);refine⟨_,h5.ld,(Us h5.c.e (x,y,z) a b (se ha)).F λbN hr=>?_⟩;have nf:¬F u.heap.size:=λq=>by have:=h.e.lt q;have:=h1.m.size;omega
 refine⟨_,_,rfl,h5.PS hr hB a1w nf,λc9 pC=>?_⟩;have m12:Mod (λi=>F i\/i=ga) w bN:=(h5.m.mono λi _ hi=>.inr hi).trans (hr.mod.mono λi _ hi=>.inl hi);have hz:=hr.mod.size;have hz:u3.heap.size<=bN:=hz;have nR:=cF (JU M h.len (nK (x,y,z) a b));refine(Ur (ado M L _) (xs:=[.iface 3 (S (iP M L (nK (x,y,z) a b)).1)]) pC (txs:=[bI (iP M L (nK (x,y,z) a b)).1]) rfl bo (λ_ v xv=>all_cons (gP (h.s_ (m12.trans (Mod.P ((aU pC).A xv)))) (JU M h.len _)) all_nil) (λt ht=>by rw[ig.1 ht];omega)).F λbZ dw=>?_
 have xx:=(aU pC).A dw;refine⟨_,rfl,dw.heap a1u,?_⟩;refine h5.TL ?_ (h5.c.i.lv (Y5 h5.c.i.b _)) hr xx;split
 ·exact iL (λt ht=>by rw[ig.1 ht];exact cV nR X) bo
 ·exact fi _
end
def aja{D:Dk}(h:nN D):∀x∈D.l,x.2.length<=1048576:=by intro x hx;have⟨i,hi⟩:=JT.1 hx;have h1:=h.len (i+1);rw[GH hi]at h1;have h2:=B8 (qN ((D.l.take i).foldl lay D.safe) x);rw[ml]at h2;have h3:=h.r;omega
def afl{D:Dk}(h:nN D):ee D.l<=D.l.length*1048576:=Xv (aja h)
section
variable{k:Nat}{w:au}{F:Nat->Prop}{sh g s o t B ga:Nat}{M:Sm}{occ:aC}{L:Lv}{ws:aa}
def EF.qok(h:EF F w g s o t M occ L):yN M.q:=by obtain⟨Fs,hs,-⟩:=h.EN;obtain⟨-,-,-,-,hq,-⟩:=hs.queue;exact hq
def EF.dok(h:EF F w g s o t M occ L):nN M.T.1:=by obtain⟨Fw,hW,-⟩:=h.world;obtain⟨F1,hT,-⟩:=hW.table;exact hT.ok
def EF.few(h:EF F w g s o t M occ L):M.T.2.length<=16:=by obtain⟨Fw,hW,-⟩:=h.world;have:=hW.len;omega
def Inv.d(h:Inv k M L)(hk:k<=1000):M.T.1.l.length<=20000:=by have:M.T.1.l.length<=20*k:=h.n.1.d;omega
def Inv.N_(h:Inv k M L)(hk:k<=1000):qB M 500000000:=h.s.mono U
def akA(M:Sm)(L:Lv)(ws:aa):Option Out:=(ks ws).bind λ_=>some (iX (tJ M.T.1 0 (dy M L)).2,akw M L,L)
def PF(h:Mc k w F sh g s o t B ga M occ L ws):Y 96 #[sh,ga] w (MR k w ga F g s o t (akA M L ws)):=by
 apply Ch.B;have hd:=h.i.d h.z;refine(h.at _).fin λ_ h2=>⟨_,h2.ld,(YS h2.c.e U).F λw4 hr=>?_⟩
 refine⟨_,rfl,λw6 e6=>(jg e6 (pZ (ak3 _ _ _) w6) (fi _)).F λw7 x7=>?_⟩;exact⟨_,rfl,h2.TL (fi _) (h.i.s_ ((h.i.n.1.aV (h.i.rok h.e.qok)).mono U U)) hr ((aU e6).A x7)⟩
def JS(M:Sm)(L:Lv)(ws:aa):Option Out:=(ks ws).bind λ_=>some (eI [bI (gT M.T.1 M.T.2).2.1,iX (gT M.T.1 M.T.2).2.2],{M with T:=(gT M.T.1 M.T.2).1},L)
def DH(h:Mc k w F sh g s o t B ga M occ L ws):Y 93 #[sh,ga] w (MR k w ga F g s o t (JS M L ws)):=by
 apply u6.B;have hd:=h.i.d h.z;have h16:=h.e.few;refine(h.at _).fin λ_ h2=>?_
 obtain⟨Fs,hS,Eu,-,-⟩:=h2.c.e.EN;have⟨Fw,hW,bq⟩:=h2.c.e.world;refine⟨_,h2.ld,cA.2 ⟨rfl,cA.2 ⟨rfl,O s,Eu,(cZ hS).V ?_⟩⟩⟩;refine⟨_,rfl,(gx hW).V ?_⟩;refine⟨_,rfl,(DE hW U).F λw7 hr=>?_⟩;have hr:=bq hr;have⟨q1,q2,q3⟩:=afm M.T.2 M.T.1 [] 0 (jI 0);have px:cH (gT M.T.1 M.T.2).2.1:=by unfold cH;unfold gT;omega
 have fD:=cF px;have yL:=Y3 q1;have m7:Mod (λi=>F i\/i=ga) w w7:=(h2.m.mono λi _ hi=>.inr hi).trans (hr.mod.mono λi _ hi=>.inl hi);have nR:∀t∈[bI (gT M.T.1 M.T.2).2.1,iX (gT M.T.1 M.T.2).2.2],t.size<=1000:=λt ht=>by
  rcases cu.1 ht with rfl|ht
  ·omega
  ·rw[ig.1 ht];exact cV yL X
 refine⟨_,_,rfl,λbr vv=>(mZ (xs:=[.iface 3 (S _),.iface 168 (S _)]) vv (txs:=[bI (gT M.T.1 M.T.2).2.1,iX (gT M.T.1 M.T.2).2.2]) rfl bo (all_cons (gP (h.t _ (m7.trans (Mod.P (aU vv)))) px) (all_cons (pZ q1 br) all_nil)) nR).F λbE bS=>?_⟩;refine⟨_,rfl,h2.TL (iL nR bo) (h.i.s_ ((h.i.n.1.ark (D:=M.T.1) (l:=M.T.2)).mono U U)) hr ((aU vv).A bS)⟩
def akz(M:Sm)(L:Lv)(ws:aa):Option Out:=(gz ws).bind λx=>(ks x.2).bind λ_=>some (ka4 #[111,107],{M with T:=(om M.T.1 x.1,M.T.2)},L)
def L5(h:Mc k w F sh g s o t B ga M occ L ws):Y 94 #[sh,ga] w (MR k w ga F g s o t (akz M L ws)):=by
 apply Cf.B;refine(h.at _).num λn r u hn m1 h1=>h1.fin λ_ h2=>?_
 obtain⟨Fs,hS,Eu,-,-⟩:=h2.c.e.EN;have⟨Fw,hW,bq⟩:=h2.c.e.world;refine⟨_,h2.ld,cA.2 ⟨rfl,cA.2 ⟨rfl,O s,Eu,(cZ hS).V ?_⟩⟩⟩;refine⟨_,rfl,(gx hW).V ?_⟩;obtain⟨F1,hT,-,hrt⟩:=hW.table;have⟨st,d,g1,g2,g3⟩:=am9 hT;refine⟨_,rfl,cA.2 ⟨rfl,cA.2 ⟨rfl,_,g1,cA.2 ⟨rfl,cA.2 ⟨rfl,cA.2 ⟨rfl,_,g2,(g3 n (se hn)).F λbE hr=>?_⟩⟩⟩⟩⟩⟩;refine⟨rfl,λbN ui=>(jg ui .ok X).F λbw cJ=>?_⟩;exact⟨_,rfl,h2.TL X (h.i.s_ ((h.i.n.1.fail (D:=M.T.1) (l:=M.T.2) n).mono U U)) (bq (hrt hr)) ((aU ui).A cJ)⟩
def ana{l:List dS.It}(h:∀x∈l,M_ x):okW l:=λx hx=>by
 have⟨h1,h2⟩:=h x hx
 unfold Cn at h1
 unfold An
 omega
def anb{q:QS}(h:yN q):yN ⟨4096,0,q.l.take 2000⟩:=by
 refine⟨⟨by show(1:Int)<=4096;decide,by show(4096:Int)<=4096;decide⟩,?_,h.sorted.sublist (List.take_sublist ..),?_⟩
 ·show(((q.l.take 2000).length:Nat):Int)<=4096;rw[cS];omega
 ·show((q.l.take 2000).map _).Nodup;rw[List.map_take];exact h.nodup.sublist (List.take_sublist ..)
def ajb{L:Lv}(h:kx L):okR L:=by intro i y hy;have hm:=h y (uQ hy);have⟨h1,h2,h3,h4⟩:=kj.1 hm;refine⟨hm,λn hn=>?_⟩;unfold c8 at h3 h4;unfold An;simp only[cu,iT,or_false]at hn;rcases hn with rfl|rfl|rfl|rfl|rfl|rfl|rfl|rfl<;>omega
open Classical in
noncomputable def HN(D:Dk):Option (Sm×Lv):=if h:∃x:Sm×Lv,w_ x.1 x.2/\(Go.bW.pU D 0).1=dy x.1 x.2/\(Go.bW.pU D 0).2.2=true then some (Classical.choose h)else none
def KO{D:Dk}{x:Sm×Lv}(h:HN D=some x):w_ x.1 x.2/\(Go.bW.pU D 0).1=dy x.1 x.2/\(Go.bW.pU D 0).2.2=true:=by
 unfold HN at h;split at h
 ·rename_i q
  cases h
  exact Classical.choose_spec q
 ·cases h
def aa4{D:Dk}(hk:KR D)(h:HN D=none):(Go.bW.pU D 0).2.2=false:=by
 unfold HN at h;split at h
 ·cases h
 ·rename_i q;rcases hk.ld with e|⟨M,L,e⟩
  ·exact e
  ·exact absurd ⟨(M,L),e⟩ q
noncomputable def yr(M:Sm)(n:Int):Sm×Lv:=match HN (cw M.T.1 n).1 with
 |some x=>({M with T:=((cw M.T.1 n).1,[]),q:=⟨4096,0,x.1.q.l.take 2000⟩,now:=x.1.now},wF x.2 (bh x.2))
 |none=>({M with T:=((cw M.T.1 n).1,[]),q:=⟨4096,0,[]⟩,now:=0},OT)
def anc{L:Lv}{d:ab}{y:cQ}(h:some y∈wF L d):∃z,some z∈L/\y.1=z.1:=by
 unfold wF at h;obtain⟨i,-,h⟩:=bc.1 h;split at h
 ·obtain⟨z,hz,rfl⟩:=wM.1 h;exact⟨z,uQ hz,rfl⟩
 ·cases h
def Inv.Dr(h:Inv k M L)(n:Int):Inv (k+1) (yr M n).1 (yr M n).2:=by
 have ht:nI (k+1) (20*(k+1)) ((cw M.T.1 n).1,[]):=(h.n.1.Dr (D:=M.T.1) (l:=M.T.2) n).mono U U;have hs:qB M (300000*(k+1)):=h.s.mono U;unfold yr
 cases hk:HN (cw M.T.1 n).1 with
 |none=>exact⟨λy hy=>(by cases (Pd.1 hy).2),⟨⟨jI 0,hX⟩,hs.c,⟨jI 0,a0r⟩,hs.d⟩,⟨ht,λx hx=>(by cases hx),jI 0,a0r⟩,h.u⟩
 |some x=>
  obtain⟨hr,-,-⟩:=KO hk;refine⟨λy hy=>?_,⟨⟨jI 0,hX⟩,hs.c,hr.n,hs.d⟩,⟨ht,λy hy=>hr.q y (nZ hy),hr.n⟩,h.u⟩;have⟨z,hz,e⟩:=anc hy;show y.1.may=true;rw[e];exact hr.b z hz
def afn(h:EF F w g s o t M occ L)(hI:Inv k M L)(hk:k<=1000)(n:Int):Y 123 #[g,n] w λe w'=>e=S (cw M.T.1 n).2/\dK F w g s o t (yr M n).1 occ (yr M n).2 w':=by
 have hd:=hI.d hk;have hl:=afl h.dok;have TE:ee M.T.1.l<=1099511627776:=cV hl U;have hc:(cw M.T.1 n).1.l.length<=1000000:=eG _;unfold yr
 cases hk:HN (cw M.T.1 n).1 with
 |none=>exact R3 h n U TE hc (aa4 (hI.n.1.r.Dr n) hk)
 |some x=>
  have⟨hr,h1,h2⟩:=KO hk;exact Sa h n U TE hc ⟨h1,h2⟩ (ajb hr.b) (ana hr.q) hr.n (anb hr.o)
noncomputable def ada(M:Sm)(ws:aa):Option Out:=(gz ws).bind λx=>(ks x.2).bind λ_=>some (eI [bI (cw M.T.1 x.1).2],yr M x.1)
def IK(h:Mc k w F sh g s o t B ga M occ L ws):Y 95 #[sh,ga] w (MR k w ga F g s o t (ada M ws)):=by
 apply AJ.B;refine(h.at _).num λn r u _ m1 h1=>h1.fin λ_ h2=>⟨_,h2.ld,(afn h2.c.e h2.c.i h.z n).F λw4 hr=>?_⟩
 have hd:=h.i.d h.z;have hl:=afl h.e.dok;have px:cH (cw M.T.1 n).2:=by have:nq M.T.1 n=min (max n 0) (ee M.T.1.l):=rfl;have e:(cw M.T.1 n).2=ee M.T.1.l-nq M.T.1 n:=rfl;have:ee M.T.1.l<=20000*1048576:=cV hl (tf _ hd);unfold cH;omega
 have fD:=cF px;have m4:Mod (λi=>F i\/i=ga) w w4:=(h2.m.mono λi _ hi=>.inr hi).trans (hr.mod.mono λi _ hi=>.inl hi);have nR:∀t∈[bI (cw M.T.1 n).2],t.size<=1000:=λt ht=>by rw[ig.1 ht];omega
 refine⟨_,rfl,λw6 e6=>(mZ (xs:=[.iface 3 (S _)]) e6 (txs:=[bI (cw M.T.1 n).2]) rfl bo (all_cons (gP (h.t _ (m4.trans (Mod.P (aU e6)))) px) all_nil) nR).F λw7 x7=>?_⟩;exact⟨_,rfl,h2.TL (iL nR bo) (h2.c.i.Dr n) hr ((aU e6).A x7)⟩
end
section
variable{k:Nat}{w w0:au}{F:Nat->Prop}{sh g s o t B ga:Nat}{M:Sm}{occ:aC}{L:Lv}{ws:aa}{R:l_}
def Mc.ok(h:Mc k w F sh g s o t B ga M occ L ws):ES 70368744177664 L:=h.i.b.ok
def Mc.N_(h:Mc k w F sh g s o t B ga M occ L ws):qB M 800000000:=(h.i.N_ h.z).mono U
def Mc.wide(h:Mc k w F sh g s o t B ga M occ L ws){c:Ce}{b:Int}(h0:(jo M.T.2 c b).2=0):fh c:=by have⟨hy,e,he,hp⟩:=KM h0;have:=Sn (by rw[<-hp];exact(h.i.n.1.e e he).1) hy;unfold fh;omega
def At.nf{p:Option Out}(h:At k w0 w F sh g s o t B ga M occ L ws R p){b:Nat}(hb:w0<=b)(h0:EF F w0 g s o t M occ L):¬F b:=λq=>a1N (h0.lt q)
def At.own{u:au}{ws0:aa}{p:Option Out}(h:At k w0 w F sh g s o t B ga M occ L ws R p)(h0:Mc k w0 F sh g s o t B ga M occ L ws0){b:Nat}(hb:w0<=b)(m:Mod (λi=>i=b) w u):At k w0 u F sh g s o t B ga M occ L ws R p:=by
 have hs:=h0.r.row.lt;have hB:=h0.a.le;have hg:=h0.a.lt;have hz:=m.size;have hz0:=h.m.size;have hm:Mod (λi=>i=ga) w0 u:=h.m.A m λi hi=>.inr U
 exact⟨⟨h.c.e.same λi hi=>m.same i (h.c.e.lt hi) (λq=>a1N (h0.e.lt hi)),⟨h.c.r.row.same (m.same sh h.c.r.row.lt U)⟩,h.c.a.aV U λi hi=>m.same i U U,h0.f,h0.n,h0.i,λu' m'=>h0.t u' ((hm.mono λi _ hi=>.inr hi).trans m'),h0.z,h0.q⟩,hm,h.r⟩
def akC(M:Sm)(L:Lv)(ws:aa):Option Out:=(gz ws).bind λn=>(gz n.2).bind λx=>(gz x.2).bind λz=>(Da z.2).bind λj=>(adV (gu j.1 ⟨#[48]⟩||gu j.1 ⟨#[49]⟩)).bind λ_=>(ks j.2).bind λ_=>
 some (iX (A2 L n.1 (x.1,z.1,gu j.1 ⟨#[49]⟩)).1,M,(A2 L n.1 (x.1,z.1,gu j.1 ⟨#[49]⟩)).2)
def PH(h:Mc k w F sh g s o t B ga M occ L ws):Y 99 #[sh,ga] w (MR k w ga F g s o t (akC M L ws)):=by
 apply Ci.B;refine (h.at _).num λn r u _ m1 h1=>h1.num λx r2 u2 _ m2 h2 w4 e4 w5 e5=> ?_
 have x5:Ext u2 w5:=Ext.L (aU e4) e5 (ak _);have z5:=yL e4 e5;have hB:=h2.le;have IB:=h2.m.size;have h5:=h2.ext x5;refine h5.num λz r3 u3 _ m3 h3=>⟨h5.aV m3 hB U,λw8 e8=> ?_⟩
 have z3:=m3.size;have m8:=iu u3 u2.heap.size #[S x,S z,false];rw [<-e8] at m8;have z8:=m8.size;have h8:=h3.own h IB m8;refine h8.word λj r4 u4 _ m4 h4=>⟨h8.aV m4 hB U,Z.mk (λc=> ?_) (λc=> ?_)⟩
 all_goals
  have z4:=m4.size
  refine h4.amt (by rw [c];rfl) λ_ h5=>⟨rfl,λbN ui=> ?_⟩
  have m12:=iu u4 u2.heap.size #[S x,S z,.bool (gu j (ByteArray.mk #[49]))]
  rw [<-ui] at m12
  have z12:=m12.size
  have h6:=(h5.own h IB m12)
  refine h6.fin λ_ h7=>⟨rfl,?_⟩
  have h9:=h7.ext (Ext.K bN)
  refine ⟨_,h9.ld,(abw h9.c.e n (x,z,gu j (ByteArray.mk #[49]))).F λc9 hr=> ?_⟩
  have hz:bN.heap.size<=c9:=hr.mod.size
  refine ⟨_,rfl,h9.PS hr hB (by show _<bN.heap.size;omega) (h9.nf IB h.e),λcP ug=>(jg ug (pZ (ajn L n (x,z,gu j (ByteArray.mk #[49]))) cP) (fi _)).F λdA dc=> ?_⟩
  exact ⟨_,rfl,dc.heap (by rw [ug];simp;omega),h9.TL (fi _) (h.i.lv (afi h.i.b n (x,z,gu j (ByteArray.mk #[49])))) hr ((aU ug).A dc)⟩
def ade(M:Sm)(L:Lv)(ws:aa):Option Out:=(gz ws).bind λn=>(kI n.2).bind λv=>(ZF v.2).bind λb=>(ks b.2).bind λ_=>some (iX (sW M L n.1 v.1 b.1).1,(sW M L n.1 v.1 b.1).2,L)
def L8(h:Mc k w F sh g s o t B ga M occ L ws):Y 100 #[sh,ga] w (MR k w ga F g s o t (ade M L ws)):=by
 apply AK.B;refine(h.at _).num λn r u _ m1 h1=>h1.vec λx y z r2 u2 _ m2 h2 w4 e4 w5 e5=>?_
 have x5:Ext u2 w5:=Ext.L (aU e4) e5 (ak _);have z5:=yL e4 e5;have hB:=h2.le;have IB:=h2.m.size;have h5:=h2.ext x5;refine h5.D λb r3 u3 _ m3 h3=>⟨h5.aV m3 hB U,h3.fin λ_ h4=>⟨rfl,?_⟩⟩
 have z3:=m3.size;have h6:=h4.ext (Ext.K u3);refine⟨_,h6.ld,(SY h6.c.e h.ok X n (x,y,z) b h.N_).F λbN hr=>?_⟩;have hz:u3.heap.size<=bN:=hr.mod.size;refine⟨_,rfl,h6.PS hr hB a1w (h6.nf IB h.e),λc9 pC=>(jg pC (pZ (afG M L n (x,y,z) b) c9) (fi _)).F λbZ dw=>?_⟩;exact⟨_,rfl,dw.heap a1u,h6.TL (fi _) (h.i.place n (x,y,z) b) hr ((aU pC).A dw)⟩
def akD(M:Sm)(L:Lv)(ws:aa):Option Out:=(kI ws).bind λc=>(ZF c.2).bind λb=>(ks b.2).bind λ_=>some (iX (iA M L c.1 b.1).1,(iA M L c.1 b.1).2,L)
def L9(h:Mc k w F sh g s o t B ga M occ L ws):Y 101 #[sh,ga] w (MR k w ga F g s o t (akD M L ws)):=by
 apply Cj.B;refine(h.at _).cell λx y z r2 u2 hc m2 h2 w4 e4 w5 e5=>?_
 have x5:Ext u2 w5:=Ext.L (aU e4) e5 (ak _);have z5:=yL e4 e5;have hB:=h2.le;have IB:=h2.m.size;have h5:=h2.ext x5;refine h5.D λb r3 u3 _ m3 h3=>⟨h5.aV m3 hB U,h3.fin λ_ h4=>⟨rfl,?_⟩⟩
 have z3:=m3.size;have h6:=h4.ext (Ext.K u3);refine⟨_,h6.ld,(Dx h6.c.e h.ok (x,y,z) b (Xi hc) h.wide h.N_).F λbN hr=>?_⟩;have hz:u3.heap.size<=bN:=hr.mod.size;refine⟨_,rfl,h6.PS hr hB a1w (h6.nf IB h.e),λc9 pC=>(jg pC (pZ (Oq M L (x,y,z) b) c9) (fi _)).F λbZ dw=>?_⟩;exact⟨_,rfl,dw.heap a1u,h6.TL (fi _) (h.i.afF L (x,y,z) b) hr ((aU pC).A dw)⟩
def adf(M:Sm)(L:Lv)(ws:aa):Option Out:=(gz ws).bind λn=>(kI n.2).bind λv=>(ks v.2).bind λ_=>
 some (if(mE M L n.1 v.1).1.2=0 then eI [kE (mE M L n.1 v.1).1.1]else iX (mE M L n.1 v.1).1.2,(mE M L n.1 v.1).2,L)
def yi(b:Int):(kE b).size<=100:=by
 unfold kE;split
 ·exact eG _
 ·rw[dG]
  cases h:u_[b.toNat]? with
  |none=>exact eG _
  |some x=>
   have hx:=aQ h;have:∀x∈u_,x.size<=100:=by decide+kernel
   exact this x hx
def Ma(h:Mc k w F sh g s o t B ga M occ L ws):Y 102 #[sh,ga] w (MR k w ga F g s o t (adf M L ws)):=by
 apply ye.B;refine(h.at _).num λn r u _ m1 h1=>h1.vec λx y z r2 u2 _ m2 h2 w4 e4 w5 e5=>?_
 have x5:Ext u2 w5:=Ext.L (aU e4) e5 (ak _);have z5:=yL e4 e5;have hB:=h2.le;have IB:=h2.m.size;have h5:=h2.ext x5;refine h5.fin λ_ h4=>⟨rfl,?_⟩
 have h6:=h4.ext (Ext.K w5);refine⟨_,h6.ld,(SZ h6.c.e h.ok X n (x,y,z) h.N_).F λbr hr=>?_⟩;have hz:w5.heap.size<=br:=hr.mod.size;refine⟨_,_,rfl,h6.PS hr hB (by show _<w5.heap.size;omega) (h6.nf IB h.e),(kl _ br).F λbw cJ=>?_⟩;have zx:=cJ.size;refine⟨_,rfl,cJ.k,λc9 pC=>(Ur (anm M L n (x,y,z)) (xs:=[.iface 9 (.string _)]) pC (txs:=[kE (mE M L n (x,y,z)).1.1]) rfl bo (λ_ v xv=>all_cons (.s _) all_nil) (λt ht=>by rw[ig.1 ht];exact cV (yi _) X)).F λbZ dw=>?_⟩;refine⟨_,rfl,dw.heap a1u,h6.TL ?_ (h.i.brk n (x,y,z)) hr (cJ.A ((aU pC).A dw))⟩;split
 ·exact iL (λt ht=>by rw[ig.1 ht];exact cV (yi _) X) bo
 ·exact fi _
end
open Tryz
variable{R:l_}{w:au}{a0 a1 a2:Int}
def Cs.B{a0:Addr}{a1:Addr}(h:(λA=>Y 152 #[a1] w (Qp R (fw λx1 w0=>Y 166 #[a1] w0 (Qp R (zK λx3 x4 x5 w2=>G w2 #[J,J,J] 73 λw6=>Sw w6 w2 #[x3,x4,x5] λw7=>Y 153 #[a1] w7 (Qp R (Rt λw8=>Kp w2 w7 w8/\∃J9:Int->ai->k_,(eO w8.drew (N (some a0) 0) λIe=>(λAa=>(Y 131 Aa w8.drew (Qp R (Y_ λcr cJ cY dn dw dO dc bE=>Kp w2 w8.drew bE/\G bE A 184 λfm=>Sw fm bE #[cr,cJ,cY,dn,dw,dO] λeQ=>aR [x3,x4,x5]/\J9 dc (O bE) eQ)))/\(G w8.drew A 184 λdi=>Y 131 Aa di (Qp R (Y_ λiB jn gG nU jl rC kz dh=>Kp w2 di dh/\ox w8 di dh/\Sw dh w8.drew.heap.size #[iB,jn,gG,nU,jl,rC] λpw=>aR [x3,x4,x5]/\J9 kz (O w8.drew.heap.size) pw)))) #[Ie,x1,.agg #[x3,x4,x5]])/\∀asf:Nat->aC,∀(mP:Int)(Bp:ai)(ke:au),J9 mP Bp ke->aO (eE Bp) (jr ke.drew (N Bp 3) λpy=>aO (eE Bp) (aO (eE (N Bp 0)) (jr ke.drew (N (N Bp 0) 0) λoP=>aO (eE Bp) (aO (eE (N Bp 0)) (jr ke.drew (N (N Bp 0) 1) λmO=>aO (eE Bp) (aO (eE (N Bp 0)) (jr ke.drew (N (N Bp 0) 2) λnC=>aO (eE Bp) (jr ke.drew (N Bp 4) λrq=>aO (eE Bp) (jr ke.drew (N Bp 5) λrE=>Y 170 #[py] ke.drew (Qp R (lu λt42 kO=>Kp w2 ke.drew kO/\ah kO (N Bp 5) 0 [rE]/\ah kO (N Bp 4) 0 [rq]/\ah kO (N (N Bp 0) 2) 0 [nC]/\ah kO (N (N Bp 0) 1) 0 [mO]/\ah kO (N (N Bp 0) 0) 0 [oP]/\G kO #[.iface 9 (.string t42),.iface 3 (oP),.iface 3 (mO),.iface 3 (nC),.iface 3 (rq),.iface 3 (rE)] 20 λiO=>Y 167 #[mP,.slice (O kO) 6 6] iO (Qp R (lu λt45 kf=>Kp w2 iO kf/\ah kf (N Bp 5) 0 [rE]/\ah kf (N Bp 4) 0 [rq]/\ah kf (N (N Bp 0) 2) 0 [nC]/\ah kf (N (N Bp 0) 1) 0 [mO]/\ah kf (N (N Bp 0) 0) 0 [oP]/\R (bP t45) kf)))))))))))))))))))) #[J,J,J,J,J,J]):Y 103 #[a0,a1] w R:=
 k7 (an:=⟨[],[(5,⟨[(8,.int .i64),(7,.ptr)],[],[]⟩)],[]⟩) (args:=[.pointer (some a0),.pointer (some a1)]) Tryz.Zp Tryz.mixed func103 h (by kernel_rfl)
def DT.B{a0:Addr}(h: rP (λI0 n1=>I0 n1 (31) w) λI0 n1 Bn x3 w4=>Z (x3>=0) (eO w4 (N (some a0) 0) λp6=>Y 113 #[p6,.agg #[a1,x3,a2]] w4 (fw λx8 w7=>Z (x8==(-1)) (R (S (-2)) w7) (Z (x8==0) (∃n5,n5<n1/\I0 n5 ((I (x3-1))) w7) (R x3 w7)))) (R (S (-1)) w4)):Y 134 #[a0,a1,a2] w R:= cq (Mq 2 7) func134 h
def Xh{w:au}(hT:lP w){x y z:Int}(hx:cH x)(hy:cH y)(hz:cH z):xD w (.iface 73 (.agg #[x,y,z])) (eI [bI x,bI y,bI z]):=
 .v x y z _ λu v xu e=>mZ (xs:=[.iface 3 (S x),.iface 3 (S y),.iface 3 (S z)]) e rfl bo
  (all_cons (gP (vE hT (xu.aZ e)) hx) (all_cons (gP (vE hT (xu.aZ e)) hy) (all_cons (gP (vE hT (xu.aZ e)) hz) all_nil)))
  λt ht=>by have h1:=cF hx;have h2:=cF hy;have h3:=cF hz;simp only[cu,iT,or_false]at ht;rcases ht with rfl|rfl|rfl<;>omega
def adv{w:au}(hT:lP w)(b:aX):xD w (.iface 4 (.bool b)) (eI [bI (if b then 1 else 0)]):=by
 have hi:cH (if b then 1 else 0):=by unfold cH;cases b<;>decide
 exact .b b _ λu v xu e=>mZ (xs:=[.iface 3 (S (if b then 1 else 0))]) e rfl bo (all_cons (gP (vE hT (xu.aZ e)) hi) all_nil)
  λt ht=>by rw[ig.1 ht];exact cV (cF hi) X
def J2{x y z:Int}(hx:cH x)(hy:cH y)(hz:cH z):(eI [bI x,bI y,bI z]).size<=1000:=by
 have h1:=cF hx;have h2:=cF hy;have h3:=cF hz;have e:=jQ (eI [bI x,bI y,bI z]);have e1:=jQ (bI x);have e2:=jQ (bI y);have e3:=jQ (bI z);have:bl (eI [bI x,bI y,bI z])=bl (bI x)++32::(bl (bI y)++32::bl (bI z)):=by show Lib.join [bl (bI x),bl (bI y),bl (bI z)] [32]=_;simp[Lib.join,List.intercalate]
 rw[this]at e;simp at e;omega
section
variable{k:Nat}{w w0:au}{F:Nat->Prop}{sh g s o t B ga:Nat}{M:Sm}{occ:aC}{L:Lv}{ws:aa}{R:l_}
def YX(M:Sm)(L:Lv)(ws:aa):Option Out:=(kI ws).bind λc=>(ks c.2).bind λ_=>some (qS (jc M.T.2 c.1),M,L)
def UE(b:Int):(qS b).size<=1000000:=by
 unfold qS;split
 ·decide
 ·exact BJ b
def Ug(h:Mc k w F sh g s o t B ga M occ L ws):Y 104 #[sh,ga] w (MR k w ga F g s o t (YX M L ws)):=by
 refine J5 h.e h.r h.a h.f h.n BJ _ ?_ ?_
 ·intro lp u m;have e:YX M L ws=none:=by
   unfold YX
   cases hp:kI ws with
   |none=>rfl
   |some x=>
    have⟨c,r⟩:=x;show(ks r).bind _=none;unfold ks;rw[if_neg λq=>lp c (by rw[hp,q])];rfl
  rw[e];exact MR.bad m
 ·intro c hp;refine⟨Xi hp,λu m=>?_⟩;have e:YX M L ws=some (qS (jc M.T.2 c),M,L):=by unfold YX;rw[hp];rfl
  rw[e];exact MR.same h (UE _) m (Ext.M _)
def Zg{F:Nat->Prop}{w:au}{o t:Nat}{aj limit:Int}{T:Tb}{ch:List Cg}(h:WF F w o t aj limit T ch)(x z:Int)(hx:cH x)(hz:cH z): ed 134 #[o,x,z] w (S (vV T.2 x z 32)):=by
 obtain⟨F1,sc,hT,hR,hO,rfl⟩:=id h;apply DT.B;refine⟨λn y w'=>y+1=n/\y<=31/\Ext w w'/\vV T.2 x z 32=vV T.2 x z n,⟨32,U,U,Ext.M _,rfl⟩,?_⟩;rintro n us y w4 ⟨hy,aFM,x4,he⟩;apply Z.mk<;>intro c
 ·replace c:=lM c;obtain⟨k,rfl⟩:∃k:Nat,n=k+1:=⟨n-1,U⟩;have hyk:y=(k:Nat):=by omega
  subst hyk;refine⟨_,(hR.ext x4).at 0 rfl,(Bw (hT.ext x4) (x,(k:Int),z) ⟨hx,(show cH (k:Int)by unfold cH;omega),hz⟩).F λw7 x7=>?_⟩;refine⟨_,rfl,Z.mk (λc1=>?_) (λc1=>Z.mk (λc2=>?_) (λc2=>?_))⟩
  ·simp only[beq_iff_eq]at c1;refine⟨?_,x4.A x7⟩;rw[he];unfold vV;rw[if_pos c1]
  ·simp only[beq_eq_false_iff_ne]at c1;simp only[beq_iff_eq]at c2;have wr:I ((k:Int)-1)=(k:Int)-1:=wI;refine⟨k,U,?_⟩;rw[wr];refine⟨U,U,x4.A x7,?_⟩;rw[he];show vV T.2 x z (k+1)=_;rw[vV,if_neg c1,if_pos c2]
  ·simp only[beq_eq_false_iff_ne]at c1 c2;refine⟨?_,x4.A x7⟩;rw[he];unfold vV;rw[if_neg c1,if_neg c2]
 ·replace c:=lW c;have:n=0:=by omega
  subst this;exact⟨by rw[he];rfl,x4⟩
def aqN(M:Sm)(L:Lv)(ws:aa):Option Out:=(xC ws).bind λp=>(ks p.2).bind λ_=>some (eI [bI (vV M.T.2 p.1.1 p.1.2 32)],M,L)
def ah8{p:Int×Int}{r:aa}(h:xC ws=some (p,r)):cH p.1/\cH p.2:=by
 unfold xC at h;split at h
 ·cases h
 ·rename_i x r1 h1;split at h
  ·cases h
  ·rename_i z r2 h2
   cases h
   exact⟨se h1,se h2⟩
def Uh(h:Mc k w F sh g s o t B ga M occ L ws):Y 105 #[sh,ga] w (MR k w ga F g s o t (aqN M L ws)):=by
 apply DU.B;refine(h.at _).pos λx z r u hp m1 h1 w4 e4 w5 e5=>?_
 have x5:Ext u w5:=Ext.L (aU e4) e5 (ak _);have z5:=yL e4 e5;have hB:=h1.le;have⟨hx,hz⟩:=ah8 hp;refine(h1.ext x5).fin λ_ h4=>⟨rfl,?_⟩
 have hb:Row w5.drew u [S x,S z] 139:=by
  have:Row w5 u [S x,S z] 139:=by have hr4:Row w4 u [J,J] 139:=Row.nw e4;rw[e5];exact hr4.set [_,_]
  exact this.ext (Ext.K w5)
 have h5:=h4.ext (Ext.K w5);have hsh:=h5.c.r.row;obtain⟨Fs,hS,Eu,-,-⟩:=h5.c.e.EN;obtain⟨Fw,hW,-,-⟩:=hS.world;refine⟨_,h5.ld,cA.2 ⟨rfl,cA.2 ⟨rfl,O s,Eu,(cZ hS).V ?_⟩⟩⟩;have ls:∀{v:au},Ext w5.drew v->ah v (N (O sh) 0) 0 [g]:=λxv=>by rw[aF];exact(hsh.ext xv).y (λj _=>by simp)
 refine⟨_,rfl,rfl,hb.y (o:=1) (λj hj=>a04),hb.y (o:=0) (λj hj=>a04),ls (Ext.M _),(Zg hW x z hx hz).F λbr bL=>?_⟩;have hs5:=nV w5;have zx:=bL.size;have hT:=WU M.T.2 x z 32;have px:cH (vV M.T.2 x z 32):=XN
 have fD:=cF px;have nR:∀t∈[bI (vV M.T.2 x z 32)],t.size<=1000:=λt ht=>by rw[ig.1 ht];omega
 refine⟨_,rfl,bL.k,ls bL,λbN ui=>?_⟩;have cr:=bL.aZ ui;refine(mZ (xs:=[.iface 3 (S _)]) ui (txs:=[bI (vV M.T.2 x z 32)]) rfl bo (all_cons (gP (h.t _ ((h5.m.mono λi _ hi=>.inr hi).trans (Mod.P cr))) px) all_nil) nR).F λbw cJ=>?_
 exact⟨_,rfl,cJ.heap (by rw[ui];simp;omega),ls (cr.A cJ),h5.same (iL nR bo) (cr.A cJ)⟩
def akF(M:Sm)(L:Lv)(ws:aa):Option Out:=(gz ws).bind λn=>(ks n.2).bind λ_=>
 some (if(dJ L n.1).2=true then eI [eI [bI (dJ L n.1).1.aw.1,bI (dJ L n.1).1.aw.2.1,bI (dJ L n.1).1.aw.2.2],eI [bI (dJ L n.1).1.speed.1,bI (dJ L n.1).1.speed.2.1,bI (dJ L n.1).1.speed.2.2],eI [bI (if(dJ L n.1).1.fG then 1 else 0)]]else ka4 #[110,111,110,101],M,L)
def ah9(h:kx L)(n:Int):(cH (dJ L n).1.aw.1/\cH (dJ L n).1.aw.2.1/\cH (dJ L n).1.aw.2.2)/\cH (dJ L n).1.speed.1/\cH (dJ L n).1.speed.2.1/\cH (dJ L n).1.speed.2.2:=by
 unfold dJ
 cases hy:cE L n with
 |none=>unfold cH adw;decide
 |some y=>
  have hm:y.1.may=true:=h y (by
   unfold cE at hy;split at hy
   ·exact aQ (J6.1 hy)
   ·cases hy)
  obtain⟨-,-,h3,h4⟩:=kj.1 hm;unfold c8 at h3 h4;unfold cH;simp only;omega
def PJ(h:Mc k w F sh g s o t B ga M occ L ws):Y 106 #[sh,ga] w (MR k w ga F g s o t (akF M L ws)):=by
 apply BK.B;refine(h.at _).num λn r u _ m1 h1=>h1.fin λ_ h2=>⟨_,h2.ld,(J7 h2.c.e n).F λw4 x4=>?_⟩
 refine⟨_,_,_,_,_,_,_,_,_,_,rfl,λc9 pC bZ CH=>?_⟩;have dw:Ext u bZ:=x4.A (Ext.L (aU pC) CH (ak _));have z16:=yL pC CH;refine Z.mk (λc=>λcP ug=>?_) (λc=>λeQ wx=>?_)
 ·have c:(dJ L n).2=false:=by simpa using c
  refine(jg ug (.s _) X).F λdA dc=>?_
  refine⟨_,rfl,dc.heap (by rw[ug];simp;omega),?_⟩;have h3:=h2;simp only[c,Bool.false_eq_true,if_false]at h3;exact h3.same X ((dw.aZ ug).A dc)
 ·have c:(dJ L n).2=true:=by simpa using c
  have⟨⟨f1,f2,f3⟩,s1,s2,s3⟩:=ah9 h.i.b n;have hb:cH (if(dJ L n).1.fG then 1 else 0):=by unfold cH;split<;>decide
  have hT:lP eQ:=h.t _ ((h2.m.mono λi _ hi=>.inr hi).trans (Mod.P (dw.aZ wx)));have j1:(eI [bI (if(dJ L n).1.fG then 1 else 0)]).size<=1000:=by rw[join_one];exact cV (cF hb) X
  have nR:∀t∈[eI [bI (dJ L n).1.aw.1,bI (dJ L n).1.aw.2.1,bI (dJ L n).1.aw.2.2],eI [bI (dJ L n).1.speed.1,bI (dJ L n).1.speed.2.1,bI (dJ L n).1.speed.2.2],eI [bI (if(dJ L n).1.fG then 1 else 0)]],t.size<=1000:=λt ht=>by
   simp only[cu,iT,or_false]at ht;rcases ht with rfl|rfl|rfl
   ·exact J2 f1 f2 f3
   ·exact J2 s1 s2 s3
   ·exact j1
  refine(mZ (xs:=[.iface 73 (.agg #[_,_,_]),.iface 73 (.agg #[_,_,_]),.iface 4 (.bool _)]) wx (txs:=[eI [bI (dJ L n).1.aw.1,bI (dJ L n).1.aw.2.1,bI (dJ L n).1.aw.2.2],eI [bI (dJ L n).1.speed.1,bI (dJ L n).1.speed.2.1,bI (dJ L n).1.speed.2.2],eI [bI (if(dJ L n).1.fG then 1 else 0)]]) rfl bo (all_cons (Xh hT f1 f2 f3) (all_cons (Xh hT s1 s2 s3) (all_cons (adv hT _) all_nil))) nR).F λdi fk=>?_
  refine⟨_,rfl,fk.heap (by rw[wx];simp;omega),?_⟩;have h3:=h2;simp only[c,if_true]at h3;exact h3.same (iL nR bo) ((dw.aZ wx).A fk)
def akG(M:Sm)(L:Lv)(ws:aa):Option Out:=(ks ws).bind λ_=>some (Xj L,M,L)
def Xk(h:Mc k w F sh g s o t B ga M occ L ws)(hw:ws≠[]){q:Unit->Option Out}{K:k_}:Y 153 #[ga] w λe u=>IQ (MR k w ga F g s o t ((ks ws).bind q)) e u (e=pz/\K u):=
 (h.at _).fin λq=>absurd q hw
def UF:(Xj L).size<=1000000:=by
 unfold Xj;refine iL (λt ht=>?_) (by rw[aK];have:=UG L;omega);obtain⟨n,hn,rfl⟩:=bc.1 ht;have h0:=xH hn;have:∀n:Fin 100,(ka4 (Lib.decDigits n.val).toArray).size<=1000:=by decide+kernel
 exact this ⟨n.toNat,U⟩
def Mb(h:Mc k w F sh g s o t B ga M occ L ws):Y 107 #[sh,ga] w (MR k w ga F g s o t (akG M L ws)):=by
 by_cases hw:ws=[]
 ·subst hw;refine(P8 h.e h.r h.a).F λu x=>?_
  exact MR.same h UF (Mod.refl _ _) x
 ·apply qT.B;exact Xk h hw
def J8(n:Int):aq:=if -600000<=n/\n<=600000 then bI n else ka4 #[]
def C4(n:Int):(J8 n).size<=100:=by
 unfold J8;split
 ·exact cF j_
 ·decide
def akH(M:Sm)(L:Lv)(ws:aa):Option Out:=(ks ws).bind λ_=>some (eI (wP J8 M.T.2),M,L)
def Md(h:Mc k w F sh g s o t B ga M occ L ws):Y 108 #[sh,ga] w (MR k w ga F g s o t (akH M L ws)):=by
 have h16:=h.e.few;by_cases hw:ws=[]
 ·subst hw;have it:∀{u:au}{n:Int},Ext w u-> -600000<=n/\n<=600000->xD u (.iface 3 (S n)) (J8 n):=λxu hn=>by unfold J8;rw[if_pos hn];exact gP (h.t _ (Mod.P xu)) j_
  refine(P9 h.e h.r h.a (it:=J8) (λu xu e he=>?_) U λn=>cV (C4 n) X).mono ?_
  ·obtain⟨q,-,-⟩:=h.i.n.1.e e he;unfold EP at q;exact⟨it xu U,it xu U⟩
  ·rintro _ u ⟨rfl,x⟩;refine MR.same h (iL (λt ht=>?_) (by rw[Ka];omega)) (Mod.refl _ _) x;unfold wP at ht;have⟨l,hl,ht⟩:=List.mem_flatten.1 ht;obtain⟨e,-,rfl⟩:=bc.1 hl;simp at ht;rcases ht with rfl|rfl<;>exact cV (C4 _) X
 ·apply qU.B;exact Xk h hw
end
def XS{d c0:Ce}{r:Int}:∀(n k:Nat) {s:S3}{h0 h:Hi},wY d c0 k s h0.1->h∈H_ d c0 r n s h0->(0<=h0.2.2/\h0.2.2<=4294967296*(k+1))->0<=h.2.2/\h.2.2<=4294967296*(k+n+1)
 |0,k,s,h0,h,hr,hm,h1=>by cases hm
 |n+1,k,s,h0,h,hr,hm,h1=>by
  unfold H_ at hm
  split at hm
  ·rcases cu.1 hm with rfl|hm
   ·omega
   ·cases hq:iU d s h0 with
    |none=>rw[hq]at hm;cases hm
    |some q=>
     rw[hq]at hm
     have h2:=Rl hr hq
     have h3:0<=q.2.2.2/\q.2.2.2<=4294967296*((k+1:Nat)+1):=by
      have ha:=at3 s;have hs:=Rm (a:=eM s 3) hr U;unfold iU at hq;split at hq
      ·cases hq
      ·rename_i gl;injection hq with hq;rw[<-hq];simp only;have hp:0<=(iz s (eM s 3)).1*65536:=by have:=hs.2.1.1;omega
       have hle:(iz s (eM s 3)).1*65536/(iz s (eM s 3)).2<=(iz s (eM s 3)).1*65536:=Int.ediv_le_self _ hp;have S5:0<=(iz s (eM s 3)).1*65536/(iz s (eM s 3)).2:=Int.ediv_nonneg hp (by rw[hs.1];unfold yh;omega);have:=hs.2.1.2;omega
     have:=XS n (k+1) h2 hm h3;omega
  ·cases hm
def aiP{M:Sm}{L:h_}{m:Int}(hL:ES m L)(hm:m<=99970000000000)(n:Int)(gE:Ce):(cH (cM M L n gE).1.1.1/\cH (cM M L n gE).1.1.2.1/\cH (cM M L n gE).1.1.2.2)/\cH (cM M L n gE).1.2.2.1/\cH (cM M L n gE).1.2.2.2:=by
 by_cases h0:(cM M L n gE).2=0
 ·have hn:=(Cr hL hm h0).1;obtain⟨y,-,-,hc,-⟩:=Ro h0;have hh:=Rp (by rw[aiQ];decide) hc;have ht:0<=(cM M L n gE).1.2.2.2/\(cM M L n gE).1.2.2.2<=4294967296*40:=by
   unfold lh at hc;split at hc
   ·rename_i h hf;injection hc with hc;rw[<-hc];have pL:=G6 hf;unfold lj at pL;have hb:=Kx (eN (pk y.1)) (j9 gE) (λi hi=>by
     have:i=0\/i=1\/i=2:=by omega
     unfold j9 wZ dj;rcases this with rfl|rfl|rfl<;>simp<;>omega)
    have:=XS _ 0 hb pL ⟨jI 0,(by show(0:Int)<=4294967296*((0:Nat)+1);decide)⟩;have e5:=aiQ;rw[e5]at this;simp only;omega
   ·injection hc with _ hc
    cases hc
  unfold jL at hn;unfold cH;omega
 ·have e:(cM M L n gE).1=Vs:=by
   unfold cM at h0⊢
   cases hq:cE L n with
   |none=>rfl
   |some y=>
    rw[hq]at h0;simp only at h0⊢;split
    ·rfl
    ·rename_i q2;split
     ·rfl
     next q3=>rw[if_neg q2,if_neg q3]at h0;exact absurd rfl h0
  rw[e];unfold Vs cH;decide
section
variable{k:Nat}{w w0:au}{F:Nat->Prop}{sh g s o t B ga:Nat}{M:Sm}{occ:aC}{L:Lv}{ws:aa}{R:l_}
def Rq(h:Rr):aa:=[kE h.2.1,bI h.1.1,bI h.1.2.1,bI h.1.2.2,bI h.2.2.1,bI h.2.2.2]
def akE(M:Sm)(L:Lv)(ws:aa):Option Out:=(gz ws).bind λn=>(kI n.2).bind λv=>(ks v.2).bind λ_=>
 some (if(cM M L n.1 v.1).2=0 then eI (Rq (cM M L n.1 v.1).1)else iX (cM M L n.1 v.1).2,M,L)
def PI(h:Mc k w F sh g s o t B ga M occ L ws):Y 103 #[sh,ga] w (MR k w ga F g s o t (akE M L ws)):=by
 apply Cs.B;refine(h.at _).num λn r u _ m1 h1=>h1.vec λx y z r2 u2 _ m2 h2 w4 e4 w5 e5=>?_
 have x5:Ext u2 w5:=Ext.L (aU e4) e5 (ak _);have z5:=yL e4 e5;have hB:=h2.le;have IB:=h2.m.size;have h5:=h2.ext x5;have hz5:=h5.m.size;refine h5.fin λ_ h4=>⟨rfl,?_⟩
 have h6:=h4.ext (Ext.K w5);have d5:=nV w5;have L6:=vL h6.c.e h.ok X n (x,y,z);generalize hl:cM M L n (x,y,z)=l at*;have px:=aiP (M:=M) h.ok X n (x,y,z);rw[hl]at px;have her:er l.2:=hl▸Nh M L n (x,y,z);refine⟨λe p v=>Ext w5.drew v/\e=l.2/\∃b,p=O b/\Row v b [l.1.1.1,l.1.1.2.1,l.1.1.2.2,l.1.2.1,l.1.2.2.1,l.1.2.2.2] 184,⟨_,h6.ld,L6.mono ?_,?_⟩,?_⟩
 ·rintro _ bE ⟨rfl,bS⟩;refine⟨_,_,_,_,_,_,_,rfl,bS.k,λfm Td eQ wx=>⟨rfl,?_,rfl,_,rfl,?_⟩⟩
  ·exact bS.A (Ext.L (aU Td) wx (ak _))
  ·rw[wx];exact Row.set (by rw[Td];exact Row.new _ [_,_,_,_,_,_] _) _
 ·intro di vq;have fk:=aU vq;have z21:=fD vq;refine((hl▸vL (h6.ext fk).c.e h.ok X n (x,y,z))).F λdh fX=>?_
  have z22:=fX.size;refine⟨_,_,_,_,_,_,_,rfl,fX.k,fX.k,λpw e30=>⟨rfl,?_,rfl,_,rfl,?_⟩⟩
  ·exact Ext.L (fk.A fX) e30 (ak _)
  ·rw[e30];exact Row.set ((show Row di w5.drew.heap.size _ _ by rw[vq];exact Row.new _ [_,_,_,_,_,_] _).ext fX) _
 ·rintro us e p v ⟨xv,rfl,b,rfl,hr⟩;have hv:=hr.ext (Ext.K v);have lr:∀{u:au},Ext v.drew u->∀j:Nat,∀a,[S l.1.1.1,l.1.1.2.1,l.1.1.2.2,l.1.2.1,l.1.2.2.1,l.1.2.2.2][j]? =some a->Vc.ld u (jM b j)=some a:=λxu j a ha=>by rw[(hv.ext xu).ld];exact ha
  have zv:=xv.size;have dv:v.drew.heap.size=v.heap.size:=rfl;have lL:∀{u:au},Ext v.drew u->∀j:Nat,∀a,[S l.1.1.1,l.1.1.2.1,l.1.1.2.2,l.1.2.1,l.1.2.2.1,l.1.2.2.2][j]? =some a->ah u (jM b j) 0 [a]:=λxu j a ha=>(hv.ext xu).y (o:=j) (vs:=[a]) (λi hi=>by simp at hi;subst hi;simpa using ha)
  simp only[aF];refine cA.2 ⟨rfl,_,lr (Ext.M _) 3 _ rfl,cA.2 ⟨rfl,cA.2 ⟨rfl,_,lr (Ext.M _) 0 _ rfl,cA.2 ⟨rfl,cA.2 ⟨rfl,_,lr (Ext.M _) 1 _ rfl,cA.2 ⟨rfl,cA.2 ⟨rfl,_,lr (Ext.M _) 2 _ rfl,cA.2 ⟨rfl,_,lr (Ext.M _) 4 _ rfl,cA.2 ⟨rfl,_,lr (Ext.M _) 5 _ rfl,(kl _ v.drew).F λkO kA=>?_⟩⟩⟩⟩⟩⟩⟩⟩⟩;have z41:=kA.size;have nb:u2.heap.size<v.heap.size:=by omega
  refine⟨_,rfl,kA.k,lL kA 5 _ rfl,lL kA 4 _ rfl,lL kA 2 _ rfl,lL kA 1 _ rfl,lL kA 0 _ rfl,λiO Yn=>?_⟩;have vU:=kA.aZ Yn;have⟨⟨i1,i2,i3⟩,i4,i5⟩:=px;have nR:∀t∈Rq l.1,t.size<=1000:=λt ht=>by have a0:=yi l.1.2.1;have a1:=cF i1;have a2:=cF i2;have a3:=cF i3;have a4:=cF i4;have a5:=cF i5;unfold Rq at ht;simp only[cu,iT,or_false]at ht;rcases ht with rfl|rfl|rfl|rfl|rfl|rfl<;>omega
  have hT:∀{u:au},Ext v.drew u->lP u:=λxu=>h.t _ ((h6.m.mono λi _ hi=>.inr hi).trans (Mod.P ((xv.A (Ext.K v)).A xu)))
  refine(Ur her (xs:=[.iface 9 (.string _),.iface 3 (S _),.iface 3 (S _),.iface 3 (S _),.iface 3 (S _),.iface 3 (S _)]) Yn (txs:=Rq l.1) rfl bo (λ_ u xu=>all_cons (.s _) (all_cons (gP (hT (vU.A xu)) i1) (all_cons (gP (hT (vU.A xu)) i2) (all_cons (gP (hT (vU.A xu)) i3) (all_cons (gP (hT (vU.A xu)) i4) (all_cons (gP (hT (vU.A xu)) i5) all_nil)))))) nR).F λkf qE=>?_
  have xx:=vU.A qE;refine⟨_,rfl,qE.heap (by rw[Yn];simp;omega),lL xx 5 _ rfl,lL xx 4 _ rfl,lL xx 2 _ rfl,lL xx 1 _ rfl,lL xx 0 _ rfl,?_⟩;refine h6.same ?_ ((xv.A (Ext.K v)).A xx);split
  ·exact iL nR (by simp[Rq])
  ·exact fi _
end
section
variable{k:Nat}{w w0:au}{F:Nat->Prop}{sh g s o t B ga:Nat}{M:Sm}{occ:aC}{L:Lv}{ws:aa}{R:l_}
def akI(M:Sm)(L:Lv)(ws:aa):Option Out:=(gz ws).bind λn=>(ks n.2).bind λ_=>(adV (decide (n.1>=1)&&decide (n.1<=100))).bind λ_=>
 some (eI [bI (fJ n.1.toNat M L).1,bI (fJ n.1.toNat M L).2.1.now],(fJ n.1.toNat M L).2.1,(fJ n.1.toNat M L).2.2)
def PK(h:Mc k w F sh g s o t B ga M occ L ws):Y 109 #[sh,ga] w (MR k w ga F g s o t (akI M L ws)):=by
 apply Ck.B;refine(h.at _).num λn r u _ m1 h1=>h1.fin λ_ h2=>Z.mk (λc=>?_) (λc=>?_)
 ·have c1:1<=n:=of_decide_eq_true c;refine h2.amt (b:=decide (n<=100)) (by rw[c];rfl) λhb h3=>?_
  have c2:n<=100:=of_decide_eq_true hb;have hk:=h.z;have hsh:=h3.c.r.row;have fK:=hsh.lt;have shell:∀{v:au},Mod F u v->Vc.ld v (N (O sh) 0)=some (.pointer (O g)):=λm=>by rw[aF,(hsh.same (m.same sh fK h.q)).ld];rfl
  refine⟨λm x y v=>∃j:Nat,x=j/\y=(fJ j M L).1/\(j:Int)+m=n/\∃occ',dK F u g s o t (fJ j M L).2.1 occ' (fJ j M L).2.2 v,⟨n.toNat,0,rfl,rfl,U,occ,h3.c.e.res (Ext.M _)⟩,?_⟩;rintro m us x y v ⟨j,rfl,rfl,hj,occ',hr⟩;obtain⟨hJ,ht1,ht2⟩:=h.i.ak6 j;obtain⟨F',hE,ht⟩:=id hr;have hs:qB (fJ j M L).2.1 600000000:=hJ.s.mono U;apply Z.mk<;>intro c
  ·have c:(j:Int)<n:=of_decide_eq_true c;refine⟨_,shell hr.mod,(Kg hE hJ.b.ok X X hJ.n.due hs hJ.u).mono ?_⟩;rintro _ bN ⟨rfl,jT,-⟩;have hl:=EZ (q:=(fJ j M L).2.1.q) (now:=qC (fJ j M L).2.1) hJ.u;have TE:(uO (fJ j M L).2.1).length<=64:=hl;refine⟨_,rfl,m-1,U,j+1,by rw[wI];omega,?_,U,_,dK.A ht jT⟩;rw[wI];rfl
  ·have c:¬(j:Int)<n:=of_decide_eq_false c;have hj0:n.toNat=j:=by omega
   obtain⟨Fs,hS,Eu,-,-⟩:=hE.EN;refine⟨_,shell hr.mod,cA.2 ⟨rfl,cA.2 ⟨rfl,O s,Eu,(Cz hS).V ?_⟩⟩⟩;have i1:cH (fJ j M L).1:=by unfold cH;omega
   have i2:cH (fJ j M L).2.1.now:=by have:=hs.now;unfold cH;omega
   have s1:=cF i1;have s2:=cF i2;have nR:∀t∈[bI (fJ j M L).1,bI (fJ j M L).2.1.now],t.size<=1000:=λt ht=>by simp only[cu,iT,or_false]at ht;rcases ht with rfl|rfl<;>omega
   refine⟨_,rfl,λdA Ot=>?_⟩;have hT:lP dA:=h.t _ (((h3.m.mono λi _ hi=>.inr hi).trans (hr.mod.mono λi _ hi=>.inl hi)).trans (Mod.P (aU Ot)));refine(mZ (xs:=[.iface 3 (S _),.iface 3 (S _)]) Ot (txs:=[bI (fJ j M L).1,bI (fJ j M L).2.1.now]) rfl bo (all_cons (gP hT i1) (all_cons (gP hT i2) all_nil)) nR).F λfm dQ=>?_
   refine⟨_,rfl,?_⟩;have h4:=h3;simp only[hj0]at h4;exact h4.TL (iL nR bo) (hJ.inv U) hr ((aU Ot).A dQ)
 ·exact h2.amt (b:=false) (by rw[c];rfl) λhb=>by cases hb
def jP(ws:aa):Option Out:=(kI ws).bind λv=>(ks v.2).bind λ_=>some (ka4 #[111,107],FO v.1.1 v.1.2.1 200000 v.1.2.2,OT)
def anp(room:Int):KR (T9 room):=λx hx=>by rcases hx with hx|hx<;>cases hx
def Inv.new(a b c:Int)(k:Nat):Inv k (FO a b 200000 c) OT:=
 ⟨λy hy=>(by cases (Pd.1 hy).2),⟨⟨jI 0,hX⟩,eG _,⟨jI 0,a0r⟩,eG _⟩,⟨⟨λe he=>(by cases he),eG _,anp _⟩,λx hx=>(by cases hx),jI 0,a0r⟩,by show 1<=min (max c 1) 64/\min (max c 1) 64<=64;omega⟩
def YV(h:Mc k w F sh g s o t B ga M occ L ws)(hw:jP ws=none):Y 86 #[sh,ga] w λe u=>e=Io/\Mod (λi=>i=ga) w u:=by
 have key:Y 86 #[sh,ga] w (MR k w ga F g s o t ((gz ws).bind λa=>(gz a.2).bind λb=>(gz b.2).bind λc=>(ks c.2).bind λ_=>none)):=by
  apply qi.B;refine(h.at _).num λa r u h1 m1 q1=>q1.num λb r2 u2 h2 m2 q2=>q2.num λc r3 u3 h3 m3 q3=>q3.fin λhr q4=>?_
  exfalso;unfold jP kI at hw;simp only[h1,h2,h3,hr]at hw
  cases hw
 refine key.mono λe u hr=>?_
 generalize hp:((gz ws).bind λa=>(gz a.2).bind λb=>(gz b.2).bind λc=>(ks c.2).bind λ_=>(none:Option Out))=p at hr;have:p=none:=by
  rw[<-hp]
  cases gz ws with
  |none=>rfl
  |some a=>
   show(gz a.2).bind _=none
   cases gz a.2 with
   |none=>rfl
   |some b=>
    show(gz b.2).bind _=none
    cases gz b.2 with
    |none=>rfl
    |some c=>
     show(ks c.2).bind _=none
     cases ks c.2<;>rfl
 subst this;exact hr
end
section
variable{k:Nat}{w w0 u u':au}{F:Nat->Prop}{sh g s o t B ga:Nat}{M:Sm}{occ:aC}{L:Lv}{ws r:aa}{line c:aq}{T:aq}
def aqL(h:EF F w g s o t M occ L):∃F1,TF F1 w t M.aj M.cap M.T/\∀{w':au}{T':Tb},Fy F1 w t M.aj M.cap T' w'->dK F w g s o t {M with T:=T'} occ L w':=by have⟨Fw,hW,bq⟩:=h.world;obtain⟨F1,hT,-,hrt⟩:=hW.table;exact⟨F1,hT,λhr=>bq (hrt hr)⟩
def L3(h:EF F w g s o t M occ L)(hW:M.T.1.l.length<=1000000)(p:Po): Y 89 #[t,pv p] w λe w'=>e=S (oa M.T.1 M.T.2 p).2/\dK F w g s o t {M with T:=(oa M.T.1 M.T.2 p).1} occ L w':=by
 have⟨F1,hT,bq⟩:=aqL h;exact(IJ hT hW p).mono λe w' hh=>⟨hh.1,bq hh.2⟩
def JQ(h:EF F w g s o t M occ L)(hp:∀y∈M.T.2,-1000000000<=y.2.2.2/\y.2.2.2<=1000000000)(p:Po): (Y 91 #[t,pv p] w λe w'=>e=S (zq M.T.2 p).2/\dK F w g s o t {M with T:=(M.T.1,(zq M.T.2 p).1)} occ L w')/\
  Y 92 #[t,pv p] w λe w'=>e=S (kY M.T.2 p).2/\dK F w g s o t {M with T:=(M.T.1,(kY M.T.2 p).1)} occ L w':=by
 have⟨F1,hT,bq⟩:=aqL h;obtain⟨st,d,r,sl,its,g1,e,rfl⟩:=hT;have hp':∀y∈its,-1000000000<=y.pins/\y.pins<=1000000000:=λy hy=>hp y.ob (by rw[<-e];exact bc.2 ⟨y,hy,rfl⟩)
 rw[<-e];exact⟨(ac7 g1 hp' p).mono λe w' hh=>⟨hh.1,bq (wK hh.2)⟩,(Ue g1 hp' p).mono λe w' hh=>⟨hh.1,bq (wK hh.2)⟩⟩
def amc(j:Nat)(M:Sm)(p:Po):Int×Sm:=match j with
 |0=>((yO M.aj M.cap M.T.1 M.T.2 p).2,{M with T:=(yO M.aj M.cap M.T.1 M.T.2 p).1})
 |1=>((oa M.T.1 M.T.2 p).2,{M with T:=(oa M.T.1 M.T.2 p).1})
 |2=>((TK M.T.1 M.T.2 p).2,{M with T:=(TK M.T.1 M.T.2 p).1})
 |3=>((zq M.T.2 p).2,{M with T:=(M.T.1,(zq M.T.2 p).1)})
 |_=>((kY M.T.2 p).2,{M with T:=(M.T.1,(kY M.T.2 p).1)})
def YT(j:Nat)(M:Sm)(L:Lv)(r:aa):Option Out:=match xC r with|some (p,[])=>some (iX (amc j M p).1,(amc j M p).2,L)|_=>none
def uE(hl:line.size<=4294967296)(hw:cT line=c::r)(j:Nat)(hj:j<5)(hi:uF[j+1]? =some c):kH k line M L ((YT j M L r).getD (kZ,M,L)):=by
 refine kH.Z_ hl hw j hj hi (amc j M) λ{w F g s o t occ} h hI hk p=>?_
 have hd:=hI.d hk;have hT:=hI.n.1;have ht:∀{T'},nI k (20*k+1) T'->Inv (k+1) {M with T:=T'} L:=λq=>hI.s_ (q.mono U U)
 have hp:∀y∈M.T.2,-1000000000<=y.2.2.2/\y.2.2.2<=1000000000:=λy hy=>by obtain⟨-,q1,q2⟩:=hT.e y hy;omega
 have:j=0\/j=1\/j=2\/j=3\/j=4:=by omega
 rcases this with rfl|rfl|rfl|rfl|rfl
 ·exact⟨ahS ..,ht (hT.load (D:=M.T.1) (l:=M.T.2) p),bR (by kernel_rfl) rfl (FM h U p)⟩
 ·exact⟨YU ..,ht (hT.ame (D:=M.T.1) (l:=M.T.2) p),bR (by kernel_rfl) rfl (L3 h U p)⟩
 ·exact⟨ac8 ..,ht (hT.flush (D:=M.T.1) (l:=M.T.2) p),bR (by kernel_rfl) rfl (PD h U p)⟩
 ·exact⟨(ac9 ..).1,hI.s_ ((hT.Q_ (D:=M.T.1) (l:=M.T.2) p).mono U U),bR (by kernel_rfl) rfl (JQ h hp p).1⟩
 ·exact⟨(ac9 ..).2,hI.s_ ((hT.aqM (D:=M.T.1) (l:=M.T.2) p).mono U U),bR (by kernel_rfl) rfl (JQ h hp p).2⟩
def Uf(hl:line.size<=4294967296)(hw:cT line=ByteArray.mk #[119,111,114,108,100]::r):kH k line M L ((jP r).getD (kZ,M,L)):=by
 intro w0 w F sh g s o t occ hk hT hx hF0 hsh0 h hs hF hI;have lE:=hs.row.lt;have hz:=hx.size;have nR:((jP r).getD (kZ,M,L)).1.size<=1000000:=by
  cases hq:jP r with
  |none=>show kZ.size<=1000000;decide
  |some x=>
   unfold jP at hq
   cases h1:kI r with
   |none=>rw[h1]at hq;cases hq
   |some v=>
    rw[h1]at hq
    cases h2:ks v.2 with
    |none=>simp only[Option.bind_some,h2]at hq;cases hq
    |some _=>simp only[Option.bind_some,h2]at hq;cases hq;show(ByteArray.mk #[111,107]).size<=1000000;decide
 refine(JR h hs line hl hw 0 86 rfl (λ_ _ _ _ _=>rfl) (λargs w=>j5 Tryz.func86 (by kernel_rfl) rfl args w)
  (λtx u=>tx=((jP r).getD (kZ,M,L)).1/\∃g' s' o' t' occ' F',EF F' u g' s' o' t' ((jP r).getD (kZ,M,L)).2.1 occ' ((jP r).getD (kZ,M,L)).2.2/\FN u sh g'/\¬F' sh/\Mod (λi=>F i\/i=sh) w u/\(∀i,F' i->F i\/w.heap.size<i)/\Inv (k+1) ((jP r).getD (kZ,M,L)).2.1 ((jP r).getD (kZ,M,L)).2.2) ?_ ?_).mono ?_
 ·rintro t' v v' ⟨rfl,g',s',o',t',occ',F',hE,hS,hn,hm,dP,hI'⟩ hm';have nF:¬F' w:=λq=>(dP _ q).elim (λq=>by have:=h.lt q;omega) (λq=>by omega)
  exact⟨rfl,g',s',o',t',occ',F',hE.same λi hi=>hm'.same i (hE.lt hi) (λq=>nF (q▸hi)),⟨hS.row.same (hm'.same sh hS.row.lt U)⟩,hn,hm.A hm' (λi hi=>.inr U),dP,hI'⟩
 ·intro v B ga xv DA hga;have hgl:=DA.lt;have hle:=DA.le;have hFga:¬F ga:=λq=>by have:=h.lt q;omega
  have hzv:=xv.size;have hc:Mc k v F sh g s o t B ga M occ L r:=⟨h.ext xv,⟨hs.row.ext xv⟩,DA,hFga,U,hI,λu m=>W4 hT (hx.A xv) m λi hi=>hi.elim (hF0 i) (λq=>by omega),hk,hF⟩
  cases hq:jP r with
  |none=>
   refine(YV hc hq).F λv' m=>?_
   refine⟨m.same _ U U,.inr ⟨rfl,rfl,g,s,o,t,occ,F,hc.ef m,⟨hc.r.row.same (m.same sh hc.r.row.lt U)⟩,hF,(Mod.P xv).A m (λi hi=>.inr U),λi hi=>.inl hi,hI.up⟩⟩
  |some x=>
   have hp:∃a b c,kI r=some ((a,b,c),[])/\x=(ByteArray.mk #[111,107],FO a b 200000 c,OT):=by
    unfold jP at hq
    cases h1:kI r with
    |none=>rw[h1]at hq;cases hq
    |some y=>
     obtain⟨⟨a,b,c⟩,r'⟩:=y;rw[h1]at hq;by_cases h2:r'=[]
     ·subst h2
      cases hq
      exact⟨a,b,c,rfl,rfl⟩
     ·have:ks r'=none:=by unfold ks;rw[if_neg h2]
      simp only[Option.bind_some,this]at hq
      cases hq
   obtain⟨a,b,c,hp,rfl⟩:=hp;refine(L4 (w:=v) ⟨hs.row.ext xv⟩ DA U hp).mono ?_;rintro e v' ⟨rfl,hm,g',s',o',t',F',hE,hS,hF'⟩;exact⟨hm.same _ U U,.inl ⟨_,rfl,rfl,g',s',o',t',PE,F',hE,hS,λq=>by have:=hF' _ q;omega,(Mod.P xv).A hm (λi hi=>by rcases hi with hi|hi;exact .inr U;exact .inl (.inr hi)),λi hi=>.inr (by have:=hF' i hi;omega),Inv.new a b c _⟩⟩
 ·rintro e w' ⟨t',rfl,rfl,g',s',o',t',occ',F',hE,hS,hn,hm,dP,hI'⟩;exact⟨rfl,nR,g',s',o',t',occ',F',hE,hS,hn,hm,λi hi=>(dP i hi).imp id (λq=>by omega),hI'⟩
noncomputable def amf(i:Nat)(M:Sm)(L:Lv)(r:aa):Option Out:=match i with
 |0=>jP r
 |1=>YT 0 M L r
 |2=>YT 1 M L r
 |3=>YT 2 M L r
 |4=>YT 3 M L r
 |5=>YT 4 M L r
 |6=>JS M L r
 |7=>akz M L r
 |8=>ada M r
 |9=>akA M L r
 |10=>adb M L r
 |11=>akB M L r
 |12=>akC M L r
 |13=>ade M L r
 |14=>akD M L r
 |15=>adf M L r
 |16=>akE M L r
 |17=>YX M L r
 |18=>aqN M L r
 |19=>akF M L r
 |20=>akG M L r
 |21=>akH M L r
 |22=>akI M L r
 |_=>none
def adg(hl:line.size<=4294967296)(hw:cT line=c::r){i:Nat}(hi:uF[i]? =some c):kH k line M L ((amf i M L r).getD (kZ,M,L)):=by
 match i with
 |0=>cases hi;exact Uf hl hw
 |1=>exact uE hl hw 0 X hi
 |2=>exact uE hl hw 1 X hi
 |3=>exact uE hl hw 2 X hi
 |4=>exact uE hl hw 3 X hi
 |5=>exact uE hl hw 4 X hi
 |6=>exact kH.uG hl hw 6 93 hi Tryz.func93 DH
 |7=>exact kH.uG hl hw 7 94 hi Tryz.func94 L5
 |8=>exact kH.uG hl hw 8 95 hi Tryz.func95 IK
 |9=>exact kH.uG hl hw 9 96 hi Tryz.func96 PF
 |10=>exact kH.uG hl hw 10 97 hi Tryz.func97 L7
 |11=>exact kH.uG hl hw 11 98 hi Tryz.func98 PG
 |12=>exact kH.uG hl hw 12 99 hi Tryz.func99 PH
 |13=>exact kH.uG hl hw 13 100 hi Tryz.func100 L8
 |14=>exact kH.uG hl hw 14 101 hi Tryz.func101 L9
 |15=>exact kH.uG hl hw 15 102 hi Tryz.func102 Ma
 |16=>exact kH.uG hl hw 16 103 hi Tryz.func103 PI
 |17=>exact kH.uG hl hw 17 104 hi Tryz.func104 Ug
 |18=>exact kH.uG hl hw 18 105 hi Tryz.func105 Uh
 |19=>exact kH.uG hl hw 19 106 hi Tryz.func106 PJ
 |20=>exact kH.uG hl hw 20 107 hi Tryz.func107 Mb
 |21=>exact kH.uG hl hw 21 108 hi Tryz.func108 Md
 |22=>exact kH.uG hl hw 22 109 hi Tryz.func109 PK
 |n+23=>exact absurd hi (by simp[uF])
open Classical in
noncomputable def uH(M:Sm)(L:Lv)(ws:aa):Out:=match ws with
 | []=>(ka4 #[],M,L)
 |c::r=>(if h:∃i:Nat,uF[i]? =some c then amf (Classical.choose h) M L r else none).getD (kZ,M,L)
def YY(k:Nat)(M:Sm)(L:Lv)(hl:line.size<=4294967296):kH k line M L (uH M L (cT line)):=by
 cases hw:cT line with
 |nil=>
  have:=kH.Io (k:=k) (M:=M) (L:=L) hl λc r q=>by rw[hw]at q;cases q
  rw[hw,if_pos rfl]at this;exact this
 |cons c r=>
  unfold uH;simp only;split
  next h=>exact adg hl hw (Classical.choose_spec h)
  ·rename_i h;have:=kH.Io (k:=k) (M:=M) (L:=L) hl λc' r' q=>by
    rw[hw]at q
    cases q
    exactλq=>h (JT.1 q)
   rw[hw,if_neg bo]at this;exact this
def YZ{i:Nat}(hi:uF[i]? =some c):uH M L (c::r)=(amf i M L r).getD (kZ,M,L):=by have h:∃i:Nat,uF[i]? =some c:=⟨i,hi⟩;unfold uH;simp only;rw[dif_pos h];have e:Classical.choose h=i:=(List.getElem?_inj (cG.1 (Classical.choose_spec h)).1 l8).1 ((Classical.choose_spec h).trans hi.symm);rw[e]
end
section
open Classical in
noncomputable def K7(MK:aa):Nat->Sm×Lv
 |0=>(FO 1 9 200000 16,OT)
 |p+1=>if wW MK p then(uH (K7 MK p).1 (K7 MK p).2 (cT (MK.getD p ⟨#[]⟩))).2 else K7 MK p
end
section
open Classical in
noncomputable def V5(MK:aa)(p:Nat):aq:=(uH (K7 MK p).1 (K7 MK p).2 (cT (MK.getD p ⟨#[]⟩))).1
end
section
open Classical in
def ab3{MK:aa}{p:Nat}(h:wW MK p):K7 MK (p+1)=(uH (K7 MK p).1 (K7 MK p).2 (cT (MK.getD p ⟨#[]⟩))).2:=by rw[K7,if_pos h]
end
section
open Classical in
def ajT{MK:aa}{p:Nat}(h:¬wW MK p):K7 MK (p+1)=K7 MK p:=by rw[K7,if_neg h]
end
section
open Classical in
def N8{sh g:Nat}{u u':au}(h:FN u sh g)(hk:u'.heap[sh]? =u.heap[sh]?):FN u' sh g:=⟨h.row.same hk⟩
end
section
open Classical in
def aih{w:au}{m:Int}(hm:w.cell? ⟨0,0,none⟩=some (S m))(hT:lP w)(script:aq)(hsz:script.size<=100000): Y 29 #[.string script] w λe w'=>e=(bP ⟨(nO (CD script) (V5 (CD script)) (CD script).length).toArray⟩)/\Ext w w':=by
 have⟨hs1,hs2⟩:=ab4 script;have aqj:=afH script;generalize hL:CD script=L at*;refine aer hm script U L hs1 hs2 (λl hl=>a1N (XP (hL▸hl))) U (V5 L)
  (λsh p F u=>(∃g s o t occ F0,EF F0 u g s o t (K7 L p).1 occ (K7 L p).2/\FN u sh g/\¬F0 sh/\F=(λi=>F0 i\/i=sh))/\Inv (min p 100) (K7 L p).1 (K7 L p).2) ?_ ?_ ?_ ?_ ?_
 ·rintro sh p F u ⟨⟨g,s,o,t,occ,F0,h,hS,hn,rfl⟩,-⟩ i hi;rcases hi with hi|rfl
  ·exact h.lt hi
  ·exact hS.row.lt
 ·rintro sh p F u u' ⟨⟨g,s,o,t,occ,F0,h,hS,hn,rfl⟩,hI⟩ hk;exact⟨⟨g,s,o,t,occ,F0,h.same λi hi=>hk i (.inl hi),N8 hS (hk _ (.inr rfl)),hn,rfl⟩,hI⟩
 ·intro u sh g s o t F h hS hn;exact⟨_,⟨⟨g,s,o,t,PE,F,h,hS,hn,rfl⟩,Inv.new _ _ _ _⟩,λi hi=>hi⟩
 ·rintro sh p F u ⟨hE,hI⟩ hno;show _/\_;rw[ajT hno];exact⟨hE,hI.mono U⟩
 ·rintro sh p F u line xu hF ⟨⟨g,s,o,t,occ,F0,h,hS,hn,rfl⟩,hI⟩ hl hp hne;have ht:wW L p:=⟨hp,line,hl,hne⟩;have hg:L.getD p ⟨#[]⟩=line:=by rw[dG,hl];rfl
  have hls:=XP (s:=script) (hL▸aQ hl);have e1:min p 100=p:=by omega
  have e2:min (p+1) 100=p+1:=by omega
  rw[e1]at hI;refine(YY p (K7 L p).1 (K7 L p).2 (line:=line) U w u F0 sh g s o t occ U hT xu (λi hi=>hF i (.inl hi)) (hF _ (.inr rfl)) h hS hn hI).mono ?_;rintro _ u' ⟨rfl,hz,g',s',o',t',occ',F',h',hS',hn',hm',acH,hI'⟩;have et:V5 L p=(uH (K7 L p).1 (K7 L p).2 (cT line)).1:=by unfold V5;rw[hg]
  refine⟨by rw[et],by rw[et];exact hz,λi=>F' i\/i=sh,⟨⟨g',s',o',t',occ',F',?_,hS',hn',rfl⟩,?_⟩,hm',λi hi=>?_⟩
  ·rw[ab3 ht,hg];exact h'
  ·rw[ab3 ht,hg,e2];exact hI'
  ·rcases hi with hi|hi
   ·exact(acH i hi).imp .inl id
   ·exact .inl (.inr hi)
end
section
open Classical in
def ab6:CD EY=[tu,tw]:=by kernel_rfl
end
section
open Classical in
def agH{w:au}{m:Int}(hm:w.cell? ⟨0,0,none⟩=some (S m))(hT:lP w):Y 30 #[] w λe w'=>e=true/\Ext w w':=by
 apply acu.B;refine(aih hm hT EY X).F λw' x=>?_
 have h0:wW [tu,tw] 0:=⟨X,tu,rfl,by rw[Vj];exact List.cons_ne_nil _ _⟩;have k1:uH (FO 1 9 200000 16) OT (cT tu)=(ka4 #[111,107],G_,OT):=by
  rw[Vj,YZ (i:=1) rfl];have e:YT 0 (FO 1 9 200000 16) OT [n_,n_]=some (iX (yO 1 (FO 1 9 200000 16).cap (FO 1 9 200000 16).T.1 (FO 1 9 200000 16).T.2 (0,0)).2,G_,OT):=by unfold YT;rw[awq];rfl
  rw[show amf 1 (FO 1 9 200000 16) OT [n_,n_]=YT 0 (FO 1 9 200000 16) OT [n_,n_]from rfl,e,awo];rfl
 have k2:(uH G_ OT (cT tw)).1=qS 1:=by
  rw[Vk,YZ (i:=17) rfl];have e:YX G_ OT [n_,n_,n_]=some (qS (jc G_.T.2 (0,0,0)),G_,OT):=by unfold YX;rw[awr];rfl
  rw[show amf 17 G_ OT [n_,n_,n_]=YX G_ OT [n_,n_,n_]from rfl,e,awp];rfl
 have s1:K7 [tu,tw] 1=(G_,OT):=by rw[ab3 h0];show(uH (FO 1 9 200000 16) OT (cT tu)).2=_;rw[k1]
 have t0:V5 [tu,tw] 0=T0 0:=by show(uH (FO 1 9 200000 16) OT (cT tu)).1=_;rw[k1];rfl
 have t1:V5 [tu,tw] 1=T0 1:=by unfold V5;rw[s1];show(uH G_ OT (cT tw)).1=_;rw[k2];rfl
 have eo:nO [tu,tw] (V5 [tu,tw]) 2=nO [tu,tw] T0 2:=by simp only[nO,t0,t1]
 rw[ab6];have e2:(⟨(nO [tu,tw] (V5 [tu,tw]) [tu,tw].length).toArray⟩:aq)=aq7:=by apply Lr;rw[show [tu,tw].length=2 from rfl,eo,aai]
 rw[e2];exact⟨_,rfl,by kernel_rfl,x⟩
end
variable{R:l_}{w:au}
section
variable{k:Nat}{w0 w u u':au}{A:bf}{sh:Nat}{M:Sm}{occ:aC}{L:Lv}{ln:aq}
def Nx(k:Nat)(w0:au)(A:bf)(sh:Nat)(M:Sm)(L:Lv)(u:au):Prop:=(∃occ,ad6 w0 A sh M occ L u)/\Inv k M L
def amz(w:au)(k:Nat):Y 26 #[] w λe w'=>∃sh,e=dr (O sh)/\Nx k w [] sh (FO 1 9 200000 16) OT w':=
 (ad7 w).mono λe w' ⟨sh,he,h⟩=>⟨sh,he,⟨_,h⟩,Inv.new _ _ _ _⟩
section
variable{k:Nat}{wb w u u':au}{A:bf}{sh:Nat}{M:Sm}{occ:aC}{L:Lv}{ln:aq}
def S0{s:H}{rows:List af}(h:RdK u s 1 rows)(hk:KpA s.D.toList u u'):RdK u' s 1 rows:=h.same λb hb=>hk b (by rw[hb];simp)
end
end
def MJ(n:Int)(h:cH n)(w:au):Y 13 #[n] w λe w'=>∃t:aq,e=bP t/\t.size<=30/\Ext w w':=by
 have hn:n.natAbs<10^(18+1):=by unfold cH at h;omega
 refine(Lt 18 n w X hn h).F λw' x=>?_
 have:=Pn (f:=18+1) hn;exact⟨_,rfl,by show(vX (18+1) n).toArray.size<=30;rw[List.size_toArray];omega,x⟩
def Ol:IntKind.i64.max=9223372036854775807:=by decide
def P0(x:Int)(h:er x)(w:au):Y 119 #[x] w λe w'=>∃t:aq,e=bP t/\t.size<=100/\Ext w w':=by apply acA.B;refine Z.mk (λc=>⟨_,rfl,X,Ext.M _⟩) (λc=>(MJ x (by unfold er at h;unfold cH;omega) w).mono ?_);rintro _ w' ⟨t,rfl,ht,x'⟩;have e6:(⟨#[101,114,114,111,114,32]⟩:aq).size=6:=rfl;exact⟨t,rfl,by rw[Ol,e6];omega,_,rfl,by rw[ByteArray.size_append,e6];omega,x'⟩
def ahg(b:Int)(h:cH b)(w:au):Y 130 #[b] w λe w'=>∃t:aq,e=bP t/\t.size<=100/\Ext w w':=by apply abo.B;refine Z.mk (λc=>⟨_,rfl,X,Ext.M _⟩) (λc=>(M1 b w h).F λw' x'=>?_);exact⟨_,rfl,_,rfl,yi b,x'⟩
def aaL{w:au}{s:H}{l:ab}(h:RdK w s 1 (l.map λn=>[S n]))(hn:l.length<=1000)(hl:∀n∈l,cH n): Y 55 #[s] w λe w'=>∃t:aq,e=bP t/\t.size<=100000/\Ext w w':=by
 apply agN.B;have hsn:s.n=l.length:=by rw[h.n,aK]
 refine⟨λn x t v=>∃p:Nat,x=(p:Int)/\p+n=l.length/\t.size<=31*p/\Ext w v,⟨l.length,0,rfl,U,eG _,Ext.M _⟩,?_⟩;rintro n1 us x t v ⟨p,rfl,hp,ht,xv⟩;have e1:(⟨#[32]⟩:aq).size=1:=rfl;refine Z.mk (λc=>?_) (λc=>⟨t,rfl,U,xv⟩);have c:p<l.length:=a1N (of_decide_eq_true c)
 obtain⟨y,hy⟩:∃y,l[p]? =some y:=⟨_,cK c⟩;have hld:Vc.ld v (N s.a (((p:Nat):Int).toNat*1))=some (S y):=by have:=xv.ld (h.rd p [S y] (by rw[aW,hy];rfl) 0 _ rfl);simpa using this
 have hin:=hl y (aQ hy);have wk:IntKind.wrap .i64 ((p:Int)+1)=((p+1:Nat):Int):=a0c
 refine Z.mk (λ_=>?_) (λ_=>?_)
 ·refine⟨a18,h.jX X U U,y,hld,(MJ y hin v).mono ?_⟩;rintro _ w8 ⟨t9,rfl,h9,x8⟩;exact⟨t9,rfl,a0k,n1-1,U,p+1,wk,U,by rw[ByteArray.size_append,ByteArray.size_append,e1];omega,xv.A x8⟩
 ·refine⟨h.jX X U U,y,hld,(MJ y hin v).mono ?_⟩;rintro _ w8 ⟨t9,rfl,h9,x8⟩;exact⟨t9,rfl,by rw[Ol];omega,n1-1,U,p+1,wk,U,by rw[ByteArray.size_append];omega,xv.A x8⟩
def aim(t:aq): -1000000000000000<(zX t).1/\(zX t).1<1000000000000000:=by
 cases hb:(zX t).2 with
 |true=>exact ams (ws:=[t]) (r:=[]) (by unfold gz Da;simp[hb])
 |false=>
  by_cases c:(OU (bl t)).length<1\/15<(OU (bl t)).length
  ·rw[zY c];decide
  ·cases hd:uR (OU (bl t))with
   |none=>rw[Xt hd];decide
   |some x=>rw[adW c hd]at hb;cases hb
def wa{w:au}{s:H}{ws:aa}(h:RdK w s 1 (ws.map sv))(hsz:∀t∈ws,t.size<=4294967296){many all:Nat}(hm:many+1<=all)(ha:all<=100): Y 67 #[s,(1:Int),(many:Int),(all:Int)] w λe w'=>∃(s':H)(b:aX),e=bT #[s',b]/\Ext w w'/\(b=true->ws.length=all/\∃l:ab,l.length=many/\ar w 3 1 w' s' (l.map λn=>[S n])/\∀n∈l,-1000000000000000<n/\n<1000000000000000):=by
 apply abH.B;have hsn:s.n=ws.length:=by rw[h.n,aK]
 refine Z.mk (λc=>⟨⟨none,0,0⟩,false,rfl,Ext.M _,λq=>by cases q⟩) (λc=>?_);have c:ws.length=all:=by
  have:((s.n:Nat):Int)=all:=by simpa using c
  omega
 have aoF:IntKind.wrap .i64 (1+(many:Int))=1+(many:Int):=wI j_;refine⟨λn x sl v=>∃(p:Nat)(l:ab),x=1+(p:Int)/\p+n=many/\l.length=p/\ar w 3 1 v sl (l.map λn=>[S n])/\(∀n∈l,-1000000000000000<n/\n<1000000000000000)/\Ext w v,⟨many,0,[],bo,U,rfl,ar.nil,λn hn=>(by cases hn),Ext.M _⟩,?_⟩;rintro n1 us x sl v ⟨p,l,rfl,hp,hl,ho,hr,xv⟩;rw[aoF];refine Z.mk (λd=>?_) (λd=>?_)
 ·have d:p<many:=by have:=of_decide_eq_true d;omega
  obtain⟨t,ht⟩:∃t,ws[p+1]? =some t:=⟨_,cK U⟩;have hld:Vc.ld v (N s.a ((1+((p:Nat):Int)).toNat*1))=some (.string t):=by have:=xv.ld (h.rd (p+1) (sv t) (by rw[aW,ht];rfl) 0 _ rfl);rw[show(1+((p:Nat):Int)).toNat=p+1 by omega];simpa using this
  refine⟨h.jX X U U,t,hld,(abW t v (hsz t (aQ ht))).V ?_⟩;refine⟨_,_,rfl,Z.mk (λ_=>⟨⟨none,0,0⟩,false,rfl,xv,λq=>by cases q⟩) (λ_=>?_)⟩;intro w11 e11;subst e11;have hs4:sl.n=l.length:=by rw[(ar.rd ho X).n,aK]
  have⟨a1,a2⟩:=ho.l6 (bytes:=8) (news:=[S (zX t).1]) (.cells #[S (zX t).1] 3) xv.size rfl (λu hu=>a0Q) U U;refine⟨a1,λs12 w13 abK=>?_⟩;obtain⟨b1,b2,b3,b4,-⟩:=a2 s12 w13 abK;refine⟨b1,n1-1,U,p+1,l++[(zX t).1],a0c,U,by simp[hl],by rw[cl];exact b2,λn hn=>?_,Below.trans xv b4⟩;rcases List.mem_append.1 hn with hn|hn
  ·exact hr n hn
  ·rw[List.mem_singleton.1 hn];exact aim t
 ·have d:¬p<many:=by have:=of_decide_eq_false d;omega
  exact⟨sl,true,rfl,xv,λ_=>⟨c,l,U,ho,hr⟩⟩
structure xg(k:Nat)(w:au)(F:Nat->Prop)(g s o t:Nat)(M:Sm)(occ:aC)(L:Lv)(sl:H)(ws:aa):Prop where
 e:EF F w g s o t M occ L
 i:Inv k M L
 z:k<=1000
 r:RdK w sl 1 (ws.map sv)
 b:∀b,sl.D=some b->b<w/\¬F b
 sz:∀t∈ws,t.size<=4294967296
 n:ws≠[]
def D0(k:Nat)(w:au)(F:Nat->Prop)(g s o t:Nat)(e:Ending)(u:au):Prop:=∃tx,e=bP tx/\∃M' occ' L',dK F w g s o t M' occ' L' u/\Inv (k+1) M' L'
section
variable{k:Nat}{w v v' u:au}{F:Nat->Prop}{g s o t:Nat}{M M':Sm}{occ occ':aC}{L L':Lv}{sl:H}{ws:aa}{tx:aq}
def D0.TL(x:Ext w v)(hr:dK F v g s o t M' occ' L' v')(hI:Inv (k+1) M' L')(y:Ext v' u):D0 k w F g s o t (.returned (.string tx)) u:=by have⟨F2,h2,t2⟩:=hr;exact⟨tx,rfl,M',occ',L',⟨F2,h2.ext y,(aJ.P x).trans (t2.trans (aJ.P y))⟩,hI⟩
end
section
variable{k:Nat}{w v v' u:au}{F:Nat->Prop}{g s o t:Nat}{M M':Sm}{occ occ':aC}{L L':Lv}{sl:H}{ws:aa}{tx:aq}
def xg.ext(h:xg k w F g s o t M occ L sl ws)(x:Ext w u):xg k u F g s o t M occ L sl ws:=⟨h.e.ext x,h.i,h.z,h.r.ext x,λb hb=>⟨gK (h.b b hb).1 x.size,(h.b b hb).2⟩,h.sz,h.n⟩
end
section
variable{k:Nat}{w v v' u:au}{F:Nat->Prop}{g s o t:Nat}{M M':Sm}{occ occ':aC}{L L':Lv}{sl:H}{ws:aa}{tx:aq}
def xg.same(h:xg k w F g s o t M occ L sl ws)(x:Ext w u):D0 k w F g s o t (.returned (.string tx)) u:=D0.TL (Ext.M w) (h.e.res (Ext.M w)) h.i.up x
end
section
variable{k:Nat}{w v v' u:au}{F:Nat->Prop}{g s o t:Nat}{M M':Sm}{occ occ':aC}{L L':Lv}{sl:H}{ws:aa}{tx:aq}
def xg.ld(h:xg k w F g s o t M occ L sl ws){j:Nat}(hj:j<ws.length):gD sl.a j sl.n/\∃a,Vc.ld w (N sl.a (((j:Nat):Int).toNat*1))=some (.string a):=by
 have hn:sl.n=ws.length:=by rw[h.r.n,aK]
 obtain⟨a,ha⟩:∃a,ws[j]? =some a:=⟨_,cK hj⟩;refine⟨h.r.jX X U U,a,?_⟩;have:=h.r.rd j (sv a) (by rw[aW,ha];rfl) 0 _ rfl;simpa using this
end
section
variable{k:Nat}{w v v' u:au}{F:Nat->Prop}{g s o t:Nat}{M M':Sm}{occ occ':aC}{L L':Lv}{sl:H}{ws:aa}{tx:aq}
def xg.pos(h:xg k w F g s o t M occ L sl ws):0<ws.length:=List.length_pos_iff.2 h.n
end
section
variable{k:Nat}{w v v' u:au}{F:Nat->Prop}{g s o t:Nat}{M M':Sm}{occ occ':aC}{L L':Lv}{sl:H}{ws:aa}{tx:aq}
def xg.ok(h:xg k w F g s o t M occ L sl ws):ES 70368744177664 L:=h.i.b.ok
end
section
variable{k:Nat}{w v v' u:au}{F:Nat->Prop}{g s o t:Nat}{M M':Sm}{occ occ':aC}{L L':Lv}{sl:H}{ws:aa}{tx:aq}
def xg.N_(h:xg k w F g s o t M occ L sl ws):qB M 800000000:=(h.i.N_ h.z).mono U
end
section
variable{k:Nat}{w v v' u:au}{F:Nat->Prop}{g s o t:Nat}{M M':Sm}{occ occ':aC}{L L':Lv}{sl:H}{ws:aa}{tx:aq}
def ahe{M:Sm}(hn:∀e∈M.T.2,EP e.1){c:Ce}{b:Int}(h0:(jo M.T.2 c b).2=0):fh c:=by have⟨hy,e,he,hp⟩:=KM h0;have:=Sn (by rw[<-hp];exact hn e he) hy;unfold fh;omega
end
section
variable{k:Nat}{w v v' u:au}{F:Nat->Prop}{g s o t:Nat}{M M':Sm}{occ occ':aC}{L L':Lv}{sl:H}{ws:aa}{tx:aq}
def u0{s':H}{l:ab}{B:Nat}(ho:ar B 3 1 u s' (l.map λn=>[S n])){j:Nat}(hj:j<l.length){a:Int}(ha:l[j]? =some a):gD s'.a j s'.n/\∀{v:au},Ext u v->Vc.ld v (N s'.a (((j:Nat):Int).toNat*1))=some (S a):=by
 have hr:=ar.rd ho X;have hn:s'.n=l.length:=by rw[hr.n,aK]
 refine⟨hr.jX X U U,λx=>?_⟩;have:=x.ld (hr.rd j [S a] (by rw[aW,ha];rfl) 0 _ rfl);simpa using this
end
section
variable{k:Nat}{w v v' u:au}{F:Nat->Prop}{g s o t:Nat}{M M':Sm}{occ occ':aC}{L L':Lv}{sl:H}{ws:aa}{tx:aq}
def J_{a:Int}(h: -1000000000000000<a/\a<1000000000000000):cH a:=XN
end
section
variable{k:Nat}{w v v' u:au}{F:Nat->Prop}{g s o t:Nat}{M M':Sm}{occ occ':aC}{L L':Lv}{sl:H}{ws:aa}{tx:aq}
def ahd{l:ab}(h:l.length=2):∃a b,l=[a,b]:=by
 match l,h with
 | [a,b],_=>exact⟨a,b,rfl⟩
end
section
variable{k:Nat}{w v v' u:au}{F:Nat->Prop}{g s o t:Nat}{M M':Sm}{occ occ':aC}{L L':Lv}{sl:H}{ws:aa}{tx:aq}
def V1{l:ab}(h:l.length=3):∃a b c,l=[a,b,c]:=by
 match l,h with
 | [a,b,c],_=>exact⟨a,b,c,rfl⟩
end
section
variable{k:Nat}{w v v' u:au}{F:Nat->Prop}{g s o t:Nat}{M M':Sm}{occ occ':aC}{L L':Lv}{sl:H}{ws:aa}{tx:aq}
def afZ{l:ab}(h:l.length=4):∃a b c d,l=[a,b,c,d]:=by
 match l,h with
 | [a,b,c,d],_=>exact⟨a,b,c,d,rfl⟩
end
section
variable{k:Nat}{w v v' u:au}{F:Nat->Prop}{g s o t:Nat}{M M':Sm}{occ occ':aC}{L L':Lv}{sl:H}{ws:aa}{tx:aq}
def ahE{l:ab}(h:l.length=5):∃a b c d e,l=[a,b,c,d,e]:=by
 match l,h with
 | [a,b,c,d,e],_=>exact⟨a,b,c,d,e,rfl⟩
end
section
variable{k:Nat}{w v v' u:au}{F:Nat->Prop}{g s o t:Nat}{M M':Sm}{occ occ':aC}{L L':Lv}{sl:H}{ws:aa}{tx:aq}
def ajS{l:ab}(h:l.length=1):∃a,l=[a]:=by
 match l,h with
 | [a],_=>exact⟨a,rfl⟩
end
section
variable{k:Nat}{w v v' u:au}{F:Nat->Prop}{g s o t:Nat}{M M':Sm}{occ occ':aC}{L L':Lv}{sl:H}{ws:aa}{tx:aq}
def xg.gE(h:xg k w F g s o t M occ L sl ws):Vc.ld w (N (O g) 0)=some (.pointer (O s))/\Y 39 #[.pointer (O s)] w (λe u=>e=.returned (.pointer (O o))/\u=w)/\Y 40 #[.pointer (O o)] w (λe u=>e=.returned (.pointer (O t))/\u=w):=by obtain⟨Fs,hS,hpp,-,-⟩:=h.e.EN;obtain⟨Fw,hW,-,-⟩:=hS.world;exact⟨hpp,cZ hS,gx hW⟩
end
section
variable{k:Nat}{w v v' u:au}{F:Nat->Prop}{g s o t:Nat}{M M':Sm}{occ occ':aC}{L L':Lv}{sl:H}{ws:aa}{tx:aq}
def xg.err{x:Int}(hx:er x)(y:Ext w v)(hr:dK F v g s o t M' occ' L' u)(hI:Inv (k+1) M' L'): Y 119 #[x] u λe u'=>∃t1:aq,e=bP t1/\D0 k w F g s o t (.returned (.string t1)) u':=by
 refine(P0 x hx u).mono ?_;rintro _ u' ⟨t1,rfl,-,xu⟩;exact⟨t1,rfl,D0.TL y hr hI xu⟩
end
section
variable{k:Nat}{w v v' u:au}{F:Nat->Prop}{g s o t:Nat}{M M':Sm}{occ occ':aC}{L L':Lv}{sl:H}{ws:aa}{tx:aq}
def acg(h:xg k w F g s o t M occ L sl ws):Y 68 #[.pointer (O g),sl] w (D0 k w F g s o t):=by
 apply acy.B;refine(wa h.r h.sz (many:=2) (all:=3) X X).mono ?_;rintro _ wb ⟨s1,b2,rfl,x0,hb⟩;have h0:=h.ext x0;have⟨g1,g2,g3⟩:=h0.gE;refine⟨s1,b2,rfl,_,g1,g2.V ?_⟩;refine⟨_,rfl,g3.V ?_⟩;refine⟨_,rfl,Z.mk (λc=>h.same x0) (λc=>Z.mk (λc2=>by cases c2) (λ_=>?_))⟩;have⟨ack,l,hl,ho,hrg⟩:=hb (ds c);obtain⟨a,b,rfl⟩:=ahd hl;have⟨i0,l0⟩:=u0 ho (j:=0) bo rfl;have⟨i1,l1⟩:=u0 ho (j:=1) bo rfl;have box:∀{w11 IH:au},w11=wb.drew.alloc (.cells #[J,J] 139)->IH=w11.setRow wb.drew.heap.size #[a,b]->Ext wb IH/\ah IH (some ⟨wb.drew.heap.size,0,none⟩) 0 [S a,S b]:=by
  intro w11 IH e11 e12;have x12:Ext wb.drew IH:=Ext.L ((Ext.M _).aZ e11) e12 (ak _);refine⟨(Ext.K wb).A x12,?_⟩;have:Row IH wb.drew.heap.size [S a,S b] 139:=by rw[e12];exact Row.set (by rw[e11];exact Row.new _ [_,_] _) _
  exact this.y (o:=0) (λj _=>by rw[eF])
 refine⟨λp v=>Ext wb v/\ah v p 0 [S a,S b],⟨i0,a,l0 (Ext.K wb),i1,b,l1 (Ext.K wb),λw11 e11 IH e12=>box e11 e12,λw11 e11 IH e12=>box e11 e12⟩,?_⟩;rintro us p v ⟨xv,lv⟩;have hv:=h0.ext xv;have y:=x0.A xv;have⟨Vl,t0,k0⟩:=hv.ld (j:=0) hv.pos;have hd:=h.i.d h.z;have hT:=h.i.n.1;have tb:∀{T'},nI k (20*k+1) T'->Inv (k+1) {M with T:=T'} L:=λq=>h.i.s_ (q.mono U U)
 have hp:∀y∈M.T.2,-1000000000<=y.2.2.2/\y.2.2.2<=1000000000:=λy hy=>by obtain⟨-,q1,q2⟩:=hT.e y hy;have:=h.z;omega
 refine⟨Vl,t0,k0,Z.mk (λ_=>⟨a,b,lv,(FM hv.e U (a,b)).mono ?_⟩) (λ_=>Z.mk (λ_=>⟨a,b,lv,(L3 hv.e U (a,b)).mono ?_⟩) (λ_=>Z.mk (λ_=>⟨a,b,lv,(PD hv.e U (a,b)).mono ?_⟩) (λ_=>Z.mk (λ_=>⟨a,b,lv,(JQ hv.e hp (a,b)).1.mono ?_⟩) (λ_=>⟨a,b,lv,(JQ hv.e hp (a,b)).2.mono ?_⟩))))⟩
 ·rintro _ u ⟨rfl,hr⟩;exact⟨_,rfl,xg.err (ahS ..) y hr (tb (hT.load (D:=M.T.1) (l:=M.T.2) (a,b)))⟩
 ·rintro _ u ⟨rfl,hr⟩;exact⟨_,rfl,xg.err (YU ..) y hr (tb (hT.ame (D:=M.T.1) (l:=M.T.2) (a,b)))⟩
 ·rintro _ u ⟨rfl,hr⟩;exact⟨_,rfl,xg.err (ac8 ..) y hr (tb (hT.flush (D:=M.T.1) (l:=M.T.2) (a,b)))⟩
 ·rintro _ u ⟨rfl,hr⟩;exact⟨_,rfl,xg.err (ac9 ..).1 y hr (h.i.s_ ((hT.Q_ (D:=M.T.1) (l:=M.T.2) (a,b)).mono U U))⟩
 ·rintro _ u ⟨rfl,hr⟩;exact⟨_,rfl,xg.err (ac9 ..).2 y hr (h.i.s_ ((hT.aqM (D:=M.T.1) (l:=M.T.2) (a,b)).mono U U))⟩
end
section
variable{k:Nat}{w v v' u:au}{F:Nat->Prop}{g s o t:Nat}{M M':Sm}{occ occ':aC}{L L':Lv}{sl:H}{ws:aa}{tx:aq}
def aiB(a:Int):One [S a]:=a0q
end
section
variable{k:Nat}{w v v' u:au}{F:Nat->Prop}{g s o t:Nat}{M M':Sm}{occ occ':aC}{L L':Lv}{sl:H}{ws:aa}{tx:aq}
def xg.ahf(h:xg k w F g s o t M occ L sl ws)(n:Int):cH (cw M.T.1 n).2:=by have hd:=h.i.d h.z;have hl:=afl h.e.dok;have e:(cw M.T.1 n).2=ee M.T.1.l-min (max n 0) (ee M.T.1.l):=rfl;have:ee M.T.1.l<=20000*1048576:=cV hl (tf _ hd);unfold cH;omega
end
section
variable{k:Nat}{w v v' u:au}{F:Nat->Prop}{g s o t:Nat}{M M':Sm}{occ occ':aC}{L L':Lv}{sl:H}{ws:aa}{tx:aq}
def afN(h:xg k w F g s o t M occ L sl ws):Y 69 #[.pointer (O g),sl] w (D0 k w F g s o t):=by
 apply agL.B;have⟨g1,g2,g3⟩:=h.gE;have hd:=h.i.d h.z;have h16:=h.e.few;refine⟨_,g1,g2.V ?_⟩;refine⟨_,rfl,g3.V ?_⟩;have⟨Vl,t0,k0⟩:=h.ld (j:=0) h.pos;refine⟨_,rfl,Z.mk (λc=>h.same (Ext.M _)) (λc=>Z.mk (λc2=>by cases c2) (λ_=>⟨Vl,t0,k0,Z.mk (λ_=>?_) (λ_=>Z.mk (λ_=>?_) (λ_=>Z.mk (λ_=>?_) (λ_=>?_)))⟩))⟩
 ·have⟨Fw,hW,abK⟩:=h.e.world;refine(DE hW U).F λw6 hr=>?_
  have⟨q1,q2,q3⟩:=afm M.T.2 M.T.1 [] 0 (jI 0);have hin:cH (gT M.T.1 M.T.2).2.1:=by unfold cH;unfold gT;omega
  have hI:=h.i.s_ ((h.i.n.1.ark (D:=M.T.1) (l:=M.T.2)).mono (show k<=k+1 by omega) (show 20*k+M.T.2.length<=20*(k+1)by omega));have e1:(⟨#[32]⟩:aq).size=1:=rfl;refine⟨_,_,rfl,(MJ _ hin w6).mono ?_⟩;rintro _ ajy ⟨t10,rfl,h10,x9⟩;refine⟨t10,rfl,a18,(P0 _ q1 ajy).mono ?_⟩;rintro _ w11 ⟨t12,rfl,h12,x11⟩;exact⟨t12,rfl,a0k,D0.TL (Ext.M _) (abK hr) hI (x9.A x11)⟩
 ·refine(YS h.e U).F λw13 hr=>?_
  exact⟨_,rfl,xg.err (ak3 ..) (Ext.M _) hr (h.i.s_ ((h.i.n.1.aV (h.i.rok h.e.qok)).mono U U))⟩
 ·refine(Cq h.e).mono ?_;rintro _ K8 ⟨s18,rfl,ho,x17⟩;refine⟨s18,rfl,(aaL (ho.rd X) (a1N (UG L)) (λn hn=>by have:=xH hn;unfold cH;omega)).mono ?_⟩;rintro _ w19 ⟨t20,rfl,-,x19⟩;exact⟨t20,rfl,h.same (x17.A x19)⟩
 ·obtain⟨Fw,hW,-⟩:=h.e.world;obtain⟨Ft,hT,-⟩:=hW.table;refine(uu hT).mono ?_;rintro _ w21 ⟨s22,rfl,ho,x21⟩;have hrd:=ho.rd X;have as3:s22.n=M.T.2.length:=by rw[hrd.n,aK]
  refine⟨s22,rfl,λn x sl' v=>∃(p:Nat)(l:ab),x=(p:Int)/\p+n=M.T.2.length/\l.length=2*p/\ar w21 3 1 v sl' (l.map λn=>[S n])/\(∀n∈l,-1000000000000000<n/\n<1000000000000000)/\Ext w21 v,⟨M.T.2.length,0,[],rfl,U,rfl,ar.nil,λn hn=>(by cases hn),Ext.M _⟩,?_⟩;rintro n1 us x s27 v ⟨p,l,rfl,hp,hl,hos,hrg,xv⟩;have hsn:s27.n=l.length:=by rw[(ar.rd hos X).n,aK]
  refine Z.mk (λc=>?_) (λc=>?_)
  ·have c:p<M.T.2.length:=by have:=of_decide_eq_true c;omega
   obtain⟨y,hy⟩:∃y,M.T.2[p]? =some y:=⟨_,cK c⟩;have hld:ah v.drew (N s22.a (((p:Nat):Int).toNat*2)) 0 [S y.1.1,S y.1.2]:=by have:=(hrd.ext (xv.A (Ext.K v))).y (i:=p) (r:=[S y.1.1,S y.1.2]) (by rw[aW,hy];rfl);simpa using this
   obtain⟨⟨⟨r1,r2⟩,r3,r4⟩,-,-⟩:=h.i.n.1.e y (aQ hy);have hib:=hrd.jX (i:=(p:Int)) X U U;have l0:Vc.ld v.drew (N (N s22.a (((p:Nat):Int).toNat*2)) 0)=some (S y.1.1):=hld.1;have l1:Vc.ld v.drew (N (N s22.a (((p:Nat):Int).toNat*2)) 1)=some (S y.1.2):=hld.2;have hns:(N s22.a (((p:Nat):Int).toNat*2)).isSome=true:=by rw[Dj];exact hib.1
   refine⟨hib,cA.2 ⟨hns,_,l0,hib,cA.2 ⟨hns,_,l1,λw32 e32=>?_⟩⟩⟩;have x32:Ext v.drew w32:=by rw[e32];exact Ext.al _ _
   have z32:w32.heap.size=v.heap.size+1:=by rw[e32];simp
   have alN:Ext v w32:=(Ext.K v).A x32;have zv:=xv.size;have h2:(l.map λn=>[S n]).length=l.length:=aK _;have⟨a1,a2⟩:=(hos.ext alN).FB (bytes:=8) (more:=[[S y.1.1],[S y.1.2]]) U (λr hr=>a0g) (λr hr=>by simp at hr;rcases hr with rfl|rfl<;>exact aiB _) m_ m_;refine⟨a1,λs33 w34 abK=>?_⟩;obtain⟨b1,b2,b3,b4,-⟩:=a2 s33 w34 abK;refine⟨b4 _ (λq=>by have:=(hos.own.lt q).2;have e:v.drew.heap.size=v:=rfl;omega) (by rw[z32];exact Nat.lt_succ_self _),n1-1,U,p+1,l++[y.1.1,y.1.2],a0c,U,by simp;omega,?_,?_,Below.trans (xv.A alN) b3⟩
   ·rw[cl];exact b1
   ·intro n hn;rcases List.mem_append.1 hn with hn|hn
    ·exact hrg n hn
    ·simp at hn;rcases hn with rfl|rfl<;>omega
  ·have c:¬p<M.T.2.length:=by have:=of_decide_eq_false c;omega
   refine(aaL (ar.rd hos X) U (λn hn=>J_ (hrg n hn))).mono ?_;rintro _ w35 ⟨t36,rfl,-,x35⟩;exact⟨t36,rfl,h.same (x21.A (xv.A x35))⟩
end
def af0{v:au}{b:Nat}{xs:af}{t:aB}(hr9:Row v b xs t):RdK v ⟨some ⟨b,0,none⟩,xs.length,xs.length⟩ 1 (xs.map λx=>[x]):=by
 refine⟨(aK _).symm,λq hq=>?_,λi q hi j v hj=>?_⟩
 ·obtain⟨t,-,rfl⟩:=List.mem_map.1 hq;rfl
 ·rw[aW]at hi;obtain⟨t,ht,rfl⟩:=Option.map_eq_some_iff.1 hi
  cases j with
  |succ j=>simp at hj
  |zero=>
   simp at hj;subst hj;rw[aF,hr9.ld];simp[ht]
def ahF{u v:au}{xs:af}{t:aB}(e:v=u.alloc (.cells xs.toArray t)):RdK v ⟨some ⟨u,0,none⟩,xs.length,xs.length⟩ 1 (xs.map λx=>[x]):=
 af0 (t:=t) a1x
def V4{u v:au}{l:ab}{t:aB}(e:v=u.alloc (.cells (l.map λn=>S n).toArray t))(hn:l.length<=1000)(hl:∀n∈l,cH n): Y 55 #[.slice (O u) l.length l.length] v λe w'=>∃t:aq,e=bP t/\t.size<=100000/\Ext v w':=by
 have hrd:RdK v ⟨some ⟨u,0,none⟩,l.length,l.length⟩ 1 (l.map λn=>[S n]):=by have:=ahF e;rw[pR,aK]at this;exact this
 exact aaL (s:=⟨some ⟨u,0,none⟩,l.length,l.length⟩) hrd hn hl
def ahH{s':H}{l:ab}{B:Nat}{u v:au}{F:Nat->Prop}(ho:ar B 3 1 u s' (l.map λn=>[S n]))(m:Mod F u v)(hF:∀i,F i->i<B){j:Nat}(hj:j<l.length){a:Int}(ha:l[j]? =some a):Vc.ld v (N s'.a (((j:Nat):Int).toNat*1))=some (S a):=
 (u0 (u:=v) ⟨ho.own.aV λg hg=>m.same g (ho.own.lt hg).2 λq=>by have:=hF g q;have:=(ho.own.lt hg).1;omega,ho.wd⟩ hj ha).2 (Ext.M _)
def aia{F:Nat->Prop}{w:au}{t:Nat}{aj limit:Int}{T:Tb}(h:TF F w t aj limit T):∃V0 d,Vc.ld w (N (O t) 0)=some (.pointer (O V0))/\Vc.ld w (N (N (O V0) 0) 0)=some (.pointer (O d))/\∀n,cH n->Y 122 #[.pointer (O d),n] w λe w'=>e=bT #[]/\Vc.ld w' (N (O t) 0)=some (.pointer (O V0))/\Fy F w t aj limit (om T.1 n,T.2) w':=by
 obtain⟨V0,d,r,sl,its,h1,e,rfl⟩:=h;rw[<-e];refine⟨V0,d,h1.rt.at 0 rfl,h1.so.ptr,λn hn=>(Vb h1 hn).F λw' hl=>?_⟩;obtain⟨r',sl',its',h2,-⟩:=id hl;exact⟨rfl,h2.rt.at 0 rfl,wK hl⟩
section
variable{k:Nat}{w v v' u:au}{F:Nat->Prop}{g s o t:Nat}{M M':Sm}{occ occ':aC}{L L':Lv}{sl:H}{ws:aa}{tx:aq}
def aed(h:xg k w F g s o t M occ L sl ws):Y 70 #[.pointer (O g),sl] w (D0 k w F g s o t):=by
 apply agG.B;refine(wa h.r h.sz (many:=1) (all:=2) X X).mono ?_;rintro _ wb ⟨s1,b2,rfl,x0,hb⟩;have h0:=h.ext x0;have⟨g1,g2,g3⟩:=h0.gE;refine⟨s1,b2,rfl,_,g1,g2.V ?_⟩;refine⟨_,rfl,g3.V ?_⟩;refine⟨_,rfl,Z.mk (λc=>h.same x0) (λc=>Z.mk (λc2=>by cases c2) (λ_=>?_))⟩;have⟨ack,l,hl,ho,hrg⟩:=hb (ds c);obtain⟨a,rfl⟩:=ajS hl;have⟨i0,l0⟩:=u0 ho (j:=0) bo rfl;have hra:=J_ (hrg a (ka2 ..));have⟨Vl,t0,k0⟩:=h0.ld (j:=0) h0.pos;have hd:=h.i.d h.z;refine⟨Vl,t0,k0,Z.mk (λ_=>?_) (λ_=>Z.mk (λ_=>⟨i0,a,l0 (Ext.M _),?_⟩) (λ_=>Z.mk (λ_=>⟨i0,a,l0 (Ext.M _),?_⟩) (λ_=>Z.mk (λ_=>⟨i0,a,l0 (Ext.M _),?_⟩) (λ_=>⟨i0,a,l0 (Ext.M _),?_⟩))))⟩
 ·have hv:=h0.ext (Ext.K wb);have⟨Fw,hW,abK⟩:=hv.e.world;obtain⟨F1,hT,-,hrt⟩:=hW.table;have⟨V0,d,g1,g2,g3⟩:=aia hT;refine cA.2 ⟨rfl,cA.2 ⟨rfl,_,g1,cA.2 ⟨rfl,cA.2 ⟨rfl,cA.2 ⟨rfl,_,g2,i0,a,l0 (Ext.K wb),(g3 a hra).mono ?_⟩⟩⟩⟩⟩;rintro _ IH ⟨rfl,hld,hr⟩;exact⟨rfl,hld,D0.TL (x0.A (Ext.K wb)) (abK (hrt hr)) (h.i.s_ ((h.i.n.1.fail (D:=M.T.1) (l:=M.T.2) a).mono U U)) (Ext.M _)⟩
 ·refine(afn h0.e h0.i h.z a).F λw14 hr=>?_
  refine⟨_,rfl,(MJ _ (h.ahf a) w14).mono ?_⟩;rintro _ w16 ⟨t17,rfl,-,x16⟩;exact⟨t17,rfl,D0.TL x0 hr (h.i.Dr a) x16⟩
 ·refine(Y4 h0.e a).F λw19 hr=>?_
  exact⟨_,rfl,xg.err (ahZ L a) x0 hr (h.i.lv (adn h.i.b a))⟩
 ·refine(J7 h0.e a).F λw24 x24=>?_
  refine⟨_,_,_,_,_,_,_,_,_,_,rfl,λw35 e35 w36 e36=>?_⟩;have x36:Ext wb w36:=x24.A (Ext.L ((Ext.M _).aZ e35) e36 (ak _));have z36:w36.heap.size=w24.heap.size+1:=by rw[e36,e35];simp
  have⟨⟨f1,f2,f3⟩,q1,q2,q3⟩:=ah9 h.i.b a;refine Z.mk (λ_=>h.same (x0.A x36)) (λ_=>Z.mk (λ_ w37 e37=>?_) (λ_ w40 e40=>?_))
  ·refine(V4 (l:=[(dJ L a).1.aw.1,(dJ L a).1.aw.2.1,(dJ L a).1.aw.2.2,(dJ L a).1.speed.1,(dJ L a).1.speed.2.1,(dJ L a).1.speed.2.2,1]) e37 bo (by
    intro n hn;simp only[cu,iT,or_false]at hn;rcases hn with rfl|rfl|rfl|rfl|rfl|rfl|rfl<;>first|assumption|(unfold cH;decide))).mono ?_
   rintro _ w38 ⟨t39,rfl,-,x38⟩;exact⟨t39,rfl,x38.heap (by rw[e37];simp;omega),h.same (x0.A ((x36.aZ e37).A x38))⟩
  ·refine(V4 (l:=[(dJ L a).1.aw.1,(dJ L a).1.aw.2.1,(dJ L a).1.aw.2.2,(dJ L a).1.speed.1,(dJ L a).1.speed.2.1,(dJ L a).1.speed.2.2,0]) e40 bo (by
    intro n hn;simp only[cu,iT,or_false]at hn;rcases hn with rfl|rfl|rfl|rfl|rfl|rfl|rfl<;>first|assumption|(unfold cH;decide))).mono ?_
   rintro _ w38 ⟨t39,rfl,-,x38⟩;exact⟨t39,rfl,x38.heap (by rw[e40];simp;omega),h.same (x0.A ((x36.aZ e40).A x38))⟩
 ·refine Z.mk (λ_=>h.same x0) (λc1=>⟨i0,a,l0 (Ext.M _),Z.mk (λ_=>h.same x0) (λc2=>?_)⟩);have c1:=of_decide_eq_false c1;have c2:=of_decide_eq_false c2;refine⟨λm x y v=>∃j:Nat,x=j/\y=(fJ j M L).1/\(j:Int)+m=a/\∃occ',dK F wb g s o t (fJ j M L).2.1 occ' (fJ j M L).2.2 v,⟨a.toNat,0,rfl,rfl,U,occ,h0.e.res (Ext.M _)⟩,?_⟩;rintro m us x y v ⟨j,rfl,rfl,hj,occ',hr⟩;have⟨hJ,ht1,ht2⟩:=h.i.ak6 j;have⟨F',hE,ht⟩:=id hr;have hk:=h.z;have hs:qB (fJ j M L).2.1 600000000:=hJ.s.mono U;have aqg:=hr.mod;have la:Vc.ld v (N s1.a (((0:Nat):Int).toNat*1))=some (S a):=ahH ho hr.mod (λi hi=>h.e.lt hi) bo rfl;refine⟨i0,a,la,Z.mk (λc=>?_) (λc=>?_)⟩
  ·have c:(j:Int)<a:=of_decide_eq_true c;refine(Kg hE hJ.b.ok X X hJ.n.due hs hJ.u).mono ?_;rintro _ IH ⟨rfl,hr2,-⟩;have hl:=EZ (q:=(fJ j M L).2.1.q) (now:=qC (fJ j M L).2.1) hJ.u;have hl2:(uO (fJ j M L).2.1).length<=64:=hl;refine⟨_,rfl,m-1,U,j+1,a0c,?_,U,_,dK.A ht hr2⟩;rw[wI j_];rfl
  ·have c:¬(j:Int)<a:=of_decide_eq_false c;obtain⟨Fs,hS,hpp,-,-⟩:=hE.EN;have i1:cH (fJ j M L).1:=by unfold cH;omega
   have i2:cH (fJ j M L).2.1.now:=by have:=hs.now;unfold cH;omega
   refine(BS hE).V ?_;refine⟨_,rfl,(Cz hS).V ?_⟩;refine⟨_,rfl,λw59 e59=>(V4 (l:=[(fJ j M L).1,(fJ j M L).2.1.now]) e59 bo (by
    intro n hn;simp only[cu,iT,or_false]at hn;rcases hn with rfl|rfl<;>assumption)).mono ?_⟩
   rintro _ w60 ⟨t61,rfl,-,x60⟩;exact⟨t61,rfl,D0.TL x0 hr (hJ.inv U) (((Ext.M _).aZ e59).A x60)⟩
end
def t_{w:au}{p:ai}{v:aC}(h:Vc.ld w p=some v):ah w p 0 [v]:=by show Vc.ld w (N p 0)=_;rw[fu];exact h
def abM(tx:aq)(w:au):Y 125 #[.string tx] w λe w'=>∃(x:Int)(b:aX),e=bT #[x,b]/\(0<=x/\x<16)/\Ext w w':=by
 apply acs.B;refine⟨λn x v=>∃p:Nat,x=(p:Int)/\p+n=16/\Ext w v,⟨16,0,rfl,rfl,Ext.M _⟩,?_⟩;rintro n1 us x v ⟨p,rfl,hp,xv⟩;have hw:IntKind.wrap .i64 ((p:Int)+1)=((p+1:Nat):Int):=a0c
 refine Z.mk (λc=>?_) (λc=>⟨0,false,rfl,X,xv⟩);have c:(p:Int)<16:=of_decide_eq_true c;refine(HY _ v).V ?_;refine⟨_,rfl,Z.mk (λ_=>?_) (λ_=>⟨n1-1,U,p+1,hw,U,xv⟩)⟩;refine(M1 _ v j_).F λw8 x8=>?_
 exact⟨_,rfl,Z.mk (λ_=>⟨_,true,rfl,U,xv.A x8⟩) (λ_=>⟨n1-1,U,p+1,hw,U,xv.A x8⟩)⟩
def abZ{s':H}{l:ab}{B:Nat}{u w:au}(ho:ar B 3 1 u s' (l.map λn=>[S n]))(xw:Ext u w){i:Nat}(hi:i<=10){a b c:Int}(ha:l[i]? =some a)(hb:l[i+1]? =some b)(hc:l[i+2]? =some c): Y 128 #[s',(i:Int)] w λe w'=>e=vI #[a,b,c]/\Ext w w':=by
 apply agw.B;intro wb e0;have x0:Ext w wb:=a0i
 have x0':=(xw.A x0).A (Ext.K wb);have h1:IntKind.wrap .i64 ((i:Int)+1)=((i+1:Nat):Int):=a0c
 have h2:IntKind.wrap .i64 ((i:Int)+2)=((i+2:Nat):Int):=a0c
 rw[h1,h2];have⟨i0,l0⟩:=u0 ho (List.getElem?_eq_some_iff.1 ha).1 ha;have⟨i1,l1⟩:=u0 ho (List.getElem?_eq_some_iff.1 hb).1 hb;have⟨i2,l2⟩:=u0 ho (List.getElem?_eq_some_iff.1 hc).1 hc;refine⟨i0,a,l0 x0',i1,b,l1 x0',i2,c,l2 x0',λaqd e4=>⟨rfl,Ext.L (x0.A (Ext.K wb)) e4 (ak _)⟩⟩
section
variable{k:Nat}{w v v' u:au}{F:Nat->Prop}{g s o t:Nat}{M M':Sm}{occ occ':aC}{L L':Lv}{sl:H}{ws:aa}{tx:aq}
def abF(h:xg k w F g s o t M occ L sl ws):Y 71 #[.pointer (O g),sl] w (D0 k w F g s o t):=by
 apply ab0.B;rw[show IntKind.wrap .i64 (3+2)=((5:Nat):Int)from rfl,show IntKind.wrap .i64 (4+2)=((6:Nat):Int)from rfl,show IntKind.wrap .i64 (3+1)=((4:Nat):Int)from rfl,show IntKind.wrap .i64 (4+1)=((5:Nat):Int)from rfl];have⟨Vl,t0,k0⟩:=h.ld (j:=0) h.pos;refine⟨Vl,t0,k0,Z.mk (λc0=>?_) (λc0=>?_)⟩
 ·refine(wa h.r h.sz (many:=3) (all:=5) X X).mono ?_;rintro _ o0 ⟨s1,b2,rfl,yj,hb⟩;refine⟨s1,b2,rfl,Z.mk (λc=>h.same yj) (λc=>?_)⟩;have⟨ack,l,hl,ho,hrg⟩:=hb (ds c);obtain⟨a,b,d,rfl⟩:=V1 hl;have⟨acF,t4,k4⟩:=(h.ext yj).ld (j:=4) U;refine⟨acF,t4,k4,(abM t4 o0).mono ?_⟩;rintro _ afO ⟨bl,b7,rfl,hbl,x5⟩;have x15:=yj.A x5;refine⟨bl,b7,rfl,Z.mk (λ_=>h.same x15) (λ_=>⟨Vl,t0,x15.ld k0,Z.mk (λ_=>?_) (λc1=>by rw[c0]at c1;cases c1)⟩)⟩;have x5':=x5.A (Ext.K afO);have⟨i0,l0⟩:=u0 ho (j:=0) bo rfl;have⟨i1,l1⟩:=u0 ho (j:=1) bo rfl;have⟨i2,l2⟩:=u0 ho (j:=2) bo rfl;have h5:=h.ext (x15.A (Ext.K afO));have hc:pQ (a,b,d):=⟨J_ (hrg a bo),J_ (hrg b bo),J_ (hrg d bo)⟩;refine⟨i0,a,l0 x5',i1,b,l1 x5',i2,d,l2 x5',(Dx h5.e h.ok (a,b,d) bl hc (ahe λe he=>(h.i.n.1.e e he).1) h.N_).F λIH hr=>?_⟩;exact⟨_,rfl,xg.err (Oq M L (a,b,d) bl) (x15.A (Ext.K afO)) hr (h.i.afF L (a,b,d) bl)⟩
 ·refine(wa h.r h.sz (many:=4) (all:=6) X X).mono ?_;rintro _ o0 ⟨s1,b2,rfl,yj,hb⟩;refine⟨s1,b2,rfl,Z.mk (λc=>h.same yj) (λc=>?_)⟩;have⟨ack,l,hl,ho,hrg⟩:=hb (ds c);obtain⟨a,b,d,e,rfl⟩:=afZ hl;have⟨acF,t4,k4⟩:=(h.ext yj).ld (j:=5) U;refine⟨acF,t4,k4,(abM t4 o0).mono ?_⟩;rintro _ afO ⟨bl,b7,rfl,hbl,x5⟩;have x15:=yj.A x5;refine⟨bl,b7,rfl,Z.mk (λ_=>h.same x15) (λ_=>⟨Vl,t0,x15.ld k0,Z.mk (λc1=>by rw[c0]at c1;cases c1) (λ_=>?_)⟩)⟩;have x5':=x5.A (Ext.K afO);have⟨i0,l0⟩:=u0 ho (j:=0) bo rfl;refine⟨i0,a,l0 x5',(abZ ho x5' (i:=1) X rfl rfl rfl).F λK8 x17=>?_⟩;have y:=(x15.A (Ext.K afO)).A x17;refine⟨_,_,_,rfl,t_ (l0 (x5'.A x17)),(SY (h.ext y).e h.ok X a (b,d,e) bl h.N_).F λIH hr=>?_⟩;exact⟨_,rfl,xg.err (afG M L a (b,d,e) bl) y hr (h.i.place a (b,d,e) bl)⟩
end
def P1(b:Int)(w:au):Y 130 #[b] w λe w'=>∃t:aq,e=bP t/\t.size<=100/\Ext w w':=by
 by_cases hm:cN b=true
 ·exact ahg b (by unfold cN at hm;simp at hm;unfold cH;omega) w
 ·apply abo.B;refine Z.mk (λc=>⟨_,rfl,X,Ext.M _⟩) (λc=>?_);apply aaZ.B;refine(HY b w).V ?_;refine⟨_,rfl,Z.mk (λh=>⟨_,rfl,_,rfl,X,Ext.M _⟩) (λh=>?_)⟩;simp at h;exact absurd h hm
section
variable{k:Nat}{w v v' u:au}{F:Nat->Prop}{g s o t:Nat}{M M':Sm}{occ occ':aC}{L L':Lv}{sl:H}{ws:aa}{tx:aq}
def acj(h:xg k w F g s o t M occ L sl ws):Y 72 #[.pointer (O g),sl] w (D0 k w F g s o t):=by
 apply acz.B;refine(wa h.r h.sz (many:=4) (all:=5) X X).mono ?_;rintro _ wb ⟨s1,b2,rfl,x0,hb⟩;refine⟨s1,b2,rfl,Z.mk (λc=>h.same x0) (λc=>?_)⟩;obtain⟨ack,l,hl,ho,hrg⟩:=hb (by simpa using c);obtain⟨n,x,y,z,rfl⟩:=afZ hl;obtain⟨Vl,t0,k0⟩:=(h.ext x0).ld (j:=0) (h.ext x0).pos;obtain⟨i0,l0⟩:=u0 ho (j:=0) bo rfl;have xd:=x0.A (Ext.K wb);have vec:=λ{u:au}(xu:Ext wb u)=>abZ ho xu (i:=1) X (a:=x) (b:=y) (c:=z) rfl rfl rfl
 refine⟨Vl,t0,k0,Z.mk (λ_=>⟨i0,n,l0 (Ext.K wb),(vec (Ext.K wb)).mono ?_⟩) (λ_=>?_)⟩
 ·rintro _ afO ⟨rfl,x5⟩;have y5:=xd.A x5;refine⟨_,_,_,rfl,t_ (l0 ((Ext.K wb).A x5)),(SZ (h.ext y5).e h.ok X n (x,y,z) h.N_).F λajy hr=>?_⟩;refine⟨_,_,rfl,Z.mk (λ_=>xg.err (anm M L n (x,y,z)) y5 hr (h.i.brk n (x,y,z))) (λ_=>(P1 _ ajy).mono ?_)⟩;rintro _ w14 ⟨t15,rfl,-,x14⟩;exact⟨t15,rfl,D0.TL y5 hr (h.i.brk n (x,y,z)) x14⟩
 ·have hin:=aiP (M:=M) h.ok X n (x,y,z);have her:er (cM M L n (x,y,z)).2:=Nh M L n (x,y,z);have look:∀{u:au},Ext w u->Y 131 #[.pointer (O g),n,fQ (x,y,z)] u λe w'=>e=Value.tuple #[W_ (cM M L n (x,y,z)).1,.int .i64 (cM M L n (x,y,z)).2]/\Ext u w':=λxu=>vL (h.ext xu).e h.ok X n (x,y,z)
  generalize cM M L n (x,y,z)=l at*;refine⟨λe p v=>Ext w v/\e=l.2/\∃b,p=O b/\Row v b [S l.1.1.1,S l.1.1.2.1,S l.1.1.2.2,S l.1.2.1,S l.1.2.2.1,S l.1.2.2.2] 184,⟨i0,n,l0 (Ext.K wb),(vec (Ext.K wb)).mono ?_,?_⟩,?_⟩
  ·rintro _ w18 ⟨rfl,x18⟩;have y18:=xd.A x18;refine⟨_,_,_,rfl,t_ (l0 ((Ext.K wb).A x18)),(look y18).mono ?_,λw32 e32=>?_⟩
   ·rintro _ w22 ⟨rfl,x22⟩;refine⟨_,_,_,_,_,_,_,rfl,λw30 e30 w31 e31=>⟨y18.A (x22.A (Ext.L ((Ext.M _).aZ e30) e31 (ak _))),rfl,_,rfl,?_⟩⟩;rw[e31];exact Row.set (by rw[e30];exact Row.new _ [_,_,_,_,_,_] _) _
   ·have x32:Ext w18 w32:=(Ext.M _).aZ e32;have z32:=zA e32;refine(look (y18.A x32)).F λw33 x33=>?_
    refine⟨_,_,_,_,_,_,_,rfl,x33.k,λw41 e41=>⟨y18.A (Ext.L (x32.A x33) e41 (ak _)),rfl,_,rfl,?_⟩⟩;rw[e41];exact Row.set ((show Row w32 w18.heap.size _ _ by rw[e32];exact Row.new _ [_,_,_,_,_,_] _).ext x33) _
  ·intro w42 e42;have x42:Ext wb.drew w42:=(Ext.M _).aZ e42;have z42:w42.heap.size=wb.drew.heap.size+1:=by rw[e42];simp
   refine(vec ((Ext.K wb).A x42)).F λw43 x43=>?_
   have z43:=x43.size;refine⟨_,_,_,rfl,x43.k,t_ (l0 (((Ext.K wb).A x42).A x43)),(look ((xd.A x42).A x43)).F λw47 x47=>?_⟩;have z47:=x47.size;refine⟨_,_,_,_,_,_,_,rfl,x47.k,λw55 e55=>⟨xd.A (Ext.L ((x42.A x43).A x47) e55 (ak _)),rfl,_,rfl,?_⟩⟩;rw[e55];exact Row.set (((show Row w42 wb.drew.heap.size _ _ by rw[e42];exact Row.new _ [_,_,_,_,_,_] _).ext x43).ext x47) _
  ·rintro us e p v ⟨xv,rfl,b,rfl,hr⟩;refine Z.mk (λ_=>(P0 _ her v).mono ?_) (λ_=>?_)
   ·rintro _ w60 ⟨t61,rfl,-,x60⟩;exact⟨t61,rfl,h.same (xv.A x60)⟩
   have hv:=hr.ext (Ext.K v);have lr:∀{u:au},Ext v.drew u->∀j:Nat,∀a,[S l.1.1.1,S l.1.1.2.1,S l.1.1.2.2,S l.1.2.1,S l.1.2.2.1,S l.1.2.2.2][j]? =some a->Vc.ld u (some ⟨b,j,none⟩)=some a:=λxu j a ha=>by rw[(hv.ext xu).ld];exact ha
   have lL:∀{u:au},Ext v.drew u->∀j:Nat,∀a,[S l.1.1.1,S l.1.1.2.1,S l.1.1.2.2,S l.1.2.1,S l.1.2.2.1,S l.1.2.2.2][j]? =some a->ah u (some ⟨b,j,none⟩) 0 [a]:=λxu j a ha=>t_ (lr xu j a ha)
   have xvd:=xv.A (Ext.K v);obtain⟨⟨q1,q2,q3⟩,q4,q5⟩:=hin;have e1:(ByteArray.mk #[32]).size=1:=rfl;simp only[aF];refine cA.2 ⟨rfl,_,lr (Ext.M _) 3 _ rfl,cA.2 ⟨rfl,cA.2 ⟨rfl,_,lr (Ext.M _) 0 _ rfl,cA.2 ⟨rfl,cA.2 ⟨rfl,_,lr (Ext.M _) 1 _ rfl,cA.2 ⟨rfl,cA.2 ⟨rfl,_,lr (Ext.M _) 2 _ rfl,cA.2 ⟨rfl,_,lr (Ext.M _) 4 _ rfl,cA.2 ⟨rfl,_,lr (Ext.M _) 5 _ rfl,(P1 _ v.drew).mono ?_,λw73 e73=>(P1 _ w73).mono ?_⟩⟩⟩⟩⟩⟩⟩⟩⟩
   ·rintro _ w68 ⟨t69,rfl,h69,x68⟩;refine⟨t69,rfl,lL x68 5 _ rfl,lL x68 4 _ rfl,lL x68 2 _ rfl,lL x68 1 _ rfl,lL x68 0 _ rfl,by rw[Ol,e1];omega,λw70 e70=>(V4 (l:=[l.1.1.1,l.1.1.2.1,l.1.1.2.2,l.1.2.2.1,l.1.2.2.2]) e70 bo (by
     intro n hn;simp only[cu,iT,or_false]at hn;rcases hn with rfl|rfl|rfl|rfl|rfl<;>assumption)).mono ?_⟩
    rintro _ w71 ⟨t72,rfl,h72,x71⟩;exact⟨t72,rfl,by rw[Ol,ByteArray.size_append,e1];omega,h.same (xvd.A ((x68.aZ e70).A x71))⟩
   ·rintro _ w74 ⟨t75,rfl,h75,x74⟩;have x73:Ext v.drew w73:=(Ext.M _).aZ e73;have z73:w73.heap.size=v.drew.heap.size+1:=by rw[e73];simp
    refine⟨t75,rfl,x74.k,by rw[Ol,e1];omega,?_⟩;have hrw:Row w74 v.drew.heap.size [S l.1.1.1,S l.1.1.2.1,S l.1.1.2.2,S l.1.2.2.1,S l.1.2.2.2] 3:=(show Row w73 v.drew.heap.size _ _ by rw[e73];exact Row.new _ [_,_,_,_,_] _).ext x74;refine(aaL (s:=⟨some ⟨v.drew.heap.size,0,none⟩,5,5⟩) (l:=[l.1.1.1,l.1.1.2.1,l.1.1.2.2,l.1.2.2.1,l.1.2.2.2]) (af0 hrw) bo (by
     intro n hn;simp only[cu,iT,or_false]at hn;rcases hn with rfl|rfl|rfl|rfl|rfl<;>assumption)).mono ?_
    rintro _ w76 ⟨t77,rfl,h77,x76⟩;exact⟨t77,rfl,by rw[Ol,ByteArray.size_append,e1];omega,h.same (xvd.A ((x73.A x74).A x76))⟩
end
section
variable{k:Nat}{w v v' u:au}{F:Nat->Prop}{g s o t:Nat}{M M':Sm}{occ occ':aC}{L L':Lv}{sl:H}{ws:aa}{tx:aq}
def xg.len(h:xg k w F g s o t M occ L sl ws):L.length=16:=by obtain⟨av,-,he,-⟩:=h.e.row;exact he.m
end
section
variable{k:Nat}{w v v' u:au}{F:Nat->Prop}{g s o t:Nat}{M M':Sm}{occ occ':aC}{L L':Lv}{sl:H}{ws:aa}{tx:aq}
def xg.aV(h:xg k w F g s o t M occ L sl ws){j:Nat}(hj:j<ws.length){a:aq}(ha:Vc.ld w (N sl.a (((j:Nat):Int).toNat*1))=some (.string a))(m:Mod F w u):Vc.ld u (N sl.a (((j:Nat):Int).toNat*1))=some (.string a):=by
 have hr:RdK u sl 1 (ws.map sv):=h.r.same λb hb=>m.same b (h.b b hb).1 (h.b b hb).2
 obtain⟨x,hx⟩:∃x,ws[j]? =some x:=⟨_,cK hj⟩;have h1:=h.r.rd j (sv x) (by rw[aW,hx];rfl) 0 _ rfl;have h2:=hr.rd j (sv x) (by rw[aW,hx];rfl) 0 _ rfl;simp at h1 h2;have e:N sl.a (((j:Nat):Int).toNat*1)=N sl.a j:=by simp
 rw[e]at ha⊢;rw[h2,<-h1,ha]
end
section
variable{k:Nat}{w v v' u:au}{F:Nat->Prop}{g s o t:Nat}{M M':Sm}{occ occ':aC}{L L':Lv}{sl:H}{ws:aa}{tx:aq}
def aby(h:xg k w F g s o t M occ L sl ws):Y 73 #[.pointer (O g),sl] w (D0 k w F g s o t):=by
 apply abY.B;have⟨Vl,t0,k0⟩:=h.ld (j:=0) h.pos;refine⟨Vl,t0,k0,Z.mk (λ_=>?_) (λ_=>Z.mk (λ_=>?_) (λ_=>Z.mk (λ_=>?_) (λ_=>?_)))⟩
 ·refine(wa h.r h.sz (many:=5) (all:=6) X X).mono ?_;rintro _ o0 ⟨s1,b2,rfl,yj,hb⟩;refine⟨s1,b2,rfl,Z.mk (λc=>h.same yj) (λc=>?_)⟩;have⟨ack,l,hl,ho,hrg⟩:=hb (ds c);obtain⟨a,b,d,e,f,rfl⟩:=ahE hl;have⟨i3,l3⟩:=u0 ho (j:=3) bo rfl;have⟨i4,l4⟩:=u0 ho (j:=4) bo rfl;refine⟨i3,e,l3 (Ext.K o0),i4,f,l4 (Ext.K o0),(abZ ho (Ext.K o0) (i:=0) X rfl rfl rfl).F λw6 x6=>?_⟩;have xd:=(Ext.K o0).A x6;have y:=yj.A xd;refine⟨_,_,_,rfl,t_ (l4 xd),t_ (l3 xd),(Us (h.ext y).e (a,b,d) e f (J_ (hrg e bo))).F λw10 hr=>?_⟩;have hI:=h.i.lv (Y5 (M:=M) h.i.b (nK (a,b,d) e f));refine⟨_,_,rfl,Z.mk (λ_=>xg.err (ado M L _) y hr hI) (λ_=>(MJ _ (JU M h.len _) w10).mono ?_)⟩;rintro _ w15 ⟨t16,rfl,-,x15⟩;exact⟨t16,rfl,D0.TL y hr hI x15⟩
 ·refine(wa h.r h.sz (many:=3) (all:=5) X X).mono ?_;rintro _ o0 ⟨s1,b2,rfl,yj,hb⟩;refine⟨s1,b2,rfl,Z.mk (λc=>h.same yj) (λc=>?_)⟩;have⟨ack,l,hl,ho,hrg⟩:=hb (ds c);obtain⟨a,b,d,rfl⟩:=V1 hl;have⟨i0,l0⟩:=u0 ho (j:=0) bo rfl;have⟨i1,l1⟩:=u0 ho (j:=1) bo rfl;have⟨i2,l2⟩:=u0 ho (j:=2) bo rfl;have h1:=h.ext yj;have hd:=h1.ext (Ext.K o0);have⟨acF,t4,k4⟩:=h1.ld (j:=4) U;have k4d:=(Ext.K o0).ld k4;have tell:=λbb:aX=>abw hd.e a (b,d,bb)
  have fin:∀bb:aX,∀(e:Ending)(u:au),e=.returned (S (A2 L a (b,d,bb)).1)/\dK F o0.drew g s o t M occ (A2 L a (b,d,bb)).2 u->∃x:Int,e=.returned (S x)/\ah u (N sl.a ((4:Int).toNat*1)) 0 [.string t4]/\Y 119 #[x] u (λe w28=>∃t29:aq,e=bP t29/\ah w28 (N sl.a ((4:Int).toNat*1)) 0 [.string t4]/\D0 k w F g s o t (.returned (.string t29)) w28):=by rintro bb _ u ⟨rfl,hr⟩;have ku:=hd.aV (j:=4) U k4d hr.mod;refine⟨_,rfl,t_ ku,(P0 _ (ajn L a (b,d,bb)) u).mono ?_⟩;rintro _ u' ⟨t1,rfl,-,xu⟩;exact⟨t1,rfl,t_ (xu.ld ku),D0.TL (yj.A (Ext.K o0)) hr (h.i.lv (afi h.i.b a (b,d,bb))) xu⟩
  refine⟨acF,t4,k4,Z.mk (λ_=>⟨acF,t4,k4,Z.mk (λ_=>h.same yj) (λ_=>⟨i0,a,l0 (Ext.K o0),i1,b,l1 (Ext.K o0),i2,d,l2 (Ext.K o0),acF,t4,k4d,(tell _).mono (fin _)⟩)⟩) (λ_=>⟨i0,a,l0 (Ext.K o0),i1,b,l1 (Ext.K o0),i2,d,l2 (Ext.K o0),acF,t4,k4d,(tell _).mono (fin _)⟩)⟩
 ·refine(wa h.r h.sz (many:=3) (all:=4) X X).mono ?_;rintro _ o0 ⟨s1,b2,rfl,yj,hb⟩;refine⟨s1,b2,rfl,Z.mk (λc=>h.same yj) (λc=>?_)⟩;have⟨ack,l,hl,ho,hrg⟩:=hb (ds c);obtain⟨a,b,d,rfl⟩:=V1 hl;have⟨i0,l0⟩:=u0 ho (j:=0) bo rfl;have⟨i1,l1⟩:=u0 ho (j:=1) bo rfl;have⟨i2,l2⟩:=u0 ho (j:=2) bo rfl;have xd:=yj.A (Ext.K o0);have hd:=h.ext xd;have hc:pQ (a,b,d):=⟨J_ (hrg a bo),J_ (hrg b bo),J_ (hrg d bo)⟩;obtain⟨Fs,hS,hpp,-,-⟩:=hd.e.EN;obtain⟨Fw,hW,-,-⟩:=hS.world;have L0:=λ{u:au}(xu:Ext o0 u)=>t_ (l0 xu)
  have L1:=λ{u:au}(xu:Ext o0 u)=>t_ (l1 xu)
  have L2:=λ{u:au}(xu:Ext o0 u)=>t_ (l2 xu)
  have hca:bu ka5 (.func (.func 113) #[.pointer (O t)] #[]) [.agg #[a,b,d]] o0.drew λe w''=>e=.returned (S (jc M.T.2 (a,b,d)))/\Ext o0.drew w'':=hd.e.tl.at (c:=(a,b,d)) hc
  have fin:bu ka5 (.func (.func 113) #[.pointer (O t)] #[]) [.agg #[a,b,d]] o0.drew λe w49=>∃x:Int,e=.returned (S x)/\Y 130 #[x] w49 (λe w51=>∃t52:aq,e=bP t52/\D0 k w F g s o t (.returned (.string t52)) w51):=by refine bJ hca ?_;rintro _ w49 ⟨rfl,x49⟩;refine⟨_,rfl,(P1 _ w49).mono ?_⟩;rintro _ w51 ⟨t52,rfl,-,x51⟩;exact⟨t52,rfl,h.same (xd.A (x49.A x51))⟩
  refine⟨_,hpp,i0,a,l0 (Ext.K o0),i1,b,l1 (Ext.K o0),i2,d,l2 (Ext.K o0),(cZ hS).mono ?_,(cZ hS).mono ?_⟩
  ·rintro _ w45 ⟨rfl,e45⟩;rw[e45];refine⟨_,rfl,L2 (Ext.K o0),L1 (Ext.K o0),L0 (Ext.K o0),(lZ hW).mono ?_,(lZ hW).mono ?_⟩
   ·rintro _ w47 ⟨rfl,e47⟩;rw[e47];exact⟨_,rfl,L2 (Ext.K o0),L1 (Ext.K o0),L0 (Ext.K o0),fin⟩
   ·rintro _ w47 ⟨rfl,e47⟩;rw[e47];exact⟨_,rfl,fin⟩
  ·rintro _ w45 ⟨rfl,e45⟩;rw[e45];refine⟨_,rfl,(lZ hW).V ?_⟩;exact⟨_,rfl,fin⟩
 ·refine(wa h.r h.sz (many:=2) (all:=3) X X).mono ?_;rintro _ o0 ⟨s1,b2,rfl,yj,hb⟩;refine⟨s1,b2,rfl,Z.mk (λc=>h.same yj) (λc=>?_)⟩;have⟨ack,l,hl,ho,hrg⟩:=hb (ds c);obtain⟨a,b,rfl⟩:=ahd hl;have⟨i0,l0⟩:=u0 ho (j:=0) bo rfl;have⟨i1,l1⟩:=u0 ho (j:=1) bo rfl;have xd:=yj.A (Ext.K o0);have hd:=h.ext xd;obtain⟨Fs,hS,hpp,-,-⟩:=hd.e.EN;obtain⟨Fw,hW,-,-⟩:=hS.world;refine⟨_,hpp,i0,a,l0 (Ext.K o0),i1,b,l1 (Ext.K o0),(cZ hS).V ?_⟩;refine⟨_,rfl,t_ (l1 (Ext.K o0)),t_ (l0 (Ext.K o0)),(Zg hW a b (J_ (hrg a bo)) (J_ (hrg b bo))).F λw10 x10=>?_⟩;have hT:=WU M.T.2 a b 32;refine⟨_,rfl,(MJ _ j_ w10).mono ?_⟩;rintro _ w77 ⟨t78,rfl,-,x77⟩;exact⟨t78,rfl,h.same (xd.A (x10.A x77))⟩
end
def u7{w:au}{sh g:Nat}(h:FN w sh g):kh 24 #[sh] w (dr (O g)):=by apply yc.B;exact⟨_,by rw[aF,h.row.ld];rfl,rfl,rfl⟩
def V6{F:Nat->Prop}{w:au}{g s o t:Nat}{M:Sm}{occ:aC}{L:h_}(h:EF F w g s o t M occ L):Y 36 #[.pointer (O g)] w λe w'=>e=true/\w'=w:=by apply acw.B;obtain⟨Fs,hS,hpp,-,-⟩:=h.EN;obtain⟨Fw,hW,-,-⟩:=hS.world;refine⟨_,hpp,(cZ hS).V ?_⟩;refine⟨_,rfl,uN rfl ((BS h).V ?_)⟩;refine⟨_,rfl,uN rfl ⟨_,hpp,(cZ hS).V ?_⟩⟩;refine⟨_,rfl,(lZ hW).V ?_⟩;refine⟨_,rfl,bO.2 ⟨by simp[fnC],yes rfl ⟨_,hpp,(cZ hS).V ?_⟩⟩⟩;refine⟨_,rfl,(gx hW).V ?_⟩;exact⟨_,rfl,rfl,rfl⟩
def V7(a b c:Int)(w:au):Y 35 #[a,b,c] w λe w'=>∃(g s o t:Nat)(F:Nat->Prop),e=.returned (.pointer (O g))/\EF F w' g s o t (FO a b 200000 c) (.func (.func 175) #[] #[]) OT/\Ext w w'/\∀i,F i->w<=i:=by apply acv.B;refine(Ke a b 200000 c w).mono ?_;rintro _ w' ⟨g,s,o,t,F,rfl,hE,x,hF⟩;exact⟨_,rfl,g,s,o,t,F,rfl,hE,x,hF⟩
def aiC(k:Nat)(w:au)(F:Nat->Prop)(e:Ending)(u:au):Prop:=∃(tx:aq)(g s o t:Nat)(M:Sm)(occ:aC)(L:Lv)(F':Nat->Prop),e=bT #[.pointer (O g),.string tx]/\EF F' u g s o t M occ L/\Inv (k+1) M L/\aJ F F' w u
section
variable{k:Nat}{w v v' u:au}{F:Nat->Prop}{g s o t:Nat}{M M':Sm}{occ occ':aC}{L L':Lv}{sl:H}{ws:aa}{tx:aq}
def D0.rp(h:D0 k w F g s o t (.returned (.string tx)) u):aiC k w F (.returned (.tuple #[.pointer (O g),.string tx])) u:=by have⟨tx',he,M',occ',L',⟨F',hE,ht⟩,hI⟩:=h;exact⟨tx,g,s,o,t,M',occ',L',F',rfl,hE,hI,ht⟩
end
section
variable{k:Nat}{w v v' u:au}{F:Nat->Prop}{g s o t:Nat}{M M':Sm}{occ occ':aC}{L L':Lv}{sl:H}{ws:aa}{tx:aq}
def xg.rp(h:xg k w F g s o t M occ L sl ws)(x:Ext w u):aiC k w F (.returned (.tuple #[.pointer (O g),.string tx])) u:=(h.same x).rp
end
section
variable{k:Nat}{w v v' u:au}{F:Nat->Prop}{g s o t:Nat}{M M':Sm}{occ occ':aC}{L L':Lv}{sl:H}{ws:aa}{tx:aq}
def TI{f:bH}{a:ae}(h:Y f a w (D0 k w F g s o t)):Y f a w λe u=>∃t14:aq,e=bP t14/\aiC k w F (.returned (.tuple #[.pointer (O g),.string t14])) u:=by refine h.mono ?_;rintro e u hr;obtain⟨tx,rfl,-⟩:=id hr;exact⟨tx,rfl,hr.rp⟩
end
section
variable{k:Nat}{w v v' u:au}{F:Nat->Prop}{g s o t:Nat}{M M':Sm}{occ occ':aC}{L L':Lv}{sl:H}{ws:aa}{tx:aq}
def acf(h:xg k w F g s o t M occ L sl ws):Y 37 #[.pointer (O g),sl] w (aiC k w F):=by
 apply acx.B;have⟨Vl,t0,k0⟩:=h.ld (j:=0) h.pos;refine⟨Vl,t0,k0,Z.mk (λ_=>?_) (λ_=>?_)⟩
 ·refine(wa h.r h.sz (many:=3) (all:=4) X X).mono ?_;rintro _ o0 ⟨s1,b2,rfl,yj,hb⟩;refine⟨s1,b2,rfl,Z.mk (λc=>h.rp yj) (λc=>?_)⟩;have⟨ack,l,hl,ho,hrg⟩:=hb (ds c);obtain⟨a,b,d,rfl⟩:=V1 hl;have⟨i0,l0⟩:=u0 ho (j:=0) bo rfl;have⟨i1,l1⟩:=u0 ho (j:=1) bo rfl;have⟨i2,l2⟩:=u0 ho (j:=2) bo rfl;refine⟨i0,a,l0 (Ext.K o0),i1,b,l1 (Ext.K o0),i2,d,l2 (Ext.K o0),(V7 a b d o0.drew).mono ?_⟩;rintro _ as4 ⟨g',s',o',t',F',rfl,hE,x7,hF⟩;have y:=(yj.A (Ext.K o0)).A x7;refine⟨_,rfl,_,g',s',o',t',_,_,_,F',rfl,hE,Inv.new _ _ _ _,⟨Mod.P y,λi hi=>.inr ?_⟩⟩;have:=hF i hi;have:=(yj.A (Ext.K o0)).size;omega
 refine⟨λb u=>u=w,⟨Z.mk (λ_=>rfl) (λ_=>Z.mk (λ_=>rfl) (λ_=>Z.mk (λ_=>rfl) (λ_=>Z.mk (λ_=>rfl) (λ_=>rfl)))),?_⟩⟩;rintro us b _ e;rw[e];refine Z.mk (λ_=>TI (acg h)) (λ_=>?_);refine⟨λb u=>u=w,⟨Z.mk (λ_=>rfl) (λ_=>Z.mk (λ_=>rfl) (λ_=>Z.mk (λ_=>rfl) (λ_=>rfl))),?_⟩⟩;rintro us b _ e;rw[e];refine Z.mk (λ_=>TI (afN h)) (λ_=>?_);refine⟨λb u=>u=w,⟨Z.mk (λ_=>rfl) (λ_=>Z.mk (λ_=>rfl) (λ_=>Z.mk (λ_=>rfl) (λ_=>Z.mk (λ_=>rfl) (λ_=>rfl)))),?_⟩⟩;rintro us b _ e;rw[e];refine Z.mk (λ_=>TI (aed h)) (λ_=>?_);refine⟨λb u=>u=w,⟨Z.mk (λ_=>rfl) (λ_=>rfl),?_⟩⟩;rintro us b _ e;rw[e];refine Z.mk (λ_=>TI (abF h)) (λ_=>?_);refine⟨λb u=>u=w,⟨Z.mk (λ_=>rfl) (λ_=>rfl),?_⟩⟩;rintro us b _ e;rw[e];refine Z.mk (λ_=>TI (acj h)) (λ_=>?_);refine⟨λb u=>u=w,⟨Z.mk (λ_=>rfl) (λ_=>Z.mk (λ_=>rfl) (λ_=>Z.mk (λ_=>rfl) (λ_=>rfl))),?_⟩⟩;rintro us b _ e;rw[e];exact Z.mk (λ_=>TI (aby h)) (λ_=>h.rp (Ext.M _))
end
structure TW(k j:Nat)(w:au)(A:bf)(sh p:Nat)(M:Sm)(L:Lv)(u:au):Prop where
 x:Ext w u
 s:∃g s o t occ F,EF F u g s o t M occ L/\FN u sh g/\¬F sh/\w<=sh/\(∀i,F i->w<=i)/\Inv k M L/\
  ∃s' o' t' M' occ' L' g_,EF g_ u p s' o' t' M' occ' L'/\Inv j M' L'/\(∀i,g_ i->w<=i/\¬F i/\i≠sh)/\∀i∈A,i<u/\i≠sh/\¬F i
section
variable{k j:Nat}{w u u':au}{A:bf}{sh p:Nat}{M:Sm}{L:Lv}{ln:aq}
def TW.ext(h:TW k j w A sh p M L u)(x:Ext u u'):TW k j w A sh p M L u':=by have⟨h0,g,s,o,t,occ,F,h1,h2,h3,h4,h5,h6,s',o',t',M',occ',L',g_,g1,g2,g3,gA⟩:=h;exact⟨h0.A x,g,s,o,t,occ,F,h1.ext x,N8 h2 (x.heap h2.row.lt),h3,h4,h5,h6,s',o',t',M',occ',L',g_,g1.ext x,g2,g3,λi hi=>⟨gK (gA i hi).1 x.size,(gA i hi).2⟩⟩
end
section
variable{k j:Nat}{w u u':au}{A:bf}{sh p:Nat}{M:Sm}{L:Lv}{ln:aq}
def TW.line(h:TW k j w A sh p M L u)(hk:k<=1000)(hT:lP w)(hl:ln.size<=4294967296): Y 14 #[.pointer (O sh),.string ln] u λe u'=>e=(bP (uH M L (cT ln)).1)/\TW (k+1) j w A sh p (uH M L (cT ln)).2.1 (uH M L (cT ln)).2.2 u'/\KpA A u u':=by
 have⟨h0,g,s,o,t,occ,F,h1,h2,h3,h4,h5,h6,s',o',t',M',occ',L',g_,g1,g2,g3,gA⟩:=h;refine(YY k M L hl w u F sh g s o t occ hk hT h0 h5 h4 h1 h2 h3 h6).mono ?_;rintro _ u' ⟨rfl,hz,g',s1,o1,t1,occ1,F',hE,hS,hn,hm,acH,hI'⟩;have hzz:=h0.size;refine⟨rfl,⟨hm.ext h0 (λi hi=>hi.elim (λq=>h5 i q) (λq=>by omega)),g',s1,o1,t1,occ1,F',hE,hS,hn,h4,λi hi=>(acH i hi).elim (h5 i) λq=>by omega,hI',s',o',t',M',occ',L',g_,g1.same λi hi=>hm.same i (g1.lt hi) λq=>q.elim (g3 i hi).2.1 (g3 i hi).2.2,g2,λi hi=>⟨(g3 i hi).1,λq=>(acH i q).elim (g3 i hi).2.1 λq=>a1N (g1.lt hi),(g3 i hi).2.2⟩,λi hi=>⟨gK (gA i hi).1 hm.size,(gA i hi).2.1,λq=>(acH i q).elim (gA i hi).2.2 λq=>a1N ((gA i hi).1)⟩⟩,λi hi=>hm.same i (gA i hi).1 λq=>q.elim (gA i hi).2.2 (gA i hi).2.1⟩
end
section
variable{k j:Nat}{w u u':au}{A:bf}{sh p:Nat}{M:Sm}{L:Lv}{ln:aq}
def TW.up(h:TW k j w A sh p M L u):TW k (j+1) w A sh p M L u:=by have⟨h0,g,s,o,t,occ,F,h1,h2,h3,h4,h5,h6,s',o',t',M',occ',L',g_,g1,g2,g3,gA⟩:=h;exact⟨h0,g,s,o,t,occ,F,h1,h2,h3,h4,h5,h6,s',o',t',M',occ',L',g_,g1,g2.up,g3,gA⟩
end
section
variable{k j:Nat}{w u u':au}{A:bf}{sh p:Nat}{M:Sm}{L:Lv}{ln:aq}
def TW.add(h:TW k j w A sh p M L u)(x:Ext u u'){b:Nat}(hb:u<=b)(hb':b<u'):TW k j w (b::A) sh p M L u':=by
 have⟨h0,g,s,o,t,occ,F,h1,h2,h3,h4,h5,h6,s',o',t',M',occ',L',g_,g1,g2,g3,gA⟩:=h;refine⟨h0.A x,g,s,o,t,occ,F,h1.ext x,N8 h2 (x.heap h2.row.lt),h3,h4,h5,h6,s',o',t',M',occ',L',g_,g1.ext x,g2,g3,λi hi=>?_⟩;rcases List.mem_cons.1 hi with rfl|hi
 ·exact⟨hb',a1N h2.row.lt,λq=>a1N (h1.lt q)⟩
 ·exact⟨gK (gA i hi).1 x.size,(gA i hi).2⟩
end
section
variable{k j:Nat}{w u u':au}{A:bf}{sh p:Nat}{M:Sm}{L:Lv}{ln:aq}
def TW.alv(h:TW k j w [] sh p M L u)(hj:j<=1000){sl:H}{ws:aa}(x:Ext u u')(ho:ar u 9 1 u' sl (ws.map sv))(hs:∀t∈ws,t.size<=4294967296)(hn:ws≠[]): Y 37 #[.pointer (O p),sl] u' λe v=>∃(q:Nat)(tx:aq),e=bT #[.pointer (O q),.string tx]/\TW k (j+1) w [] sh q M L v:=by
 have⟨h0,g,s,o,t,occ,F,h1,h2,h3,h4,h5,h6,s',o',t',M',occ',L',g_,g1,g2,g3,gA⟩:=h;have hc:xg j u' g_ p s' o' t' M' occ' L' sl ws:=⟨g1.ext x,g2,hj,ar.rd ho X,λb hb=>⟨(ho.own.lt hb).2,λq=>by have:=g1.lt q;have:=(ho.own.lt hb).1;omega⟩,hs,hn⟩;refine(acf hc).mono ?_;rintro _ v ⟨tx,q,s2,o2,t2,M2,occ2,L2,G2,rfl,e1,e2,e3⟩;have hx:=x.size;have h0x:=h0.size;have old:∀i,i<u.heap.size->¬g_ i->v.heap[i]? =u.heap[i]? :=λi hi hg=>(e3.mod.same i U hg).trans (x.heap hi)
 refine⟨q,tx,rfl,e3.mod.ext (h0.A x) (λi hi=>(g3 i hi).1),g,s,o,t,occ,F,h1.same λi hi=>old i (h1.lt hi) λq=>(g3 i q).2.1 hi,N8 h2 (old sh h2.row.lt λq=>(g3 sh q).2.2 rfl),h3,h4,h5,h6,s2,o2,t2,M2,occ2,L2,G2,e1,e2,λi hi=>?_,λi hi=>(by cases hi)⟩;rcases e3.sub i hi with q|q
 ·exact g3 i q
 ·exact⟨U,λr=>a1N (h1.lt r),λr=>a1N h2.row.lt⟩
end
def ahj{M:Sm}{L:Lv}{r:aa}:uH M L (ka4 #[111,100,100]::r)=(kZ,M,L):=by
 unfold uH;simp only;rw[dif_neg]
 ·rfl
 ·rintro⟨i,hi⟩;have h:∀x∈uF,x≠ka4 #[111,100,100]:=by decide
  exact h _ (aQ hi) rfl
def agR(t:aq):∃r,cT (ka4 #[111,100,100,32]++t)=ka4 #[111,100,100]::r:=by refine⟨cT t,ahi ?_⟩;rw[acZ,eH,acE];exact afI (w:=[111,100,100]) (bl t) X X
def ahk{M:Sm}{L:Lv}:uH M L (cT ⟨#[116,105,99,107,32,49,48,49]⟩)=(kZ,M,L):=by rw[show cT ⟨#[116,105,99,107,32,49,48,49]⟩=[ka4 #[116,105,99,107],ka4 #[49,48,49]]by kernel_rfl,YZ (i:=22) rfl];show(akI M L [ka4 #[49,48,49]]).getD _=_;unfold akI;rw[show gz [ka4 #[49,48,49]]=some (101,[])by kernel_rfl];rfl
def ahl{M:Sm}{L:Lv}:uH M L (cT ⟨#[101,100,105,116,32,48,32,48,32,48,32,119,97,116,101,114,56]⟩)=(kZ,M,L):=by rw[show cT ⟨#[101,100,105,116,32,48,32,48,32,48,32,119,97,116,101,114,56]⟩=[ka4 #[101,100,105,116],ka4 #[48],ka4 #[48],ka4 #[48],ka4 #[119,97,116,101,114,56]]by kernel_rfl,YZ (i:=14) rfl];show(akD M L [ka4 #[48],ka4 #[48],ka4 #[48],ka4 #[119,97,116,101,114,56]]).getD _=_;unfold akD;rw[show kI [ka4 #[48],ka4 #[48],ka4 #[48],ka4 #[119,97,116,101,114,56]]=some ((0,0,0),[ka4 #[119,97,116,101,114,56]])by kernel_rfl];show((ZF [ka4 #[119,97,116,101,114,56]]).bind λb=>_).getD _=_;rw[show ZF [ka4 #[119,97,116,101,114,56]]=none by kernel_rfl];rfl
def ahm{M:Sm}{L:Lv}:uH M L (cT ⟨#[108,111,97,100,32,48]⟩)=(kZ,M,L):=by rw[show cT ⟨#[108,111,97,100,32,48]⟩=[ka4 #[108,111,97,100],ka4 #[48]]by kernel_rfl,YZ (i:=1) rfl];show(YT 0 M L [ka4 #[48]]).getD _=_;unfold YT;rw[show xC [ka4 #[48]]=none by kernel_rfl];rfl
section
variable{k j:Nat}{w u u':au}{A:bf}{sh p:Nat}{M:Sm}{L:Lv}{ln:aq}
def TW.whole(h:TW k j w A sh p M L u):Y 36 #[.pointer (O p)] u λe u'=>e=true/\u'=u:=by have⟨h0,g,s,o,t,occ,F,h1,h2,h3,h4,h5,h6,s',o',t',M',occ',L',g_,g1,g2,g3⟩:=h;exact V6 g1
end
section
variable{k j:Nat}{w u u':au}{A:bf}{sh p:Nat}{M:Sm}{L:Lv}{ln:aq}
def TW.eng(h:TW k j w A sh p M L u):∃g,Y 24 #[.pointer (O sh)] u (λe u'=>e=.returned (.pointer (O g))/\u'=u)/\Y 36 #[.pointer (O g)] u (λe u'=>e=true/\u'=u)/\Y 25 #[.pointer (O g)] u λe w'=>∃sl:H,e=sl/\nY u w' sl (dy M L)/\Ext u w':=by
 have⟨h0,g,s,o,t,occ,F,h1,h2,h3,h4,h5,h6,s',o',t',M',occ',L',g_,g1,g2,g3⟩:=h;exact⟨g,u7 h2,V6 h1,Px h1⟩
end
section
variable{k j:Nat}{w u u':au}{A:bf}{sh p:Nat}{M:Sm}{L:Lv}{ln:aq}
def TW.Io(h:TW k j w A sh p M L u)(hk:k<=1000)(hT:lP w)(hl:ln.size<=4294967296)(ho:uH M L (cT ln)=(kZ,M,L)): Y 14 #[.pointer (O sh),.string ln] u λe u'=>e=bP kZ/\TW (k+1) j w A sh p M L u'/\KpA A u u':=by
 have:=h.line hk hT hl;rw[ho]at this;exact this
end
section
variable{k j:Nat}{w u u':au}{A:bf}{sh p:Nat}{M:Sm}{L:Lv}{ln:aq}
def TW.row(h:TW k j w [] sh p M L u)(x:Ext u u'){s:H}{rows:List af}(ho:ar u 5 1 u' s rows):TW k j w s.D.toList sh p M L u':=by
 cases hb:s.D with
 |none=>exact h.ext x
 |some b=>
  have:=ho.own.lt hb;exact h.add x this.1 this.2
end
def ab1{w:au}{m:Int}(hm:w.cell? ⟨0,0,none⟩=some (S m))(hT:lP w){ajx:H}{txs:aa}(hr:RdK w ajx 1 (txs.map sv))(a1:aq):Y 8 #[ajx,.string a1] w λe w'=>e=true/\Ext w w':=by
 apply aa3.B;have hn0:ajx.n=txs.length:=by rw[hr.n,aK]
 refine(amz w 0).mono ?_;rintro _ wb ⟨sh,rfl,⟨occ,hx0,-,g,s,o,t,F,h2,h3,h4,h5,h6⟩,hI⟩;refine⟨_,rfl,(V7 1 9 16 wb).mono ?_⟩;rintro _ N6 ⟨p,s',o',t',g_,rfl,g1,x2,g3⟩;have h02:=hx0.size;have b_:TW 0 0 w [] sh p (FO 1 9 200000 16) OT N6:=⟨hx0.A x2,g,s,o,t,occ,F,h2.ext x2,N8 h3 (x2.heap h3.row.lt),h4,h5,λi hi=>(h6 i hi).1,hI,s',o',t',_,_,_,g_,g1,Inv.new _ _ _ _,λi hi=>⟨by have:=g3 i hi;omega,λq=>by have:=h2.lt q;have:=g3 i hi;omega,λq=>by have:=h3.row.lt;have:=g3 i hi;omega⟩,λi hi=>(by cases hi)⟩;refine⟨_,rfl,Z.mk (λc=>by cases c) (λ_=>b_.whole.V ?_)⟩;refine⟨_,rfl,Z.mk (λc=>by cases c) (λ_=>?_)⟩;refine⟨λu=>∃(k p:Nat)(M:Sm)(L:Lv),k<=10/\TW k k w [] sh p M L u,⟨λn x q u=>∃(k p:Nat)(M:Sm)(L:Lv),x=(k:Int)/\k+n=10/\q=O p/\TW k k w [] sh p M L u,⟨10,0,p,_,_,rfl,rfl,rfl,b_⟩,?_⟩,?_⟩
 ·rintro n us x q u ⟨k,p,M,L,rfl,hkn,rfl,b_⟩;have hru:=hr.ext b_.x;have wk:IntKind.wrap .i64 ((k:Int)+1)=((k+1:Nat):Int):=by rw[wI j_];omega
  refine Z.mk (λc=>Z.mk (λc2=>?_) (λc2=>⟨k,p,M,L,U,b_⟩)) (λc=>⟨k,p,M,L,U,b_⟩);have c:=of_decide_eq_true c;have c2:=of_decide_eq_true c2;have hkl:k<txs.length:=by omega
  obtain⟨tx,htx⟩:∃tx,txs[k]? =some tx:=⟨_,cK hkl⟩;have alE:∀{v:au},Ext w v->Vc.ld v (N ajx.a (((k:Nat):Int).toNat*1))=some (.string tx):=λxv=>by have:=(hr.ext xv).rd k (sv tx) (by rw[aW,htx];rfl) 0 _ rfl;simpa using this
  have hib:=hru.jX (i:=(k:Int)) X U (by rw[hn0];omega);have hfs:=ae9 tx 60;refine⟨hib,tx,alE b_.x,(afa tx 60 u).V ?_⟩;refine⟨_,rfl,(acq (Sh tx 60) u U).mono ?_⟩;rintro _ w16 ⟨s17,rfl,ho,x16⟩;have hsn:s17.n=(cT (Sh tx 60)).length:=by rw[(ar.rd ho X).n,aK]
  refine⟨s17,rfl,λq v=>∃p',q=O p'/\TW k (k+1) w [] sh p' M L v,Z.mk (λc3=>?_) (λc3=>⟨p,rfl,(b_.ext x16).up⟩),?_⟩
  ·have hne:cT (Sh tx 60)≠[]:=λq=>by rw[q]at hsn;simp[hsn]at c3
   refine(b_.alv U x16 ho (λt ht=>by have:=agU ht;omega) hne).mono ?_;rintro _ w18 ⟨q,t20,rfl,N18⟩;exact⟨_,t20,rfl,q,rfl,N18⟩
  ·rintro us q v ⟨p',rfl,alF⟩;refine⟨hib,tx,alE alF.x,(afa tx 60 v).V ?_⟩;refine⟨_,rfl,(alF.line (ln:=Sh tx 60) U hT U).mono ?_⟩;rintro _ w24 ⟨rfl,N24,-⟩;refine⟨_,rfl,N24.whole.V ?_⟩;obtain⟨g9,q1,q2,-⟩:=N24.eng;refine⟨_,rfl,Z.mk (λc=>by cases c) (λ_=>q1.V ?_)⟩;refine⟨_,rfl,q2.V ?_⟩;exact⟨_,rfl,Z.mk (λc=>by cases c) (λ_=>⟨n-1,U,k+1,p',_,_,wk,U,rfl,N24⟩)⟩
 ·rintro us u ⟨k,p,M,L,hkn,b_⟩;have hfs:=ae9 a1 60;have hb:gu kZ (ByteArray.mk #[98,97,100])=true:=(kD _ _).2 rfl;have e1:(ByteArray.mk #[111,100,100,32]).size=4:=rfl;refine(afa a1 60 u).V ?_;obtain⟨g9,q1,-,q3⟩:=b_.eng;refine⟨_,rfl,by rw[Ol,e1];omega,q1.V ?_⟩;refine⟨_,rfl,q3.mono ?_⟩;rintro _ w47 ⟨s48,rfl,alG,x47⟩;have N47:=b_.row x47 alG;obtain⟨r,hw⟩:=agR (Sh a1 60);have sz:(ByteArray.mk #[111,100,100,32]++Sh a1 60).size<=4294967296:=by rw[ByteArray.size_append,e1];omega
  have r47:=ar.rd alG X;refine⟨s48,rfl,(N47.Io U hT sz (by rw[hw];exact ahj)).mono ?_⟩;rintro _ w49 ⟨rfl,N49,k49⟩;have r49:=S0 r47 k49;refine⟨_,rfl,Z.mk (λc=>by rw[hb]at c;cases c) (λ_=>(N49.Io U hT X ahk).mono ?_)⟩;rintro _ w51 ⟨rfl,N51,k51⟩;have r51:=S0 r49 k51;refine⟨_,rfl,Z.mk (λc=>by rw[hb]at c;cases c) (λ_=>(N51.Io U hT X ahl).mono ?_)⟩;rintro _ w53 ⟨rfl,N53,k53⟩;have r53:=S0 r51 k53;refine⟨_,rfl,Z.mk (λc=>by rw[hb]at c;cases c) (λ_=>(N53.Io U hT X ahm).mono ?_)⟩;rintro _ w55 ⟨rfl,N55,k55⟩;have r55:=S0 r53 k55;obtain⟨g8,p1,-,p3⟩:=N55.eng;refine⟨_,rfl,Z.mk (λc=>by rw[hb]at c;cases c) (λ_=>p1.V ?_)⟩;refine⟨_,rfl,p3.mono ?_⟩;rintro _ w59 ⟨s60,rfl,aoL,x59⟩;refine⟨s60,rfl,(aab s60 s48 _ _ w59 (ar.rd aoL X) (r55.ext x59) (W3 M L) (W3 M L)).V ?_⟩;have x9:=N55.x.A x59;have hm':w59.cell? ⟨0,0,none⟩=some (S m):=x9.ld (show Vc.ld w (some ⟨0,0,none⟩)=_ from hm);refine⟨_,rfl,yes (decide_eq_true rfl) ((agH hm' (vE hT x9)).F λw63 x63=>?_)⟩;exact⟨_,rfl,rfl,x9.A x63⟩
end Go.Proofs.YtjcnjlaelhdjeaaGreatDoor
