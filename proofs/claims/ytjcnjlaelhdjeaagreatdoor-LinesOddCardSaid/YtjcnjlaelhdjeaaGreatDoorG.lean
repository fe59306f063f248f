import Derived.Test.YtjcnjlaelhdjeaaGreatDoorF
import Derived.Test.YtjcnjlaelhdjeaaGreatDoorE
import Derived.Test.YtjcnjlaelhdjeaaGreatDoorD
set_option linter.all false
namespace Go.Proofs.YtjcnjlaelhdjeaaGreatDoor
open Go Go.Vc Go.RowKit Go.Proofs Go.bW Go.aN Go.Code
set_option maxRecDepth 100000
set_option maxHeartbeats 8000000
section
variable{w:au}{d:Nat}{m:Dm}{D:Dk}(h:DO w d m D)
def V2(hW:D.l.length<=1000000000): Y 294 #[d] w λe w'=>e=S (nX D).2/\amC w d m (nX D).1 w':=by
 apply Hn.B;refine(De h).mono ?_;rintro e w0 ⟨rfl,h0,m0⟩;have z0:=m0.size;have m0':Mod (λi=>i=d\/m.ls.D=some i) w w0:=m0.mono λi _ hi=>.inl hi
 have hok:=h.ok.sync;have⟨e1,e2,e3⟩:=jq D;refine⟨_,rfl,Z.mk (λhf=>?_) (λhf=>?_)⟩
 ·have e:nX D=((jN D).1,9):=by unfold nX;rw[if_pos hf]
  rw[e];exact⟨rfl,m,h0,m0',λi hi=>.inl hi,λi hi=>.inl hi⟩
 ·have e:nX D=({(jN D).1 with safe:=tU D,l:=[]},0):=by unfold nX;rw[if_neg (by rw[hf];decide)]
  rw[e]at hok⊢;refine(BU h0 (e2▸hW)).mono ?_;rintro e w2 ⟨r',E',rfl,yA,hp,dP,x2,hr'⟩;rw[Xy]at hp;have h2:=h0.ext x2;have z2:=x2.size;have hdl:=h.rd.lt;have⟨p1,p2⟩:=h2.rd.ft (j:=3) (v:=.map (some r')) bo rfl;refine⟨_,rfl,⟨rfl,p1⟩,λw4 e4=>?_⟩;have⟨q1,q2⟩:=p2 w4 e4;have⟨p3,p4⟩:=q1.ft (j:=4) (v:=.slice none 0 0) (show 4<5 by decide) rfl;refine⟨⟨rfl,p3⟩,λw5 e5=>⟨rfl,⟨r',⟨none,0,0⟩,E',[]⟩,?_,?_,?_,λi q=>by cases q⟩⟩
  ·have⟨q3,q4⟩:=p4 w5 e5;have mm:=q2.trans q4;refine⟨q3,mm.map yA λq=>h2.rd.fH yA q.symm,ar.nil,hp,rfl,λx hx=>?_,hok⟩;have hx':x∈E':=by simpa using hx
   have EI:=h2.bl x (dP x hx');refine⟨mm.gR EI.o λg hg=>?_,EI.b⟩;have⟨cs',jT⟩:=aT EI.o X hg;exact jT.ne h2.rd X
  ·have⟨q3,q4⟩:=p4 w5 e5;exact(m0'.trans (Mod.P x2)).trans ((q2.trans q4).mono λi _ hi=>.inl hi)
  ·rintro i (q|q|q|⟨x,hx,q⟩)
   ·exact .inl (.inl q)
   ·exact .inr (by rw[q];show _<=r';omega)
   ·cases q
   ·have hx':x∈E':=by simpa using hx
    exact .inl (.inr (.inr (.inr ⟨x,dP x hx',q⟩)))
variable{n:Int}
def Vd(hn:cH n): Y 122 #[d,n] w λe w'=>e=pz/\DO w' d m (om D n)/\Mod (λi=>i=d) w w':=by
 apply Hq.B;have hok:=h.ok.fail hn;have⟨p1,p2⟩:=h.rd.ft (j:=1) (v:=S n) bo rfl;refine⟨⟨rfl,p1⟩,λw0 e0=>?_⟩;have⟨q1,q2⟩:=p2 w0 e0;have⟨p3,p4⟩:=q1.ft (j:=2) (v:=S 0) (show 2<5 by decide) rfl;refine⟨⟨rfl,p3⟩,λw1 e1=>?_⟩;have⟨q3,q4⟩:=p4 w1 e1;have m1:=q2.trans q4;unfold cH at hn;apply Z.mk<;>intro hc
 ·replace hc:=lM hc;have e:om D n={D with k9:=min (-n) 1048576,wait:=1}:=by unfold om;rw[if_pos hc]
  have e2:I (0-(if(-1048576)>n then(-1048576)else n))=min (-n) 1048576:=by rw[aL (by unfold cH;split<;>omega)];split<;>omega
  rw[e2];rw[e]at hok⊢;have⟨p5,p6⟩:=q3.ft (j:=1) (v:=S (min (-n) 1048576)) (show 1<5 by decide) rfl;refine⟨⟨rfl,p5⟩,λw2 e2=>?_⟩;have⟨q5,q6⟩:=p6 w2 e2;have⟨p7,p8⟩:=q5.ft (j:=2) (v:=S 1) (show 2<5 by decide) rfl;refine⟨⟨rfl,p7⟩,λw3 e3=>?_⟩;have⟨q7,q8⟩:=p8 w3 e3;have m3:=m1.trans (q6.trans q8);exact⟨rfl,h.row m3 q7 hok,m3⟩
 ·replace hc:=lW hc;have e:om D n={D with k9:=n,wait:=0}:=by unfold om;rw[if_neg hc]
  rw[e]at hok⊢;exact⟨rfl,h.row m1 q3 hok,m1⟩
def Oh(l:List ki)(k:Nat):ee (l.take k)<=ee l:=by have:=Su (l.take k) (l.drop k);rw[td]at this;omega
variable{l:List ki}{k:Nat}{x:ki}
def abi(h:l[k]? =some x):ee (l.take (k+1))=ee (l.take k)+x.2.length:=by rw[dq,h,Su];rfl
def HP(hW:D.l.length<=1000000000)(hL:ee D.l<=1099511627776): ed 303 #[d] w (S (ee D.l:Nat)):=by
 apply Hp.B;have⟨n1,n2⟩:=h.nW;refine⟨m.ls,h.rd.at 4 rfl,λn i c wr=>∃k:Nat,i=k/\k+n=m.W.length/\c=(ee (D.l.take k):Nat)/\Ext w wr,⟨m.W.length,0,rfl,U,rfl,Ext.M _⟩,?_⟩;rintro n us i c wr ⟨k,rfl,hk,rfl,xr⟩;apply Z.mk<;>intro hc
 ·replace hc:=lM hc;have⟨x,hx⟩:=bX (l:=m.W) (i:=k) U;have hr:=(h.ext xr).ol.rd (show 0<2 by decide);have yA:(m.W.map wV)[k]? =some (wV x):=by rw[aW,hx];rfl
  have wk:=nE (j:=k);have hl:D.l[k]? =some (kb x):=by rw[<-h.sl,aW,hx];rfl
  have hxn:=jd.n (nY.FC (h.bl x (dp.2 (.inr (aQ hx)))).o);have gm:=abi hl;have hle:=Oh D.l (k+1);have e2:(kb x).2.length=x.2.2.length:=rfl;refine⟨RdK.jX hr X U hc,x.1,x.2.1,RdK.y hr yA,λbN ui bw Dz=>?_⟩;have cJ:Ext wr bw:=(aU ui).L Dz (ak _);refine⟨n-1,U,k+1,wk,U,?_,xr.A cJ⟩;rw[wI];omega
 ·replace hc:=lW hc;rw[dN U];exact⟨rfl,xr⟩
variable{s:H}
def ar.awD{B E:Nat}{rows:List (LV)}(h:ar B E k w s rows)(hk:0<k){m:Nat}(hm:m<=rows.length)(c':Nat):ar B E k w ⟨aE s.a 0 c' k,m,s.c⟩ (rows.take m):=by
 rw[dt];rcases h.form hk with⟨rfl,rfl⟩|⟨g,cs,ha,hg,hr,hc,hn,ht,hl⟩
 ·have:m=0:=by simpa using hm
  subst this;exact .nil
 ·rw[ha];have h1:m*k<=s.n*k:=tf _ U;refine ar.jO hg hr hc U ?_ (λr hr=>h.wd r (nZ hr));have e1:cs.take (m*k)=(cs.take (s.n*k)).take (m*k):=by rw[List.take_take,Nat.min_eq_left h1]
  rw[e1,ht,sj m h.wd]
variable{s:List ki}
def V3(h:l[k]? =some x):mC n s (l.drop k)=if(x.2.length:Int)<=n then mC (n-x.2.length) (lay s x) (l.drop (k+1))else lay s (x.1,x.2.take n.toNat):=by have hk:=(cG.1 h);rw[zV hk.1,hk.2];rfl
def QV(hW:D.l.length<=1000000000)(hL:ee D.l<=1099511627776)(aV:Int): Y 247 #[d,aV] w λe w'=>e=S (cw D aV).2/\∃m',DO w' d m' (cw D aV).1/\Mod (λi=>i=d\/i=m.r) w w'/\(∀i,dF d m' i->dF d m i\/w.heap.size<=i):=by
 apply Eh.B;have hok:=h.ok.Dr aV;refine(HP h hW hL).F λw0 x0=>?_
 refine⟨_,rfl,(HP (h.ext x0) hW hL).F λw2 x2=>?_⟩;have yz:=x0.A x2;have h2:=h.ext yz;have⟨n1,n2⟩:=h.nW;have TU:(if((ee D.l:Nat):Int)<(if 0>aV then 0 else aV)then((ee D.l:Nat):Int)else(if 0>aV then 0 else aV))=nq D aV:=by unfold nq;split<;>split<;>omega
 have hk0:0<=nq D aV/\nq D aV<=ee D.l:=by unfold nq;omega
 have hlost:I (((ee D.l:Nat):Int)-nq D aV)=(cw D aV).2:=by unfold cw;rw[wI]
 have hdl:=h.rd.lt;have hrl:=h.rm.lt;have gF:m.r≠d:=λq=>h.rd.fH h.rm q.symm
 refine⟨_,rfl,m.ls,h2.rd.at 4 rfl,?_⟩;rw[TU,hlost];refine⟨λn i c wr=>∃(k:Nat)(E':List Bl)(s:List ki),i=k/\k+n=m.W.length/\0<=c/\c<=ee D.l/\bG GI wr (some m.r) (E'.map mw)/\(E'.map kb).Perm s/\(gS s).Nodup/\mC c s (D.l.drop k)=mC (nq D aV) D.safe D.l/\
  (∀x∈E',D7 wr x/\∀b,x.2.1.D=some b->∃y∈m.E++m.W,y.2.1.D=some b)/\Mod (λi=>i=m.r) w2 wr,
  ⟨m.W.length,0,m.E,D.safe,rfl,U,hk0.1,hk0.2,h2.rm,h.sf,h.ok.nd,by rw[List.drop_zero],λx hx=>⟨h2.bl x (dp.2 (.inl hx)),λb hb=>⟨x,dp.2 (.inl hx),hb⟩⟩,Mod.refl _ _⟩,?_⟩
 rintro n6 us i c br ⟨k,E',s,rfl,hk,Er,hcl,hm,hp,hnd,TC,kQ,mr⟩;have z2:=yz.size;have z10:=mr.size;have off:∀{u v:au}{g:Nat}{cs:LV}{τ:aB},bG GI u (some m.r) (E'.map mw)->Row u g cs τ->¬g=m.r:=λhm' hr' q=>hr'.fH hm' q
 have aBn:=mr.row h2.rd (λq=>gF q.symm);have aBo:∀b,m.ls.D=some b->¬b=m.r:=λb hb q=>by have⟨cs',jT⟩:=aT h.ol X hb;exact jT.fH h.rm q
 have aBp:ar 0 tW 2 br m.ls (m.W.map wV):=mr.gR h2.ol aBo;have fin:∀{u:au}{E1:List Bl}{s1:List ki},Mod (λi=>i=m.r) w2 u->bG GI u (some m.r) (E1.map mw)->(E1.map kb).Perm s1->s1=mC (nq D aV) D.safe D.l->(∀x∈E1,D7 u x/\∀b,x.2.1.D=some b->∃y∈m.E++m.W,y.2.1.D=some b)->
   Wr u (N (O d) 4) 1/\∀u1,u1=bB u (N (O d) 4) [.slice none 0 0]->Wr u1 (N (O d) 1) 1/\∀u2,u2=bB u1 (N (O d) 1) [J]->Wr u2 (N (O d) 2) 1/\∀u3,u3=bB u2 (N (O d) 2) [J]->
    Ending.returned (S (cw D aV).2)=S (cw D aV).2/\∃m',DO u3 d m' (cw D aV).1/\Mod (λi=>i=d\/i=m.r) w u3/\(∀i,dF d m' i->dF d m i\/w.heap.size<=i):=by
  intro u E1 s1 mu hmu hpu hsu hbu;have rdu:=mu.row h2.rd (λq=>gF q.symm);have⟨p1,p2⟩:=rdu.ft (j:=4) (v:=.slice none 0 0) bo rfl;refine⟨p1,λu1 eu1=>?_⟩;have⟨q1,q2⟩:=p2 u1 eu1;have⟨p3,p4⟩:=q1.ft (j:=1) (v:=S 0) (show 1<5 by decide) rfl;refine⟨p3,λu2 eu2=>?_⟩;have⟨q3,q4⟩:=p4 u2 eu2;have⟨p5,p6⟩:=q3.ft (j:=2) (v:=S 0) (show 2<5 by decide) rfl;refine⟨p5,λu3 eu3=>⟨rfl,⟨m.r,⟨none,0,0⟩,E1,[]⟩,?_,?_,?_⟩⟩
  ·have⟨q5,q6⟩:=p6 u3 eu3;have mm:=(q2.trans q4).trans q6;refine⟨q5,mm.map hmu gF,ar.nil,(by rw[hsu]at hpu;exact hpu),rfl,λx hx=>?_,hok⟩;have hx':x∈E1:=by simpa using hx
   have EI:=(hbu x hx').1;refine⟨mm.gR EI.o λg hg=>?_,EI.b⟩;have⟨cs',jT⟩:=aT EI.o X hg;exact jT.ne rdu X
  ·have⟨q5,q6⟩:=p6 u3 eu3;exact((Mod.P yz).trans (mu.mono λi _ hi=>.inr hi)).trans (((q2.trans q4).trans q6).mono λi _ hi=>.inl hi)
  ·rintro i (q|q|q|⟨x,hx,q⟩)
   ·exact .inl (.inl q)
   ·exact .inl (.inr (.inl q))
   ·cases q
   ·have hx':x∈E1:=by simpa using hx
    have⟨y,hy,qy⟩:=(hbu x hx').2 i q;exact .inl (.inr (.inr (.inr ⟨y,hy,qy⟩)))
 apply Z.mk<;>intro hc
 ·replace hc:=lM hc;have⟨x,hx⟩:=bX (l:=m.W) (i:=k) U;have hr:=aBp.rd (show 0<2 by decide);have yA:(m.W.map wV)[k]? =some (wV x):=by rw[aW,hx];rfl
  have wk:=nE (j:=k);have hl:D.l[k]? =some (kb x):=by rw[<-h.sl,aW,hx];rfl
  have hxm:x∈m.E++m.W:=dp.2 (.inr (aQ hx));have EI:=h2.bl x hxm;have hbx10:nY 0 br x.2.1 x.2.2:=mr.gR EI.o λb hb q=>by have⟨cs',jT⟩:=aT EI.o X hb;exact jT.fH h2.rm q
  have hxn:=jd.n (nY.FC EI.o);have hxc:=ar.le EI.o;have tc:=V3 (n:=c) (s:=s) hl;have e2:(kb x).2=x.2.2:=rfl;have e3:(kb x).1=x.1:=rfl;rw[e2,e3]at tc;refine⟨RdK.jX hr X U hc,x.1,x.2.1,RdK.y hr yA,λcp yF c9 pC=>?_⟩;have dn:Ext br c9.drew:=((aU yF).L pC (ak _)).drew;have auq:=hm.same (dn.heap hm.lt);have hbl15:∀y∈E',D7 c9.drew y/\∀b,y.2.1.D=some b->∃z∈m.E++m.W,z.2.1.D=some b:=λy hy=>⟨⟨(kQ y hy).1.o.ext dn,(kQ y hy).1.b⟩,(kQ y hy).2⟩
  have aBq:=mr.trans (Mod.P dn:Mod (λi=>i=m.r) br c9.drew);obtain⟨q,hq,hqn⟩:∃q:Nat,(if c<((x.2.1.n:Nat):Int)then c else((x.2.1.n:Nat):Int))=q/\q=min c.toNat x.2.2.length:=by refine⟨min c.toNat x.2.2.length,?_,rfl⟩;split<;>omega
  rw[hq];refine⟨_,(aBn.ext dn).at 3 rfl,U,U,GI,E'.map mw,GK,rfl,auq,⟨_,rfl⟩,λfm fL ahb=>?_⟩;have ecut:(Value.slice (aE x.2.1.a 0 x.2.1.c 1) (((q:Nat):Int).toNat-0) (x.2.1.c-0))=.slice (aE x.2.1.a 0 x.2.1.c 1) q x.2.1.c:=rfl;rw[ecut]at ahb;have hE:oY (E'.map mw) (S x.1) (.slice (aE x.2.1.a 0 x.2.1.c 1) q x.2.1.c)=(DD (λy:Bl=>y.1) E' (x.1,⟨aE x.2.1.a 0 x.2.1.c 1,q,x.2.1.c⟩,x.2.2.take q)).map mw:=QK E' (x.1,⟨aE x.2.1.a 0 x.2.1.c 1,q,x.2.1.c⟩,x.2.2.take q);rw[hE]at ahb;have m19:Mod (λi=>i=m.r) c9.drew fm:=Mod.oX fL;have aur:=aBq.trans m19
  have apL:((DD (λy:Bl=>y.1) E' (x.1,⟨aE x.2.1.a 0 x.2.1.c 1,q,x.2.1.c⟩,x.2.2.take q)).map kb).Perm (lay s (x.1,x.2.2.take q)):=
   Pk (f:=λy:Bl=>y.1) (g:=λy:Bl=>y.2.2) (x.1,⟨aE x.2.1.a 0 x.2.1.c 1,q,x.2.1.c⟩,x.2.2.take q) hp hnd
  have iK:(H.mk (aE x.2.1.a 0 x.2.1.c 1) q x.2.1.c).D=x.2.1.D:=by rw[dt];rfl
  have hbl19:∀y∈DD (λy:Bl=>y.1) E' (x.1,⟨aE x.2.1.a 0 x.2.1.c 1,q,x.2.1.c⟩,x.2.2.take q),D7 fm y/\∀b,y.2.1.D=some b->∃z∈m.E++m.W,z.2.1.D=some b:=λy hy=>by
   have akn:D7 c9.drew y/\∀b,y.2.1.D=some b->∃z∈m.E++m.W,z.2.1.D=some b:=by
    rcases Pj hy with rfl|hy
    ·refine⟨⟨?_,λc hc=>EI.b c (nZ hc)⟩,λb hb=>⟨x,hxm,by rw[<-iK];exact hb⟩⟩;have:=ar.awD (hbx10.ext dn) X (m:=q) (by rw[aK];omega) x.2.1.c;rw[<-List.map_take]at this;exact this
    ·exact hbl15 y hy
   refine⟨⟨m19.gR akn.1.o λb hb e=>?_,akn.1.b⟩,akn.2⟩;have⟨cs',jT⟩:=aT akn.1.o X hb;exact jT.fH auq e
  have pb:∀j,bM (N (O d) j)≠some br.heap.size:=λj q=>by
   rw[cB]at q;have:d=br.heap.size:=by simpa[bM]using q
   omega
  apply Z.mk<;>intro hb
  ·replace hb:=lM hb;rw[if_neg U]at tc;have hqc:q=c.toNat:=by omega
   have⟨f1,f2⟩:=fin aur ahb apL (by rw[hqc,<-TC,tc]) hbl19;refine⟨⟨rfl,f1⟩,pb _,λeQ wx=>?_⟩;have⟨f3,f4⟩:=f2 eQ wx;refine⟨⟨rfl,f3⟩,pb _,λdi vq=>?_⟩;have⟨f5,f6⟩:=f4 di vq;exact⟨⟨rfl,f5⟩,pb _,λdh Dy=>f6 dh Dy⟩
  ·replace hb:=lW hb;rw[if_pos U]at tc;have hqx:x.2.2.take q=x.2.2:=dN U;have hqx2:q=x.2.2.length:=by omega
   rw[hqx]at apL hbl19 ahb;refine⟨n6-1,U,k+1,_,lay s (kb x),wk,U,?_,?_,ahb,apL,vP hnd,?_,hbl19,aur⟩
   ·rw[wI];omega
   ·rw[wI];omega
   ·rw[wI,hqx2,<-TC,tc]
 ·replace hc:=lW hc;have Yj:k=m.W.length:=by omega
  have hcr2:s=mC (nq D aV) D.safe D.l:=by rw[<-TC,wH U];rfl
  have⟨f1,f2⟩:=fin mr hm hp hcr2 kQ;refine⟨⟨rfl,f1⟩,λeQ wx=>?_⟩;have⟨f3,f4⟩:=f2 eQ wx;refine⟨⟨rfl,f3⟩,λdi vq=>?_⟩;have⟨f5,f6⟩:=f4 di vq;exact⟨⟨rfl,f5⟩,λdh Dy=>f6 dh Dy⟩
end
abbrev aro:aB:=276
structure SO(w:au)(st d:Nat)(m:Dm)(D:Dk):Prop where
 rs:Row w st [d] BZ
 dk:DO w d m D
def sF(st d:Nat)(m:Dm)(i:Nat):Prop:=i=st\/dF d m i
def SO.lt{w:au}{st d:Nat}{m:Dm}{D:Dk}(h:SO w st d m D){i:Nat}(hi:sF st d m i):i<w:=by
 rcases hi with rfl|hi
 ·exact h.rs.lt
 ·exact h.dk.lt hi
def SO.same{w w':au}{st d:Nat}{m:Dm}{D:Dk}(h:SO w st d m D)(hs:∀i,sF st d m i->w'.heap[i]? =w.heap[i]?):SO w' st d m D:=⟨h.rs.same (hs _ (.inl rfl)),h.dk.same λi hi=>hs i (.inr hi)⟩
def SO.ext{w w':au}{st d:Nat}{m:Dm}{D:Dk}(h:SO w st d m D)(x:Ext w w'):SO w' st d m D:=h.same λi hi=>x.heap (h.lt hi)
def SO.ptr{w:au}{st d:Nat}{m:Dm}{D:Dk}(h:SO w st d m D):ld w (N (N (O st) 0) 0)=some (.pointer (O d)):=by rw[aF,aF,h.rs.ld];rfl
def abu(room:Int)(w:au):Y 297 #[room] w λe w'=>∃d m,e=dr (O d)/\DO w' d m ⟨min (max room 0) 1048576,0,0,[],[]⟩/\Ext w w'/\∀i,dF d m i->w<=i:=by
 apply adK.B;intro w0 e0 w1 e1;have z0:=fD e0;have x1:=aU e1;have hm:bG GI w0 (some w) []:=by rw[e0];exact bG.new
 have er:(if 1048576<(if 0>room then 0 else room)then 1048576 else(if 0>room then 0 else room))=min (max room 0) 1048576:=a0n
 rw[er]at e1;refine⟨w0,⟨w,⟨none,0,0⟩,[],[]⟩,rfl,⟨by rw[e1];exact Row.new w0 [_,_,_,_,_] _,hm.same (x1.heap hm.lt),ar.nil,.refl _,rfl,(λx hx=>by cases hx),⟨List.nodup_nil,λk=>by simp[ee];omega,bo,bo,hX⟩⟩,(aU e0).A x1,λi hi=>?_⟩;rcases hi with q|q|q|⟨x,hx,-⟩
 ·omega
 ·rw[q];exact ak _
 ·cases q
 ·cases hx
def abt(room:Int)(w:au):Y 242 #[room] w λe w'=>∃st d m,e=dr (O st)/\SO w' st d m ⟨min (max room 0) 1048576,0,0,[],[]⟩/\Ext w w'/\∀i,sF st d m i->w<=i:=by
 apply Zr.B;refine(abu room w).mono ?_;rintro e w0 ⟨d,m,rfl,hd,x0,hf⟩;refine⟨_,rfl,λw2 e2=>?_⟩;have x2:=aU e2;have z:=x0.size;refine⟨_,d,m,rfl,⟨by rw[e2];exact Row.new w0 [_] _,hd.ext x2⟩,x0.A x2,λi hi=>?_⟩;rcases hi with q|q
 ·omega
 ·exact hf i q
def SW{w:au}{st d:Nat}{m:Dm}{D:Dk}(h:SO w st d m D)(hW:D.l.length<=1000000000){id:Int}(hid:0<=id/\id<=1099511627776): Y 231 #[st,id] w λe w'=>∃s:H,e=vI #[S (kL D id).1,S (kL D id).2.1,.slice s.a s.n s.c]/\jd w' s (kL D id).2.2/\mJ (kL D id).2.2/\(kL D id).2.2.length<=1048576/\s.n<=s.c/\(∀g,s.D=some g->w.heap.size<=g)/\Ext w w':=by
 apply Ef.B;intro w0 e0 w1 e1 w2 e2;have z0:=fD e0;have z1:w1.heap.size=w.heap.size+2:=by rw[e1];simp[z0]
 have z2:w2.heap.size=w.heap.size+2:=by rw[e2,setRow_size,z1]
 have x2:Ext w w2:=((aU e0).aZ e1).L e2 U;have k0:I (2*id)=2*id:=wI;have k1:I (2*id+1)=2*id+1:=wI;rw[k0,k1];obtain⟨best,hbest⟩:∃best:Nat->Rc,best=λk=>if k=0 then(2*id+1,0,[])else if k=1 then j2 (2*id+1,0,[]) (2*id) (pT (getD D (2*id)))else kL D id:=⟨_,rfl⟩
 have b0:best 0=(2*id+1,0,[]):=by rw[hbest];rfl
 have b1:best 1=j2 (best 0) (2*id) (pT (getD D (2*id))):=by rw[b0,hbest];rfl
 have b2:best 2=j2 (best 1) (2*id+1) (pT (getD D (2*id+1))):=by rw[b1,b0,hbest];rfl
 have b3:best 2=kL D id:=by rw[hbest];rfl
 refine⟨λn i sl v s wr=>∃k:Nat,i=k/\k+n=2/\sl=(best k).1/\v=(best k).2.1/\jd wr s (best k).2.2/\mJ (best k).2.2/\(best k).2.2.length<=1048576/\s.n<=s.c/\(∀g,s.D=some g->w2.heap.size<=g)/\Ext w wr/\w2.heap.size<=wr,
  ⟨2,rfl,0,rfl,rfl,by rw[b0],by rw[b0],by rw[b0];exact nY.FC (ar.nil (B:=0)),by rw[b0];exact(λc hc=>by cases hc),by rw[b0];simp,ak _,(λg hg=>by cases hg),x2,ak _⟩,?_⟩
 rintro n4 us i sl v s br ⟨k,rfl,hk,rfl,rfl,hs,TT,lE,hsc,hsf,bL,z10⟩;apply Z.mk<;>intro hc
 ·replace hc:=lM hc;have TY:=nE (j:=k);obtain⟨slot,hslot,hnext⟩:∃slot,([S (2*id),S (2*id+1)]:LV)[((k:Nat):Int).toNat*1]? =some (S slot)/\best (k+1)=j2 (best k) slot (pT (getD D slot)):=by
   rcases k with _|_|k
   ·exact⟨_,rfl,b1⟩
   ·exact⟨_,rfl,b2⟩
   ·omega
  have h10:=h.ext bL;refine⟨⟨U,U⟩,slot,hslot,_,h10.ptr,(ZW h10.dk hW slot).mono ?_⟩;rintro e cp ⟨t,tb,rfl,ot,WE,hle,cY⟩;have z14:=cY.size;refine⟨t,tb,rfl,cY.k,cY.k,(VO t (getD D slot) cp (nY.FC ot) WE (ar.le ot) U).mono ?_⟩;rintro e cP ⟨u,rfl,hu,huc,hub,dO⟩;have z17:=dO.size;have ahc:=cY.A dO;have hui:=am3 WE;have hul:=am4 (getD D slot);have aV:j2 (best k) slot (pT (getD D slot))=best k->∃n11,n11<n4/\aR [J,J,.slice none 0 0]/\∃k':Nat,I ((k:Int)+1)=(k':Int)/\k'+n11=2/\(best k).1=(best k').1/\(best k).2.1=(best k').2.1/\jd cP s (best k').2.2/\mJ (best k').2.2/\(best k').2.2.length<=1048576/\s.n<=s.c/\(∀g,s.D=some g->w2.heap.size<=g)/\Ext w cP/\w2.heap.size<=cP:=λq=>by rw[q]at hnext;exact⟨n4-1,U,rfl,k+1,TY,U,by rw[hnext],by rw[hnext],by rw[hnext];exact hs.ext ahc,by rw[hnext];exact TT,by rw[hnext];exact lE,hsc,hsf,bL.A ahc,U⟩
  refine⟨_,u,_,rfl,dO.k,dO.k,Z.mk (λhb=>Z.mk (λlk=>?_) (λlk=>?_)) (λhb=>?_)⟩
  ·have q1:=eK hb;have q2:=eK lk;have e:j2 (best k) slot (pT (getD D slot))=(slot,(pT (getD D slot)).1,(pT (getD D slot)).2.1):=by unfold j2;rw[if_pos ⟨q1,q2⟩]
   rw[e]at hnext;intro di vq;have fk:Ext w di:=(bL.A ahc).L vq U;have aBA:jd di u (pT (getD D slot)).2.1:=hu.same λg hg=>by rw[vq];exact setRow_other _ _ _ _ (a1N (hub g hg))
   have z21:di.heap.size=cP.heap.size:=by rw[vq,setRow_size]
   exact⟨n4-1,U,rfl,k+1,TY,U,by rw[hnext],by rw[hnext],by rw[hnext];exact aBA,by rw[hnext];exact hui,by rw[hnext];simp only;omega,huc,(λg hg=>a1N (hub g hg)),fk,U⟩
  ·have q2:=eK lk;exact aV (by unfold j2;rw[if_neg λq=>q2 q.2])
  ·have q1:=eK hb;exact aV (by unfold j2;rw[if_neg λq=>q1 q.1])
 ·replace hc:=lW hc;have Yj:k=2:=by omega
  subst Yj;rw[b3]at hs TT lE⊢;intro dh Dy;refine⟨s,rfl,hs.same λg hg=>?_,TT,lE,hsc,λg hg=>a1N (hsf g hg),bL.L Dy (ak _)⟩;rw[Dy];exact setRow_other _ _ _ _ (a1N (hsf g hg))
def KU(id:Int)(w:au):kh 230 #[id] w (eL (IE id)):=by
 apply Zs.B;unfold IE;apply Z.mk<;>intro h
 ·simp only[ge_iff_le,cC]at h;rw[decide_eq_true h];exact⟨rfl,rfl⟩
 ·simp only[ge_iff_le,fg]at h;rw[decide_eq_false h];exact⟨rfl,rfl⟩
def SX{id:Int}:IE id=true↔0<=id/\id<=1099511627776:=by unfold IE;simp
def Db{w:au}{st d:Nat}{m:Dm}{D:Dk}(h:SO w st d m D)(hW:D.l.length<=1000000000)(id:Int): Y 161 #[st,id] w λe w'=>∃s:H,e=bT #[s,S (pU D id).2.1,.bool (pU D id).2.2]/\jd w' s (pU D id).1/\mJ (pU D id).1/\(pU D id).1.length<=1048576/\s.n<=s.c/\(∀g,s.D=some g->w<=g)/\Ext w w':=by
 apply BR.B;refine(KU id w).V ?_;refine⟨_,rfl,Z.mk (λhb=>?_) (λhb=>?_)⟩
 ·have q:¬IE id=true:=by simpa using hb
  have e:pU D id=([],0,false):=by unfold pU;rw[if_neg q]
  rw[e];exact⟨⟨none,0,0⟩,rfl,nY.FC (ar.nil (B:=0)),(λc hc=>by cases hc),bo,ak _,(λg hg=>by cases hg),Ext.M _⟩
 ·have q:IE id=true:=by simpa using hb
  have e:pU D id=((kL D id).2.2,(kL D id).2.1,decide ((kL D id).2.1>0)):=by unfold pU;rw[if_pos q]
  rw[e];refine(SW h hW (SX.1 q)).mono ?_;rintro e w2 ⟨s,rfl,hs,TT,lE,hsc,hsf,x2⟩;refine⟨_,_,s,rfl,λw6 e6 w7 e7=>?_⟩;have x7:Ext w2 w7.drew:=((aU e6).L e7 (ak _)).drew;exact⟨s,rfl,hs.ext x7,TT,lE,hsc,hsf,x2.A x7⟩
def Eo(w:au)(st d:Nat)(m:Dm)(D:Dk)(w':au):Prop:=∃m',SO w' st d m' D/\Mod (λi=>i=d\/m.ls.D=some i) w w'/\(∀i,dF d m' i->dF d m i\/w<=i)/\∀i,m'.ls.D=some i->m.ls.D=some i\/w<=i
def SO.off{w:au}{st d:Nat}{m:Dm}{D:Dk}(h:SO w st d m D):¬(st=d\/m.ls.D=some st):=by
 rintro(q|q)
 ·exact h.rs.ne h.dk.rd X q
 ·have⟨cs',jT⟩:=aT h.dk.ol X q;exact h.rs.ne jT X rfl
def SO.res{w w':au}{st d:Nat}{m:Dm}{D D':Dk}(h:SO w st d m D)(hr:amC w d m D' w'):Eo w st d m D' w':=by have⟨m',h1,h2,h3,h4⟩:=hr;exact⟨m',⟨h2.row h.rs h.off,h1⟩,h2,h3,h4⟩
def Eo.P{w0 w w':au}{st d:Nat}{m:Dm}{D':Dk}(x:Ext w0 w)(hr:Eo w st d m D' w'):Eo w0 st d m D' w':=by have⟨m',h1,h2,h3,h4⟩:=hr;have z:=x.size;exact⟨m',h1,(Mod.P x).trans h2,λi hi=>(h3 i hi).imp id λq=>by omega,λi hi=>(h4 i hi).imp id λq=>by omega⟩
def Eo.trans{w w1 w2:au}{st d:Nat}{m m1:Dm}{D1 D2:Dk}(h1:SO w1 st d m1 D1/\Mod (λi=>i=d\/m.ls.D=some i) w w1/\(∀i,dF d m1 i->dF d m i\/w<=i)/\∀i,m1.ls.D=some i->m.ls.D=some i\/w<=i)(h2:Eo w1 st d m1 D2 w2):Eo w st d m D2 w2:=by
 have⟨a1,a2,a3,a4⟩:=h1;have⟨m2,b1,b2,b3,b4⟩:=h2;have z:=a2.size;refine⟨m2,b1,a2.A b2 λi hi=>?_,λi hi=>?_,λi hi=>?_⟩
 ·rcases hi with q|q
  ·exact .inl (.inl q)
  ·exact(a4 i q).imp .inr id
 ·rcases b3 i hi with q|q
  ·exact a3 i q
  ·exact .inr U
 ·rcases b4 i hi with q|q
  ·exact a4 i q
  ·exact .inr U
def C0{w:au}{st d:Nat}{m:Dm}{D:Dk}(h:SO w st d m D)(hW:D.l.length<=1000000)(id:Int)(s:H)(b:ab)(hs:jd w s b)(hb:mJ b)(hn:b.length<=1099511627776): Y 235 #[st,id,s] w λe w'=>e=S (tJ D id b).2/\Eo w st d m (tJ D id b).1 w':=by
 apply(Co.B (a2:=s));have same:∀{w':au},Ext w w'->Eo w st d m D w':=λx=>⟨m,h.ext x,Mod.P x,λi hi=>.inl hi,λi hi=>.inl hi⟩
 refine(KU id w).V ?_;refine⟨_,rfl,Z.mk (λYx=>?_) (λYx=>?_)⟩
 ·have q:¬IE id=true:=by simpa using Yx
  have e:tJ D id b=(D,1):=by unfold tJ;rw[if_neg q]
  rw[e];exact⟨rfl,same (Ext.M _)⟩
 ·have q:IE id=true:=by simpa using Yx
  have hid:=SX.1 q;refine(SW h U hid).mono ?_;rintro e w2 ⟨s5,rfl,-,-,-,-,-,x2⟩;refine⟨_,_,s5,rfl,λw6 e6 w7 e7=>?_⟩;have r7:Row w7 w2 [S (kL D id).1,S (kL D id).2.1,s5] aro:=by rw[e7];exact Row.set (by rw[e6];exact Row.new w2 [_,_,_] _) _
  have jl:Ext w2 w7:=(aU e6).L e7 (ak _);have x7:=x2.A jl;have hv:=akv D id;have wv:I ((kL D id).2.1+1)=(kL D id).2.1+1:=wI;rw[wv];have lE:=Pm D id;have hto:lA .i64 (kL D id).1 1=4*id+1-(kL D id).1:=by
   have⟨t1,t2⟩:=acU hid;rcases lE with q|q
   ·rw[q,t1];omega
   ·rw[q,t2];omega
  rw[hto];have hsv:tJ D id b=if(zf ((kL D id).2.1+1) b).2≠0 then(D,(zf ((kL D id).2.1+1) b).2)
   else if(kV D (4*id+1-(kL D id).1) (zf ((kL D id).2.1+1) b).1).2≠0 then kV D (4*id+1-(kL D id).1) (zf ((kL D id).2.1+1) b).1
   else nX (kV D (4*id+1-(kL D id).1) (zf ((kL D id).2.1+1) b).1).1:=by unfold tJ;rw[if_pos q]
  rw[hsv];refine(Se ((kL D id).2.1+1) s b w7 (hs.ext x7) hb hn).mono ?_;rintro e w8 ⟨s9,rfl,o9,x8⟩;have hwb:mJ (zf ((kL D id).2.1+1) b).1:=anf hb;have hwn:(zf ((kL D id).2.1+1) b).1.length<=1099511627776:=by
   unfold zf;split
   ·simp
   next q3=>rw[BC,rj];omega
  generalize zf ((kL D id).2.1+1) b=wr at*;generalize 4*id+1-(kL D id).1=slot at*;have z8:=x8.size;have z2:=jl.size;have hlt7:=r7.lt;refine⟨s9,_,rfl,x8.heap hlt7,Z.mk (λlk=>?_) (λlk=>?_)⟩
  ·have q2:wr.2≠0:=by simpa using lk
   rw[if_pos q2];exact⟨rfl,same (x7.A x8)⟩
  ·have q2:wr.2=0:=by simpa using lk
   rw[if_neg (by rw[q2];simp)];have x8d:=(x7.A x8).A (Ext.K w8);have h8:=h.ext x8d;have hdl:=h.dk.rd.lt;have z7:=x7.size;refine⟨_,h8.ptr,(Z7 h8.dk U slot s9 wr.1 (RdK.ext (nY.FC o9) (Ext.K w8)) hwb hwn λhg=>a1N ((o9.own.lt hg).1)).F λbN aBB=>?_⟩;have auz:=h8.res aBB;have yG:∀{v:au},Mod (λi=>i=d\/m.ls.D=some i) w8.drew v->v.heap[w2.heap.size]? =w8.drew.heap[w2.heap.size]? :=λhm=>hm.same _ (by show w2.heap.size<w8.heap.size;omega) (by
    have:=x2.size;rintro(q|q)
    ·omega
    ·have:=(h.dk.ol.own.lt q).2;omega)
   have⟨m1,g1,g2,g3,g4⟩:=auz;have r12:Row bN w2 [S (kL D id).1,S (kL D id).2.1,s5] aro:=((r7.ext x8).ext (Ext.K w8)).same (yG g2);refine⟨_,rfl,yG g2,r12.y (λj hj=>a04),Z.mk (λhb3=>?_) (λhb3=>?_)⟩
   ·have q3:(kV D slot wr.1).2≠0:=by simpa using hb3
    rw[if_pos q3];exact⟨rfl,Eo.P x8d ⟨m1,g1,g2,g3,g4⟩⟩
   ·have q3:(kV D slot wr.1).2=0:=by simpa using hb3
    rw[if_neg (by rw[q3];simp)];have S7:=acW D slot wr.1;refine⟨_,g1.ptr,(V2 g1.dk U).F λc9 auA=>?_⟩;have auB:=g1.res auA;have bq:=Eo.trans ⟨g1,g2,g3,g4⟩ auB;have z12:=g2.size;have⟨m2,f1,f2,f3,f4⟩:=auA;refine⟨_,rfl,f2.same _ r12.lt ?_,rfl,Eo.P x8d bq⟩;rintro(q|q)
    ·have:=x2.size;omega
    ·have⟨cs',jT⟩:=aT g1.dk.ol X q;exact r12.ne jT X rfl
structure It where
 x:Nat
 g:Nat
 s:H
 p:Po
 C:ab
 o5:aX
 pins:Int
structure tM(w:au)(i:It):Prop where
 r:Row w i.x [.pointer (O i.g),.bool i.o5,i.pins] cc
 k:Ja w i.g i.s i.p i.C
section
variable{w w':au}{i:It}(h:tM w i)
def tM.ext(x:Ext w w'):tM w' i:=⟨h.r.ext x,h.k.ext x⟩
def tM.aV{F:Nat->Prop}(hm:Mod F w w')(h1:¬F i.x)(h2:¬F i.g)(h3:∀b,i.s.D=some b->¬F b):tM w' i:=⟨hm.row h.r h1,h.k.aV hm h2 h3⟩
abbrev DI(its:List It):List (LV):=its.map λi=>[.pointer (O i.x)]
structure TO(w:au)(t st d:Nat)(r:Dm)(sl:H)(D:Dk)(aj limit:Int)(its:List It):Prop where
 rt:Row w t [st,aj,limit,sl] B0
 so:SO w st d r D
 ol:ar 0 F_ 1 w sl (DI its)
 it:∀i∈its,tM w i
 dx:(its.map (·.x)).Nodup
 dg:(its.map (·.g)).Nodup
 W8:1<=limit/\limit<=16
 len:(its.length:Int)<=limit
def dM(m:Dm)(i:Nat):Prop:=i=m.r\/m.ls.D=some i\/∃x∈m.E++m.W,x.2.1.D=some i
def aw(t st d:Nat)(r:Dm)(sl:H)(its:List It)(i:Nat):Prop:=i=t\/i=st\/i=d\/dM r i\/sl.D=some i\/∃y∈its,i=y.x\/i=y.g\/y.s.D=some i
variable{i t st d:Nat}{r:Dm}{sl:H}{D:Dk}{aj limit:Int}{its:List It}(h:TO w t st d r sl D aj limit its)
def TO.lt(hi:aw t st d r sl its i):i<w:=by
 rcases hi with rfl|e|e|e|e|⟨y,hy,e|e|e⟩
 ·exact h.rt.lt
 ·exact h.so.lt (.inl e)
 ·exact h.so.lt (.inr (.inl e))
 ·exact h.so.lt (.inr (.inr e))
 ·exact(h.ol.own.lt e).2
 ·exact e▸(h.it y hy).r.lt
 ·exact e▸(h.it y hy).k.row.lt
 ·exact((h.it y hy).k.own.own.lt e).2
def TO.same(hs:∀i,aw t st d r sl its i->w'.heap[i]? =w.heap[i]?):TO w' t st d r sl D aj limit its:=by
 refine⟨h.rt.same (hs _ (.inl rfl)),h.so.same λi hi=>hs i ?_,ar.aV h.ol λb hb=>hs b (.inr (.inr (.inr (.inr (.inl hb))))),λy hy=>?_,h.dx,h.dg,h.W8,h.len⟩
 ·rcases hi with e|e|e
  ·exact .inr (.inl e)
  ·exact .inr (.inr (.inl e))
  ·exact .inr (.inr (.inr (.inl e)))
 ·have f:∀i,(i=y.x\/i=y.g\/y.s.D=some i)->w'.heap[i]? =w.heap[i]? :=λi hi=>hs i (.inr (.inr (.inr (.inr (.inr ⟨y,hy,hi⟩)))))
  have hi:=h.it y hy;exact⟨hi.r.same (f _ (.inl rfl)),hi.k.row.same (f _ (.inr (.inl rfl))),ar.aV hi.k.own λb hb=>f b (.inr (.inr hb)),hi.k.len,hi.k.may⟩
def TO.ext(x:Ext w w'):TO w' t st d r sl D aj limit its:=h.same λi hi=>x.heap (h.lt hi)
def TO.kind(hi:aw t st d r sl its i): bG GI w (some i) (r.E.map mw)\/∃cs τ,Row w i cs τ/\(τ=B0\/τ=BZ\/τ=tg\/τ=F_\/τ=cc\/τ=xY\/τ=ic\/τ=tW\/τ=jG):=by
 rcases hi with e|e|e|e|e|⟨y,hy,e|e|e⟩
 ·exact .inr ⟨_,_,e▸h.rt,.inl rfl⟩
 ·exact .inr ⟨_,_,e▸h.so.rs,.inr (.inl rfl)⟩
 ·exact .inr ⟨_,_,e▸h.so.dk.rd,.inr (.inr (.inl rfl))⟩
 ·rcases h.so.dk.kind (.inr e)with q|⟨cs,τ,q1,q2⟩
  ·exact .inl q
  ·refine .inr ⟨cs,τ,q1,?_⟩;rcases q2 with rfl|rfl|rfl
   ·exact .inr (.inr (.inl rfl))
   ·exact .inr (.inr (.inr (.inr (.inr (.inr (.inr (.inl rfl)))))))
   ·exact .inr (.inr (.inr (.inr (.inr (.inr (.inr (.inr rfl)))))))
 ·have⟨cs,hr⟩:=aT h.ol X e;exact .inr ⟨_,_,hr,.inr (.inr (.inr (.inl rfl)))⟩
 ·exact .inr ⟨_,_,e▸(h.it y hy).r,.inr (.inr (.inr (.inr (.inl rfl))))⟩
 ·exact .inr ⟨_,_,e▸(h.it y hy).k.row,.inr (.inr (.inr (.inr (.inr (.inl rfl)))))⟩
 ·have⟨cs,hr⟩:=aT (h.it y hy).k.own X e;exact .inr ⟨_,_,hr,.inr (.inr (.inr (.inr (.inr (.inr (.inl rfl))))))⟩
def TO.dR{j:Nat}{cs:LV}{τ:aB}(hr:Row w j cs τ)(hτ:τ≠B0/\τ≠BZ/\τ≠tg/\τ≠F_/\τ≠cc/\τ≠xY/\τ≠ic/\τ≠tW/\τ≠jG):¬aw t st d r sl its j:=λhf=>by
 rcases h.kind hf with hm|⟨cs',τ',hr',ht⟩
 ·exact hr.fH hm rfl
 ·have⟨h1,h2,h3,h4,h5,h6,h7,h8,h9⟩:=hτ
  rcases ht with rfl|rfl|rfl|rfl|rfl|rfl|rfl|rfl|rfl
  ·exact hr.ne hr' h1 rfl
  ·exact hr.ne hr' h2 rfl
  ·exact hr.ne hr' h3 rfl
  ·exact hr.ne hr' h4 rfl
  ·exact hr.ne hr' h5 rfl
  ·exact hr.ne hr' h6 rfl
  ·exact hr.ne hr' h7 rfl
  ·exact hr.ne hr' h8 rfl
  ·exact hr.ne hr' h9 rfl
def TO.n:sl.n=its.length:=by have:=(h.ol.rd X).n;rwa[aK]at this
def TO.at{y:It}(hi:its[i]? =some y):gD sl.a (i:Int) sl.n/\ld w (N sl.a (((i:Nat):Int).toNat*1))=some (.pointer (O y.x)):=by have fK:=(cG.1 hi).1;have gF:=h.ol.rd (show 0<1 by decide);refine⟨RdK.jX gF X U (by rw[h.n];omega),?_⟩;have:=gF.rd i [.pointer (O y.x)] (by rw[aW,hi];rfl) 0 _ rfl;exact this
def T9(room:Int):Dk:=⟨min (max room 0) 1048576,0,0,[],[]⟩
def abr(aj limit room:Int)(w:au):Y 176 #[aj,limit,room] w λe w'=>∃t st d r,e=dr (O t)/\TO w' t st d r ⟨none,0,0⟩ (T9 room) aj (min (max limit 1) 16) []/\Ext w w'/\∀i,aw t st d r ⟨none,0,0⟩ [] i->w<=i:=by
 apply ZB.B;refine(abt room w).mono ?_;rintro e w0 ⟨st,d,m,rfl,hs,x0,hf⟩;refine⟨_,rfl,λw2 e2=>?_⟩;have x2:=aU e2;have z0:=x0.size;have hl:(if 16<(if 1>limit then 1 else limit)then 16 else(if 1>limit then 1 else limit))=min (max limit 1) 16:=a0n
 rw[hl]at e2;refine⟨_,st,d,m,rfl,⟨by rw[e2];exact Row.new w0 [_,_,_,_] _,hs.ext x2,ar.nil,bo,bo,bo,U,by simp;omega⟩,x0.A x2,λi hi=>?_⟩;rcases hi with rfl|e|e|e|e|⟨y,hy,-⟩
 ·exact z0
 ·exact hf i (.inl e)
 ·exact hf i (.inr (.inl e))
 ·exact hf i (.inr (.inr e))
 ·cases e
 ·cases hy
def uS{α:Type}(s:H)(l:List α)(ad:α->Nat)(fv:aC)(q:α->aX)(w:au)(hs:RdK w s 1 (l.map λi=>[.pointer (some ⟨ad i,0,none⟩)]))(hb:l.length<=1000) (hf:∀i∈l,∀w',Ext w w'->bu ka5 fv [.pointer (some ⟨ad i,0,none⟩)] w' λe w''=>e=eL (q i)/\Ext w' w''): ed 227 #[s,fv] w (S (bK q l)):=by
 apply tR.B;have hn:s.n=l.length:=by have:=hs.n;rwa[aK]at this
 refine⟨λn i wr=>∃k:Nat,i=k/\k+n=l.length/\Ext w wr/\∀j,j<k->∀y,l[j]? =some y->q y=false,⟨l.length,0,rfl,U,Ext.M _,λj hj=>by omega⟩,?_⟩;rintro n us i wr ⟨k,rfl,hk,xr,lp⟩;have TY:=nE (j:=k);apply Z.mk<;>intro hc
 ·replace hc:=lM hc;have⟨y,hy⟩:=bX (l:=l) (i:=k) U;have hsr:=RdK.ext hs xr;have pG:=hsr.rd k [.pointer (some ⟨ad y,0,none⟩)] (by rw[aW,hy];rfl) 0 _ rfl;refine⟨RdK.jX hsr X U U,_,pG,bJ (hf y (aQ hy) wr xr) ?_⟩;rintro e w7 ⟨rfl,x7⟩;refine⟨_,rfl,Z.mk (λh=>?_) (λh=>?_)⟩
  ·exact⟨by rw[vz hy h lp],xr.A x7⟩
  ·refine⟨n-1,U,k+1,TY,U,xr.A x7,λj hj z hz=>?_⟩;by_cases e:j=k
   ·subst e;rw[hy]at hz;cases hz;exact h
   ·exact lp j U z hz
 ·replace hc:=lW hc;refine⟨?_,xr⟩;rw[mX];intro y hy;have⟨j,hj⟩:=yY hy;exact lp j (a1N ((cG.1 hj).1)) y hj
def find_spec(p:Po): ed 158 #[t,pv p] w (S (bK (λi=>i.p==p) its)):=by
 apply BP.B;intro w0 e0;have x0:=aU e0;have hb:Row w0 w [p.1,p.2] K_:=Row.nw e0;have h0:=h.ext x0;have cX:=h.len;have agM:=h.W8;refine⟨sl,h0.rt.at 3 rfl,(uS sl its (·.x) _ (λi=>i.p==p) w0 (h0.ol.rd X) U ?_).mono ?_⟩
 ·intro y hy w' x';refine bR (by kernel_rfl) (by rfl) ?_;apply xL.B;have hy':=((h0.it y hy).ext x').ext (Ext.K w');have hb':=(hb.ext x').ext (Ext.K w');refine⟨_,by rw[aF,hy'.r.ld];rfl,sb (sb ⟨_,_,hy'.k.pos,_,_,hb'.y (λj hj=>by rw[eF]),(xF y.p w'.drew).F λw5 x5=>?_⟩)⟩;refine⟨_,_,rfl,(hb'.ext x5).y (λj hj=>by rw[eF]),?_,rfl,(Ext.K w').A x5⟩;rw[aF];exact(hy'.ext x5).r.y (λj hj=>a04)
 ·rintro e w2 ⟨rfl,x2⟩;exact⟨_,rfl,rfl,x0.A x2⟩
end
section
variable{w:au}{st d i:Nat}{m:Dm}{D:Dk}(h:SO w st d m D)
def SO.kind(hi:sF st d m i):bG GI w (some i) (m.E.map mw)\/∃cs τ,Row w i cs τ/\(τ=BZ\/τ=tg\/τ=tW\/τ=jG):=by
 rcases hi with e|hi
 ·exact .inr ⟨_,_,e▸h.rs,.inl rfl⟩
 ·rcases h.dk.kind hi with q|⟨cs,τ,q1,q2⟩
  ·exact .inl q
  ·exact .inr ⟨cs,τ,q1,.inr q2⟩
variable{w':au}
def SO.aV{F:Nat->Prop}(hm:Mod F w w')(hr:∀{j:Nat}{cs:LV}{τ:aB},Row w j cs τ->(τ=BZ\/τ=tg\/τ=tW\/τ=jG)->¬F j)(hmp:∀{j:Nat}{kvs:List (aC×aC)},bG GI w (some j) kvs->¬F j):SO w' st d m D:=
 h.same λi hi=>hm.same i (h.lt hi) (by
  rcases h.kind hi with q|⟨cs,τ,q1,q2⟩
  ·exact hmp q
  ·exact hr q1 q2)
abbrev O_(t:Nat)(sl:H):Nat->Prop:=λj=>j=t\/sl.D=some j
variable{t:Nat}{r:Dm}{sl:H}{aj limit:Int}{its:List It}(h:TO w t st d r sl D aj limit its)
def TO.off{j:Nat}{cs:LV}{τ:aB}(hr:Row w j cs τ)(h1:τ≠B0)(h2:τ≠F_):¬O_ t sl j:=by
 rintro(e|e)
 ·exact hr.ne h.rt h1 e
 ·have⟨cs',hr'⟩:=aT h.ol X e;exact hr.ne hr' h2 rfl
variable{y:It}
def TO.item(hm:Mod (O_ t sl) w w')(hy:tM w y):tM w' y:=
 hy.aV hm (h.off hy.r X X) (h.off hy.k.row X X) (λb hb=>by have⟨cs',hr'⟩:=aT hy.k.own X hb;exact h.off hr' X X)
variable{sl':H}{its':List It}
def TO.aeg(hm:Mod (O_ t sl) w w') (rt:Row w' t [st,aj,limit,sl'] B0)(ol:ar 0 F_ 1 w' sl' (DI its'))(hit:∀y∈its',y∈its\/tM w y) (dx:(its'.map (·.x)).Nodup)(dg:(its'.map (·.g)).Nodup)(len:(its'.length:Int)<=limit):TO w' t st d r sl' D aj limit its':=by
 refine⟨rt,h.so.aV hm (λhr hτ=>?_) (λhmp=>?_),ol,λy hy=>h.item hm ?_,dx,dg,h.W8,len⟩
 ·rcases hτ with rfl|rfl|rfl|rfl<;>exact h.off hr X X
 ·rintro(e|e)
  ·exact h.rt.fH hmp e.symm
  ·have⟨cs',hr'⟩:=aT h.ol X e;exact hr'.fH hmp rfl
 ·rcases hit y hy with h1|h1
  ·exact h.it y h1
  ·exact h1
def Gy(hb:∀b,sl'.D=some b->sl.D=some b\/w<=b)(hi:∀y∈its',y∈its\/(w<=y.x/\w<=y.g/\∀b,y.s.D=some b->w<=b)): ∀i,aw t st d r sl' its' i->aw t st d r sl its i\/w<=i:=by
 rintro i (e|e|e|e|e|⟨y,hy,e⟩)
 ·exact .inl (.inl e)
 ·exact .inl (.inr (.inl e))
 ·exact a0Y
 ·exact .inl (.inr (.inr (.inr (.inl e))))
 ·rcases hb i e with h|h
  ·exact .inl (.inr (.inr (.inr (.inr (.inl h)))))
  ·exact .inr h
 ·rcases hi y hy with h|⟨h1,h2,h3⟩
  ·exact .inl (.inr (.inr (.inr (.inr (.inr ⟨y,h,e⟩)))))
  ·rcases e with e|e|e
   ·exact .inr U
   ·exact .inr U
   ·exact .inr (h3 i e)
def zZ:∀i,O_ t sl i->aw t st d r sl its i:=by
 rintro i (e|e)
 ·exact .inl e
 ·exact .inr (.inr (.inr (.inr (.inl e))))
def akL(a:Addr):One [dr (some a)]:=a0q
def TO.push(y:It)(hy:tM w y)(hx:y.x∉its.map (·.x))(hg:y.g∉its.map (·.g))(hl:(its.length:Int)+1<=limit): bj 8 1 w sl 1 [.pointer (O y.x)]/\∀(s4:H)(w5:au),aY F_ 1 w sl 1 [.pointer (O y.x)] s4 w5->Mod (λj=>sl.D=some j) w w5/\Wr w5 (N (O t) 3) 1/\∀w6,w6=bB w5 (N (O t) 3) [.slice s4.a s4.n s4.c]->TO w6 t st d r s4 D aj limit (its++[y])/\Mod (O_ t sl) w w6/\∀b,s4.D=some b->sl.D=some b\/w<=b:=by
 have hn:=h.n;have agM:=h.W8;have⟨hp,hr⟩:=h.ol.append (bytes:=8) (news:=[.pointer (O y.x)]) (eG _) rfl (akL _) U U;refine⟨hp,λs4 w5 bq=>?_⟩;have⟨ho,hn4,kQ,hk,iK⟩:=hr s4 w5 bq;have hm5:Mod (λj=>sl.D=some j) w w5:=Mod.xq kQ hk;have hnt:¬sl.D=some t:=λe=>a1m
 have rt5:=hm5.row h.rt hnt;have⟨p1,p2⟩:=rt5.ft (j:=3) (v:=.slice s4.a s4.n s4.c) bo rfl;refine⟨hm5,p1,λw6 e6=>?_⟩;have⟨q1,q2⟩:=p2 w6 e6;have hm6:Mod (O_ t sl) w w6:=(hm5.mono λi _ hi=>.inr hi).trans (q2.mono λi _ hi=>.inl hi);have h4t:∀b,s4.D=some b->b≠t:=λb hb=>by have⟨cs',hr'⟩:=aT ho X hb;exact hr'.ne rt5 X
 refine⟨h.aeg hm6 q1 ?_ (λz hz=>?_) ?_ ?_ m_,hm6,λb hb=>?_⟩
 ·have:=q2.gR ho h4t;show ar 0 F_ 1 w6 s4 ((its++[y]).map _);rw[cl];exact this
 ·rcases dp.1 hz with hz|hz
  ·exact .inl hz
  ·simp at hz;subst hz;exact .inr hy
 ·rw[cl];refine GW.2 ⟨h.dx,bo,?_⟩;intro a ha b hb e;simp at hb;subst hb;subst e;exact hx ha
 ·rw[cl];refine GW.2 ⟨h.dg,bo,?_⟩;intro a ha b hb e;simp at hb;subst hb;subst e;exact hg ha
 ·rcases iK with e|e
  ·exact .inl (e▸hb)
  ·rw[e]at hb;cases hb;exact .inr (ak _)
def Gz(hi:its[i]? =some y): Y 165 #[t,S (i:Nat)] w λe w'=>e=dr (O y.x)/\∃sl',TO w' t st d r sl' D aj limit (its.eraseIdx i)/\Mod (O_ t sl) w w'/\∀b,sl'.D=some b->sl.D=some b\/w<=b:=by
 apply DY.B;have hn:=h.n;have agM:=h.W8;have cX:=h.len;have OW:=(cG.1 hi).1;have⟨a1,a2⟩:=h.at hi;have hd:=h.ext (Ext.K w);have hle:=ar.le h.ol;have w1:=nE (j:=i);refine⟨sl,h.rt.at 3 rfl,a1,_,a2,sl,hd.rt.at 3 rfl,U,U,U,U,sl,hd.rt.at 3 rfl,?_⟩;rw[w1];have mF:=hd.ol.cut X (m:=i) (by rw[aK];omega);have hrest:=RdK.rest (hd.ol.rd X) (l:=i+1) (m:=sl.c) (n':=sl.n-(i+1)) (c':=sl.c-(i+1)) (by rw[aK];omega) (by rw[aK];omega);have hml:((DI its).drop (i+1)).length=sl.n-(i+1):=by rw[wU,aK];omega
 have hwd:∀q∈(DI its).drop (i+1),q.length=1/\One q:=λq hq=>by obtain⟨z,_,rfl⟩:=bc.1 (zo hq);exact⟨rfl,akL _⟩
 have⟨hp,bq⟩:=mF.FB (bytes:=8) (more:=(DI its).drop (i+1)) (eG _) (λq hq=>(hwd q hq).1) (λq hq=>(hwd q hq).2) (by rw[hml];show(i+_)*8<=_;omega) (by rw[hml];show i+_<=_;omega);rw[hml]at hp bq;refine⟨U,U,((DI its).drop (i+1)).flatten,hrest.flat X,hp,λs5 w6 hr=>?_⟩;have⟨ho,hn5,kQ,hk,iK⟩:=bq s5 w6 hr;have TT:(H.mk (aE sl.a 0 i 1) i i).D=sl.D:=by rw[dt];rfl
 rw[TT]at hk iK;have hm6:Mod (λj=>sl.D=some j) w w6:=(Mod.P (Ext.K w)).trans (Mod.xq kQ hk);have hnt:¬sl.D=some t:=λe=>a1m
 have rt6:=hm6.row h.rt hnt;have⟨p1,p2⟩:=rt6.ft (j:=3) (v:=.slice s5.a s5.n s5.c) bo rfl;have pG:ah w6 (N (O t) 3) 0 [sl]:=by show ld w6 (N _ 0)=_;rw[fu];exact rt6.at 3 rfl
 refine⟨pG,pG,⟨rfl,p1⟩,λw7 e7=>⟨rfl,s5,?_⟩⟩;have⟨q1,q2⟩:=p2 w7 e7;have hm7:Mod (O_ t sl) w w7:=(hm6.mono λi _ hi=>.inr hi).trans (q2.mono λi _ hi=>.inl hi);have h5t:∀b,s5.D=some b->b≠t:=λb hb=>by have⟨cs',hr'⟩:=aT ho X hb;exact hr'.ne rt6 X
 have dP:List.Sublist (its.eraseIdx i) its:=GA ..;refine⟨h.aeg hm7 q1 ?_ (λz hz=>.inl (dP.subset hz)) (h.dx.sublist (dP.map _)) (h.dg.sublist (dP.map _)) ?_,hm7,λb hb=>?_⟩
 ·have:=q2.gR ho h5t;show ar 0 F_ 1 w7 s5 ((its.eraseIdx i).map _);rw[W9,cl,List.map_take,List.map_drop];exact this
 ·have:=dP.length_le;omega
 ·rcases iK with e|e
  ·exact .inl (e▸hb)
  ·rw[e]at hb;cases hb;exact .inr (ak _)
def Ko{α:Type}{f:α->Nat}{l:List α}{y:α}(hd:(l.map f).Nodup)(hi:l[i]? =some y):f y∉(l.eraseIdx i).map f:=by
 rw[W9,cl];have e:l=l.take i++y::l.drop (i+1):=by have:=td i l;rw[zV (cG.1 hi).1]at this;rw[<-(cG.1 hi).2];exact this.symm
 rw[e,cl,eH]at hd;have⟨h1,h2,h3⟩:=GW.1 hd;intro hm;rcases dp.1 hm with hm|hm
 ·exact h3 _ hm _ (.head _) rfl
 ·exact(uv.1 h2).1 hm
def GD(hi:its[i]? =some y): Y 159 #[t,S (i:Nat)] w λe w'=>e=dr (O y.x)/\∃sl',TO w' t st d r sl' D aj limit (its.eraseIdx i++[y])/\aJ (aw t st d r sl its) (aw t st d r sl' (its.eraseIdx i++[y])) w w':=by
 apply zP.B;have OW:=(cG.1 hi).1;have Jr:y∈its:=aQ hi;have cX:=h.len;refine(Gz h hi).mono ?_;rintro e w0 ⟨rfl,sl0,h0,m0,b0⟩;have hy0:=h.item m0 (h.it y Jr);refine⟨_,rfl,sl0,h0.rt.at 3 rfl,λw3 e3=>?_⟩;have x3:=aU e3;have h3:=h0.ext x3;have dP:List.Sublist (its.eraseIdx i) its:=GA ..;have jm:(its.eraseIdx i).length=its.length-1:=by rw[List.length_eraseIdx,if_pos OW]
 have⟨hp,hr⟩:=h3.push y (hy0.ext x3) (Ko h.dx hi) (Ko h.dg hi) U;refine⟨hp,λs4 w5 bq=>?_⟩;have⟨m5,p1,p2⟩:=hr s4 w5 bq;have ht0:=h0.rt.lt;have z3:=fD e3;refine⟨m5.same _ U λe=>a1N ((h0.ol.own.lt e).2),⟨rfl,p1⟩,λe=>?_,λw6 e6=>⟨rfl,s4,?_⟩⟩
 ·rw[cB]at e;have:t=w0:=by simpa[bM]using e
  omega
 ·have⟨q1,q2,q3⟩:=p2 w6 e6;have z0:=m0.size;refine⟨q1,⟨?_,?_⟩⟩
  ·have a1:Mod (aw t st d r sl its) w w3:=(m0.mono λi _ hi=>zZ i hi).trans (Mod.P x3);refine a1.A q2 λj hj=>?_
   rcases hj with e|e
   ·exact .inl (.inl e)
   ·rcases b0 j e with e|e
    ·exact a0V
    ·exact .inr e
  ·refine Gy (w:=w) (λb hb=>?_) (λz hz=>.inl ?_)
   ·rcases q3 b hb with e|e
    ·exact b0 b e
    ·exact .inr U
   ·rcases dp.1 hz with hz|hz
    ·exact dP.subset hz
    ·simp at hz;subst hz;exact Jr
end
section
variable{w w':au}{t st d i:Nat}{r:Dm}{sl:H}{D:Dk}{aj limit:Int}{its:List It}{y y':It}(h:TO w t st d r sl D aj limit its)
def TO.put(hi:its[i]? =some y)(hx:y'.x=y.x)(hg:y'.g=y.g)(hm:Mod (λj=>j=y.x) w w')(hy:tM w' y'):TO w' t st d r sl D aj limit (its.set i y'):=by
 have OW:=(cG.1 hi).1;have hr:=(h.it y (aQ hi)).r;have off:∀{j:Nat}{cs:LV}{τ:aB},Row w j cs τ->τ≠cc->¬j=y.x:=λhr' ht e=>hr'.ne hr ht e
 have hpx:DI (its.set i y')=DI its:=by
  unfold DI;rw[pM,hx];apply jF;intro j;rw[iS];split
  next e=>subst e;rw[if_pos a0I,aW,hi];rfl
  ·rfl
 have hmx:(its.set i y').map (·.x)=its.map (·.x):=by
  rw[pM,hx];apply jF;intro j;rw[iS];split
  next e=>subst e;rw[if_pos a0I,aW,hi];rfl
  ·rfl
 have hmg:(its.set i y').map (·.g)=its.map (·.g):=by
  rw[pM,hg];apply jF;intro j;rw[iS];split
  next e=>subst e;rw[if_pos a0I,aW,hi];rfl
  ·rfl
 refine⟨hm.row h.rt (off h.rt X),h.so.aV hm (λhr' hτ=>by rcases hτ with rfl|rfl|rfl|rfl<;>exact off hr' X) (λhmp e=>hr.fH hmp e.symm),?_,λz hz=>?_,by rw[hmx];exact h.dx,by rw[hmg];exact h.dg,h.W8,by rw[lO];exact h.len⟩
 ·rw[hpx];exact hm.gR h.ol λb hb=>by have⟨cs',hr'⟩:=aT h.ol X hb;exact off hr' X
 ·have⟨j,hj⟩:=yY hz;rw[iS]at hj;split at hj
  ·cases hj;exact hy
  ·rename_i gl;have hzj:=h.it z (aQ hj);refine hzj.aV hm (λe=>?_) (off hzj.k.row X) (λb hb=>?_)
   ·
    have h1:(its.map (·.x))[i]? =some y.x:=by rw[aW,hi];rfl
    have h2:(its.map (·.x))[j]? =some z.x:=by rw[aW,hj];rfl
    have hjl:=(cG.1 hj).1;rw[e,<-h1]at h2;exact gl ((List.getElem?_inj (by rw[aK];exact hjl) h.dx).1 h2).symm
   ·have⟨cs',hr'⟩:=aT hzj.k.own X hb;exact off hr' X
def FU(hi:its[i]? =some y)(hx:y'.x=y.x)(hg:y'.g=y.g)(hs:y'.s=y.s):∀j,aw t st d r sl (its.set i y') j->aw t st d r sl its j:=by
 rintro j (e|e|e|e|e|⟨z,hz,e⟩)
 ·exact .inl e
 ·exact .inr (.inl e)
 ·exact .inr (.inr (.inl e))
 ·exact .inr (.inr (.inr (.inl e)))
 ·exact .inr (.inr (.inr (.inr (.inl e))))
 ·rcases pY hz with hz|hz
  ·exact .inr (.inr (.inr (.inr (.inr ⟨z,hz,e⟩))))
  ·subst hz;rw[hx,hg,hs]at e;exact .inr (.inr (.inr (.inr (.inr ⟨y,aQ hi,e⟩))))
abbrev En:=Po×ab×aX×Int
def It.ob(i:It):En:=(i.p,i.C,i.o5,i.pins)
abbrev eA(its:List It):List En:=its.map It.ob
def vA(its:List It)(i:Nat):eA (its.eraseIdx i)=(eA its).eraseIdx i:=by unfold eA;rw[W9,W9,cl,List.map_take,List.map_drop]
def mY(its:List It)(p:Po):bK (λe:En=>e.1==p) (eA its)=bK (λi:It=>i.p==p) its:=me It.ob _ its
def Xa(hi:its[i]? =some y){f:En->En}(hf:y'.ob=f y.ob):eA (its.set i y')=(eA its).modify i f:=by
 unfold eA;rw[pM];apply jF;intro j;rw[iS,CR,aK];have OW:=(cG.1 hi).1;split
 next e=>subst e;rw[aW,hi];simp[hf]
 ·rename_i e;rw[aW]
  cases its[j]? with
  |none=>rfl
  |some z=>simp[e]
abbrev Tb:=Dk×List En
def cD(D:Dk)(e:En):Dk×En×Int:=
 if e.2.2.1=true then((tJ D (Bk e.1) (r6 (iC e.2.1))).1,(e.1,e.2.1,decide ((tJ D (Bk e.1) (r6 (iC e.2.1))).2≠0),e.2.2.2),(tJ D (Bk e.1) (r6 (iC e.2.1))).2)else(D,e,0)
def C_(D:Dk)(l:List En)(i:Nat):Tb×Int:=
 match l[i]? with
 |none=>((D,l),0)
 |some e=>if(cD D e).2.2=0 then(((cD D e).1,l.eraseIdx i),0)else(((cD D e).1,l.set i (cD D e).2.1),(cD D e).2.2)
def fU(limit:Int)(D:Dk)(l:List En):Tb×Int:=
 if(l.length:Int)<limit then((D,l),0)else if bK (λe:En=>e.2.2.2==0) l<0 then((D,l),8)else C_ D l (bK (λe:En=>e.2.2.2==0) l).toNat
def TO.adk{j:Nat}{cs:LV}{τ:aB}(hr:Row w j cs τ)(h1:τ≠tg)(h2:τ≠tW):¬(j=d\/r.ls.D=some j):=by
 rintro(e|e)
 ·exact hr.ne h.so.dk.rd h1 e
 ·have⟨cs',hr'⟩:=aT h.so.dk.ol X e;exact hr.ne hr' h2 rfl
variable{r':Dm}
def TO.store{D':Dk}(hm:Mod (λi=>i=d\/r.ls.D=some i) w w')(hs:SO w' st d r' D'):TO w' t st d r' sl D' aj limit its:=by
 refine⟨hm.row h.rt (h.adk h.rt X X),hs,hm.gR h.ol λb hb=>?_,λy hy=>?_,h.dx,h.dg,h.W8,h.len⟩
 ·have⟨cs',hr'⟩:=aT h.ol X hb;exact h.adk hr' X X
 ·have hy':=h.it y hy;refine hy'.aV hm (h.adk hy'.r X X) (h.adk hy'.k.row X X) λb hb=>?_
  have⟨cs',hr'⟩:=aT hy'.k.own X hb;exact h.adk hr' X X
def FV{n:Nat}(hs:∀i,dF d r' i->dF d r i\/n<=i):∀i,aw t st d r' sl its i->aw t st d r sl its i\/n<=i:=by
 rintro i (e|e|e|e|e|e)
 ·exact .inl (.inl e)
 ·exact .inl (.inr (.inl e))
 ·exact a0Y
 ·rcases hs i (.inr e)with q|q
  ·rcases q with q|q
   ·exact .inl (.inr (.inr (.inl q)))
   ·exact .inl (.inr (.inr (.inr (.inl q))))
  ·exact .inr q
 ·exact a0V
 ·exact .inl (.inr (.inr (.inr (.inr (.inr e)))))
def Mh:∀i,(i=d\/r.ls.D=some i)->aw t st d r sl its i:=by
 rintro i (e|e)
 ·exact .inr (.inr (.inl e))
 ·exact .inr (.inr (.inr (.inl (.inr (.inl e)))))
variable{C:ab}
def ahY:mJ (r6 (iC C)):=amh _
def ami(hl:C.length=8192):(r6 (iC C)).length<=65536:=by have h1:=Xb (iC C);have h2:=sa C;omega
def vB(hW:D.l.length<=1000000)(hi:its[i]? =some y): Y 164 #[t,.pointer (some ⟨y.x,0,none⟩)] w λe w'=>e=S (cD D y.ob).2.2/\∃r' y',TO w' t st d r' sl (cD D y.ob).1 aj limit (its.set i y')/\y'.ob=(cD D y.ob).2.1/\aJ (aw t st d r sl its) (aw t st d r' sl (its.set i y')) w w':=by
 apply BE.B;have Jr:=aQ hi;have hy:=h.it y Jr;have oD:its.set i y=its:=by have⟨hl,he⟩:=cG.1 hi;rw[<-he];exact List.set_getElem_self hl
 refine⟨_,hy.r.at 1 rfl,Z.mk (λhb=>?_) (λhb=>?_)⟩
 ·have hd:y.o5=false:=by simpa using hb
  have e:cD D y.ob=(D,y.ob,0):=by unfold cD;rw[if_neg (by show ¬y.o5=true;rw[hd];decide)]
  rw[e];exact⟨rfl,r,y,by rw[oD];exact h,rfl,by rw[oD];exact aJ.refl _ _⟩
 ·have hd:y.o5=true:=by simpa using hb
  have e:cD D y.ob=((tJ D (Bk y.p) (r6 (iC y.C))).1,(y.p,y.C,decide ((tJ D (Bk y.p) (r6 (iC y.C))).2≠0),y.pins),(tJ D (Bk y.p) (r6 (iC y.C))).2):=by unfold cD;rw[if_pos (by show y.o5=true;exact hd)];rfl
  rw[e];refine⟨_,hy.r.at 0 rfl,sb (sb ⟨_,_,hy.k.pos,(xF y.p w).F λw4 x4=>?_⟩)⟩;refine⟨_,_,rfl,(Xc y.p w4).F λw7 x7=>?_⟩;have x07:=(x4.A x7).A (Ext.K w7);have h7:=h.ext x07;have hy7:=h7.it y Jr;refine⟨_,_,rfl,_,h7.rt.at 0 rfl,_,hy7.r.at 0 rfl,(Uq hy7.k).mono ?_⟩;rintro e bN ⟨kP,rfl,o13,cr⟩;have H7:=x07.A cr;have wy:=h.ext H7;have hk:=hy.k;refine⟨kP,rfl,FW (wy.rt.at 0 rfl),(C0 wy.so hW (Bk y.p) kP (r6 (iC y.C)) (nY.FC o13) ahY (cV (ami hk.len) X)).mono ?_⟩;rintro e cp ⟨rfl,r',anz,m14,f14,-⟩;have h14:=wy.store m14 anz;have Bc:=h14.it y Jr;have⟨p1,p2⟩:=Bc.r.ft (j:=1) (v:=.bool ((tJ D (Bk y.p) (r6 (iC y.C))).2 !=0)) bo rfl;refine⟨_,rfl,⟨rfl,p1⟩,λbZ CH=>?_⟩;have⟨q1,q2⟩:=p2 bZ CH;have yQ:((tJ D (Bk y.p) (r6 (iC y.C))).2 !=0)=decide ((tJ D (Bk y.p) (r6 (iC y.C))).2≠0):=by rw[Bool.eq_iff_iff];simp
  rw[yQ]at q1;have hy':tM bZ {y with o5:=decide ((tJ D (Bk y.p) (r6 (iC y.C))).2≠0)}:=⟨q1,Bc.k.aV q2 (λe=>Bc.k.row.ne Bc.r X e) λb hb=>a1i⟩;have z12:=H7.size;have z14:=m14.size;refine⟨rfl,r',{y with o5:=decide ((tJ D (Bk y.p) (r6 (iC y.C))).2≠0)},h14.put hi rfl rfl q2 hy',rfl,?_⟩;have t1:aJ (aw t st d r sl its) (aw t st d r' sl its) bN cp:=⟨m14.mono λi _ hi=>Mh i hi,FV f14⟩;have t2:aJ (aw t st d r' sl its) (aw t st d r' sl (its.set i {y with o5:=decide ((tJ D (Bk y.p) (r6 (iC y.C))).2≠0)})) cp bZ:=⟨q2.mono λj _ hj=>.inr (.inr (.inr (.inr (.inr ⟨y,Jr,.inl hj⟩)))),λj hj=>.inl (FU (y':={y with o5:=decide ((tJ D (Bk y.p) (r6 (iC y.C))).2≠0)}) hi rfl rfl rfl j hj)⟩;exact(aJ.P H7).trans (t1.trans t2)
end
abbrev qe(w:au)(t st d:Nat)(r:Dm)(sl:H)(aj limit:Int)(its:List It)(T:Tb)(w':au):Prop:=
 ∃r' sl' its',TO w' t st d r' sl' T.1 aj limit its'/\eA its'=T.2/\aJ (aw t st d r sl its) (aw t st d r' sl' its') w w'
section
variable{its:List It}{i:Nat}
def M6{y:It}(h:its[i]? =some y):(eA its)[i]? =some y.ob:=by rw[aW,h];rfl
variable{e:En}
def EV{y':It}(h:y'.ob=e):eA (its.set i y')=(eA its).set i e:=by unfold eA;rw[pM,h]
variable{D:Dk}
def adY{l:List En}(h:l[i]? =some e):C_ D l i=if(cD D e).2.2=0 then(((cD D e).1,l.eraseIdx i),0)else(((cD D e).1,l.set i (cD D e).2.1),(cD D e).2.2):=by unfold C_;rw[h]
variable{w:au}{t st d:Nat}{r:Dm}{sl:H}
def QF{w':au}{sl':H}{its':List It}(hm:Mod (O_ t sl) w w')(hb:∀b,sl'.D=some b->sl.D=some b\/w<=b)(hs:∀y∈its',y∈its):aJ (aw t st d r sl its) (aw t st d r sl' its') w w':=
 ⟨hm.mono λi _ hi=>zZ i hi,Gy hb λy hy=>.inl (hs y hy)⟩
variable{aj limit:Int}(h:TO w t st d r sl D aj limit its)
def ZG(hW:D.l.length<=1000000): Y 160 #[t] w λe w'=>e=S (fU limit D (eA its)).2/\qe w t st d r sl aj limit its (fU limit D (eA its)).1 w'/\((fU limit D (eA its)).2=0->((fU limit D (eA its)).1.2.length:Int)+1<=limit):=by
 apply BQ.B;have hd:=h.ext (Ext.K w);have hn:=h.n;have hol:(eA its).length=its.length:=by rw[aK]
 have cX:=h.len;have agM:=h.W8;refine⟨sl,hd.rt.at 3 rfl,limit,hd.rt.at 2 rfl,Z.mk (λhb=>?_) (λhb=>?_)⟩
 ·replace hb:=lM hb;have e:fU limit D (eA its)=((D,eA its),0):=by unfold fU;rw[if_pos U]
  rw[e];exact⟨rfl,⟨r,sl,its,hd,rfl,aJ.P (Ext.K w)⟩,λ_=>hX⟩
 ·replace hb:=lW hb;refine⟨sl,hd.rt.at 3 rfl,(uS sl its (·.x) _ (λi=>i.pins==0) w.drew (hd.ol.rd X) U ?_).mono ?_⟩
  ·intro y hy w' x';refine bR (by kernel_rfl) (by rfl) ?_;apply xM.B;have hy':=(hd.it y hy).ext x';exact⟨_,hy'.r.at 2 rfl,rfl,Ext.M _⟩
  ·rintro e w3 ⟨rfl,x3⟩;have h3:=hd.ext x3;have hfm:bK (λe:En=>e.2.2.2==0) (eA its)=bK (λi:It=>i.pins==0) its:=me It.ob _ its;have OL:Ext w w3:=(Ext.K w).A x3;refine⟨_,rfl,Z.mk (λlk=>?_) (λlk=>?_)⟩
   ·replace lk:=lM lk;have e:fU limit D (eA its)=((D,eA its),8):=by unfold fU;rw[if_neg U,if_pos U]
    rw[e];exact⟨rfl,⟨r,sl,its,h3,rfl,aJ.P OL⟩,λh=>by simp at h⟩
   ·replace lk:=lW lk;rcases dm (λi:It=>i.pins==0) its with⟨h1,-⟩|⟨k,y,hk,-,hfk,-⟩
    ·omega
    ·have e:fU limit D (eA its)=C_ D (eA its) k:=by unfold fU;rw[if_neg U,if_neg U,hfm,hfk];rfl
     rw[hfk,e,adY (M6 hk)];have⟨a1,a2⟩:=h3.at hk;have Yv:=(cG.1 hk).1;refine⟨sl,h3.rt.at 3 rfl,a1,_,a2,(vB h3 hW hk).mono ?_⟩;rintro e w7 ⟨rfl,r',y',h7,Ow,t7⟩;refine⟨_,rfl,Z.mk (λhz=>?_) (λhz=>?_)⟩
     ·have hz:=eK hz;have hk':(its.set k y')[k]? =some y':=uA Yv;refine(Gz h7 hk').mono ?_;rintro e w9 ⟨rfl,sl',h9,m9,b9⟩;rw[List.eraseIdx_set_eq]at h9;refine⟨_,rfl,?_⟩;rw[if_pos hz];refine⟨by rw[hz],⟨r',sl',_,h9,vA _ _,(aJ.P OL).trans (t7.trans (QF m9 b9 λz hz=>?_))⟩,λ_=>?_⟩
      ·rw[<-List.eraseIdx_set_eq (l:=its) (i:=k) (a:=y')]at hz;exact(GA ..).subset hz
      ·simp only[List.length_eraseIdx];split<;>omega
     ·have hz:=eK hz;rw[if_neg hz];exact⟨rfl,⟨r',sl,_,h7,EV Ow,(aJ.P OL).trans t7⟩,λq=>absurd q hz⟩
def Am(D:Dk)(e:En):(cD D e).1.l.length<=D.l.length+1:=by
 unfold cD;split
 ·exact acX _ _ _
 ·exact lN _
def aqW(D:Dk)(l:List En)(i:Nat):(C_ D l i).1.1.l.length<=D.l.length+1:=by
 unfold C_;split
 ·exact lN _
 ·split<;>exact Am _ _
def aij(limit:Int)(D:Dk)(l:List En):(fU limit D l).1.1.l.length<=D.l.length+1:=by
 unfold fU;split
 ·exact lN _
 ·split
  ·exact lN _
  ·exact aqW _ _ _
variable{p:Po}
def aik(h:EP p):YP p:=by unfold EP at h;unfold YP;omega
def xQ(aj:Int)(p:Po)(b:ab):ab:=if(j6 cN b 8192).2=0 then cm (j6 cN b 8192).1 else made aj p
def yO(aj limit:Int)(D:Dk)(l:List En)(p:Po):Tb×Int:=
 if ¬EP p then((D,l),5)
 else if 0<=bK (λe:En=>e.1==p) l then((D,l.eraseIdx (bK (λe:En=>e.1==p) l).toNat++l[(bK (λe:En=>e.1==p) l).toNat]?.toList),0)
 else if(fU limit D l).2≠0 then fU limit D l
 else(((fU limit D l).1.1,(fU limit D l).1.2++[(p,xQ aj p (pU (fU limit D l).1.1 (Bk p)).1,false,0)]),0)
def gW{v:au}(h:TO v t st d r sl D aj limit its)(hw:w.heap.size<v.heap.size)(hwf:¬aw t st d r sl its w)(htw:t<w)(hr:(its.length:Int)+1<=limit){g:Nat}{s:H}{C:ab}(hk:Ja v g s p C)(hg:g∉its.map (·.g))(u:au)(hn:u.heap.size<=v.heap.size)(hgn:u.heap.size<=g)(tE:∀b,s.D=some b->u.heap.size<=b) {K:k_}(hK:∀w',(∃s' y,TO w' t st d r s' D aj limit (its++[y])/\y.ob=(p,C,false,0)/\(∀i,aw t st d r s' (its++[y]) i->aw t st d r sl its i\/u.heap.size<=i)/\Mod (aw t st d r sl its) v w')->K w'): ∃(Tx:H),ld v (N (O t) 3)=some (.slice Tx.a Tx.n Tx.c)/\∀dh:au,dh=v.alloc (.cells #[g,false,J] cc)->∀jE:au,jE=dh.alloc (.cells #[v] F_)->bj 8 1 jE ⟨Tx.a,Tx.n,Tx.c⟩ 1 [v]/\∀(yU:H)(dL:au),aY F_ 1 jE ⟨Tx.a,Tx.n,Tx.c⟩ 1 [v] yU dL->dL.heap[w.heap.size]? =jE.heap[w.heap.size]?/\dL.heap[dh.heap.size]? =jE.heap[dh.heap.size]?/\(true=true/\Wr dL (N (O t) 3) 1)/\bM (N (O t) 3)≠some w.heap.size/\bM (N (O t) 3)≠some dh.heap.size/\(∀kN:au,kN=bB dL (N (O t) 3) [.slice yU.a yU.n yU.c]->K kN):=by
 refine⟨sl,h.rt.at 3 rfl,λdh Dy jE e23=>?_⟩;have fX:=aU Dy;have iB:=aU e23;have z22:=fD Dy;have z23:jE.heap.size=v.heap.size+2:=by rw[e23];simp[z22]
 have hy:tM jE ⟨v,g,s,p,C,false,0⟩:=⟨(by rw[Dy];exact Row.new v [_,_,_] _:Row dh v [g,false,J] cc).ext iB,(hk.ext fX).ext iB⟩;have h23:=(h.ext fX).ext iB;have hxn:v.heap.size∉its.map (·.x):=λhm=>by have⟨z,hz,e⟩:=bc.1 hm;have:=(h.it z hz).r.lt;omega
 have⟨hp,bq⟩:=h23.push _ hy hxn hg hr;refine⟨hp,λyU dL aj0=>?_⟩;have⟨m25,p1,p2⟩:=bq yU dL aj0;have pb:∀j:Nat,t<j->bM (N (O t) 3)≠some j:=λj hj e=>by
  rw[cB]at e;have:t=j:=a0s
  omega
 have htl:=h.rt.lt;refine⟨m25.same _ U λe=>hwf (.inr (.inr (.inr (.inr (.inl e))))),m25.same _ U λe=>a1N ((h.ol.own.lt e).2),⟨rfl,p1⟩,pb _ htw,pb _ U,λkN TB=>hK kN ⟨yU,⟨v,g,s,p,C,false,0⟩,?_,rfl,?_,?_⟩⟩
 ·exact(p2 kN TB).1
 ·obtain⟨-,q2,q3⟩:=p2 kN TB;rintro i hi;exact Gy (w:=u) (sl:=sl) (its:=its) (λb hb=>(q3 b hb).imp id λe=>by omega) (λz hz=>by
   rcases dp.1 hz with hz|hz
   ·exact .inl hz
   ·simp at hz;subst hz;exact .inr ⟨hn,hgn,tE⟩) i hi
 ·obtain⟨-,q2,q3⟩:=p2 kN TB;exact(Mod.P (fX.A iB)).trans (q2.mono λi _ hi=>zZ i hi)
def ZH(hW:D.l.length<=1000000)(p:Po): Y 88 #[t,pv p] w λe w'=>e=S (yO aj limit D (eA its) p).2/\qe w t st d r sl aj limit its (yO aj limit D (eA its) p).1 w':=by
 apply BO.B;intro w0 e0;have z0:=fD e0;have x0:=aU e0;refine(Xc p w0).F λw1 x1=>?_
 have z1:=x1.size;have lq:=x0.A x1;refine⟨_,_,rfl,x1.k,?_⟩;by_cases px:EP p
 ·rw[decide_eq_true px];refine Z.mk (λh=>by cases h) (λ_=>?_);have h1:=h.ext lq;refine(find_spec h1 p).F λw4 x4=>?_
  have z4:=x4.size;have E9:=lq.A x4;have h4:=h.ext E9;have hfm:bK (λe:En=>e.1==p) (eA its)=bK (λi:It=>i.p==p) its:=me It.ob _ its;have bx:¬aw t st d r sl its w:=λhf=>a0o
  refine⟨_,rfl,x4.k,?_⟩;rcases dm (λi:It=>i.p==p) its with⟨hf,-⟩|⟨k,y,hk,-,hf,-⟩
  ·rw[hf];refine Z.mk (λh=>by simp at h) (λ_=>?_);have hE:yO aj limit D (eA its) p=if(fU limit D (eA its)).2≠0 then fU limit D (eA its)else(((fU limit D (eA its)).1.1,(fU limit D (eA its)).1.2++[(p,xQ aj p (pU (fU limit D (eA its)).1.1 (Bk p)).1,false,0)]),0):=by unfold yO;rw[if_neg (ds px),hfm,hf,if_neg X]
   rw[hE];refine(ZG h4 hW).mono ?_;rintro e w8 ⟨rfl,⟨r8,sl8,its8,h8,KZ,t8⟩,hl8⟩;have hWl:((fU limit D (eA its)).1.1).l.length<=1000001:=a1N (aij limit D (eA its))
   generalize fU limit D (eA its)=R at*;have z8:=t8.mod.size;have t08:aJ (aw t st d r sl its) (aw t st d r8 sl8 its8) w w8:=(aJ.P E9).trans t8;refine⟨_,rfl,t8.mod.same _ U bx,Z.mk (λhb=>?_) (λhb=>?_)⟩
   ·have gl:=eK hb;rw[if_pos gl];exact⟨rfl,r8,sl8,its8,h8,KZ,t08⟩
   ·have he:=eK hb;rw[if_neg (by rw[he];decide)];have hroom:=hl8 he;rw[<-KZ,aK]at hroom;refine⟨_,h8.rt.at 0 rfl,(Db h8.so U _).mono ?_⟩;rintro e bE ⟨qo,rfl,agO,WE,kQ,hsc,-,bS⟩;have z11:=bS.size;have bx8:¬aw t st d r8 sl8 its8 w:=λhf=>by
     rcases t8.sub _ hf with q|q
     ·exact bx q
     ·have:=E9.size;omega
    refine⟨qo,_,_,rfl,bS.k,?_⟩;refine(ZI p qo (pU R.1.1 (Bk p)).1 bE agO WE hsc U).mono ?_;rintro e c9 ⟨bq,dn⟩;have z15:=dn.size;have htw:=h.rt.lt;have fin:∀{w' v:au}{C:ab},Ext w8 v->(∃s' y,TO w' t st d r8 s' R.1.1 aj limit (its8++[y])/\y.ob=(p,C,false,0)/\(∀i,aw t st d r8 s' (its8++[y]) i->aw t st d r8 sl8 its8 i\/w8.heap.size<=i)/\Mod (aw t st d r8 sl8 its8) v w')->C=xQ aj p (pU R.1.1 (Bk p)).1->
      Sl (0:Int)=(0:Int)/\qe w t st d r sl aj limit its (R.1.1,R.1.2++[(p,xQ aj p (pU R.1.1 (Bk p)).1,false,0)]) w':=by
     rintro w' v C xv ⟨s',y,hT,Ow,dP,hm⟩ rfl;refine⟨rfl,r8,s',_,hT,?_,t08.trans ⟨(Mod.P xv).trans hm,dP⟩⟩;unfold eA;rw[cl];change eA its8++[y.ob]=_;rw[KZ,Ow]
    rcases bq with⟨hz,g,sg,rfl,hk,hg,-,hgb⟩|⟨hz,rfl⟩
    ·refine⟨_,_,rfl,dn.k,Z.mk (λq=>by simp at q) (λ_=>?_)⟩;have agP:=bS.A dn;have h15:=h8.ext agP;have hgn:g∉its8.map (·.g):=λhm=>by have⟨z,hz,e⟩:=bc.1 hm;have:=(h8.it z hz).k.row.lt;omega
     refine gW (w:=w) h15 U bx8 htw hroom hk hgn w8 U U (λb hb=>a1N (hgb b hb)) λw' hw'=>fin agP hw' ?_
     unfold xQ;rw[if_pos hz]
    ·refine⟨_,_,rfl,dn.k,Z.mk (λ_=>?_) (λq=>by simp at q;exact absurd q hz)⟩;have agP:=bS.A dn.drew;have h15:=h8.ext agP;refine⟨aj,h15.rt.at 1 rfl,(U0 aj p (aik px) c9.drew).mono ?_⟩;rintro e fm ⟨g,sg,rfl,hk,dQ,hg,TT⟩;have z19:=dQ.size;have zd:=nV c9;have h19:=h15.ext dQ;have hgn:g∉its8.map (·.g):=λhm=>by have⟨z,hz,e⟩:=bc.1 hm;have:=(h15.it z hz).k.row.lt;omega
     refine⟨_,rfl,dQ.k,gW (w:=w) h19 U bx8 htw hroom hk hgn w8 U U (λb hb=>a1N (TT b hb)) λw' hw'=>fin (agP.A dQ) hw' ?_⟩;unfold xQ;rw[if_neg hz]
  ·rw[hf];refine Z.mk (λ_=>?_) (λh=>by simp at h);have hE:yO aj limit D (eA its) p=((D,(eA its).eraseIdx k++[y.ob]),0):=by unfold yO;rw[if_neg (ds px),hfm,hf,if_pos U,iI,aW,hk];rfl
   rw[hE];refine(GD h4 hk).mono ?_;rintro e w6 ⟨rfl,sl6,h6,t6⟩;have z6:=t6.mod.size;refine⟨_,rfl,t6.mod.same _ U bx,rfl,r,sl6,_,h6,?_,(aJ.P E9).trans t6⟩;unfold eA;rw[cl];change eA _++_=_;rw[vA];rfl
 ·rw[decide_eq_false px];refine Z.mk (λ_=>?_) (λh=>by cases h);have hE:yO aj limit D (eA its) p=((D,eA its),5):=by unfold yO;rw[if_pos px]
  rw[hE];exact⟨rfl,r,sl,its,h.ext lq,rfl,aJ.P lq⟩
end
section
variable{b:aX}{A B:Prop}
def yes(hb:b=true)(h:A):Z b A B:=a1F
def uN(hb:b=false)(h:B):Z b A B:=a1F
def It.Q_(y:It)(n:Int):It:={y with pins:=y.pins+n}
def zq(l:List En)(p:Po):List En×Int:=
 if 0<=bK (λe:En=>e.1==p) l then(l.modify (bK (λe:En=>e.1==p) l).toNat λe=>(e.1,e.2.1,e.2.2.1,e.2.2.2+1),0)else(l,6)
def kY(l:List En)(p:Po):List En×Int:=
 if 0<=bK (λe:En=>e.1==p) l then
  (if(l[(bK (λe:En=>e.1==p) l).toNat]?.map (·.2.2.2))=some 0 then(l,1)else(l.modify (bK (λe:En=>e.1==p) l).toNat λe=>(e.1,e.2.1,e.2.2.1,e.2.2.2-1),0))else(l,6)
variable{w:au}{t st d:Nat}{r:Dm}{sl:H}{D:Dk}{aj limit:Int}{its:List It}(h:TO w t st d r sl D aj limit its)
def ac7(hp:∀y∈its,-1000000000<=y.pins/\y.pins<=1000000000)(p:Po): Y 91 #[t,pv p] w λe w'=>e=S (zq (eA its) p).2/\qe w t st d r sl aj limit its (D,(zq (eA its) p).1) w':=by
 apply D8.B;intro w0 e0;have z0:=fD e0;have x0:=aU e0;have h0:=h.ext x0;refine(find_spec h0 p).F λw1 x1=>?_
 have z1:=x1.size;have lq:=x0.A x1;have h1:=h.ext lq;refine⟨_,rfl,x1.k,?_⟩;rcases dm (λi:It=>i.p==p) its with⟨hf,-⟩|⟨k,y,hk,-,hf,-⟩
 ·have hE:zq (eA its) p=(eA its,6):=by unfold zq;rw[mY,hf,if_neg X]
  rw[hf,hE];exact Z.mk (λ_=>⟨rfl,r,sl,its,h1,rfl,aJ.P lq⟩) (λh=>by simp at h)
 ·have hE:zq (eA its) p=((eA its).modify k λe=>(e.1,e.2.1,e.2.2.1,e.2.2.2+1),0):=by unfold zq;rw[mY,hf,if_pos U];rfl
  rw[hf,hE];refine Z.mk (λh=>a0d) (λ_=>?_);have Jr:=aQ hk;have hy:=h1.it y Jr;have⟨a1,a2⟩:=h1.at hk;have hpy:=hp y Jr;have hwp:=aL (n:=y.pins+1) j_;have⟨p1,p2⟩:=hy.r.ft (j:=2) (v:=S (y.pins+1)) bo rfl;refine⟨sl,h1.rt.at 3 rfl,a1,_,a2,sb (sb ⟨y.pins,hy.r.at 2 rfl,sb (sb ⟨⟨by rw[aF];rfl,p1⟩,?_,λw6 e6=>?_⟩)⟩)⟩
  ·intro e;rw[cB]at e;have:y.x=w:=by simpa[bM]using e
   have:=(h.it y Jr).r.lt;omega
  ·rw[hwp]at e6;have⟨q1,q2⟩:=p2 w6 e6;have hy':tM w6 (y.Q_ 1):=⟨q1,hy.k.aV q2 (λe=>hy.k.row.ne hy.r X e) λb hb=>a1h⟩;refine⟨rfl,r,sl,its.set k (y.Q_ 1),h1.put hk rfl rfl q2 hy',Xa hk rfl,⟨?_,λj hj=>.inl (FU (y':=y.Q_ 1) hk rfl rfl rfl j hj)⟩⟩;exact(Mod.P lq).trans (q2.mono λj _ hj=>.inr (.inr (.inr (.inr (.inr ⟨y,Jr,.inl hj⟩)))))
def Ue(hp:∀y∈its,-1000000000<=y.pins/\y.pins<=1000000000)(p:Po): Y 92 #[t,pv p] w λe w'=>e=S (kY (eA its) p).2/\qe w t st d r sl aj limit its (D,(kY (eA its) p).1) w':=by
 apply Az.B;intro w0 e0;have z0:=fD e0;have x0:=aU e0;have h0:=h.ext x0;refine(find_spec h0 p).F λw1 x1=>?_
 have z1:=x1.size;have lq:=x0.A x1;have h1:=h.ext lq;refine⟨_,rfl,x1.k,?_⟩;rcases dm (λi:It=>i.p==p) its with⟨hf,-⟩|⟨k,y,hk,-,hf,-⟩
 ·have hE:kY (eA its) p=(eA its,6):=by unfold kY;rw[mY,hf,if_neg X]
  rw[hf,hE];exact Z.mk (λ_=>⟨rfl,r,sl,its,h1,rfl,aJ.P lq⟩) (λh=>by simp at h)
 ·have Ow:(eA its)[k]?.map (·.2.2.2)=some y.pins:=by rw[aW,hk];rfl
  have hE:kY (eA its) p=if y.pins=0 then(eA its,1)else((eA its).modify k λe=>(e.1,e.2.1,e.2.2.1,e.2.2.2-1),0):=by unfold kY;rw[mY,hf,if_pos U,iI,Ow];simp
  rw[hf,hE];refine Z.mk (λh=>a0d) (λ_=>?_);have Jr:=aQ hk;have hy:=h1.it y Jr;have⟨a1,a2⟩:=h1.at hk;have hpy:=hp y Jr;refine⟨sl,h1.rt.at 3 rfl,a1,_,a2,sb (sb ⟨y.pins,hy.r.at 2 rfl,Z.mk (λhb=>?_) (λhb=>?_)⟩)⟩
  ·exact a1z
  ·have hz:=eK hb;have hwp:=aL (n:=y.pins-1) j_;rw[if_neg hz];have⟨p1,p2⟩:=hy.r.ft (j:=2) (v:=S (y.pins-1)) bo rfl;refine⟨sl,h1.rt.at 3 rfl,a1,_,a2,sb (sb ⟨y.pins,hy.r.at 2 rfl,sb (sb ⟨⟨by rw[aF];rfl,p1⟩,?_,λw6 e6=>?_⟩)⟩)⟩
   ·intro e;rw[cB]at e;have:y.x=w:=by simpa[bM]using e
    have:=(h.it y Jr).r.lt;omega
   ·rw[hwp]at e6;have⟨q1,q2⟩:=p2 w6 e6;have hy':tM w6 (y.Q_ (-1)):=⟨q1,hy.k.aV q2 (λe=>hy.k.row.ne hy.r X e) λb hb=>a1h⟩;refine⟨rfl,r,sl,its.set k (y.Q_ (-1)),h1.put hk rfl rfl q2 hy',Xa hk rfl,⟨?_,λj hj=>.inl (FU (y':=y.Q_ (-1)) hk rfl rfl rfl j hj)⟩⟩;exact(Mod.P lq).trans (q2.mono λj _ hj=>.inr (.inr (.inr (.inr (.inr ⟨y,Jr,.inl hj⟩)))))
def oa(D:Dk)(l:List En)(p:Po):Tb×Int:=
 if 0<=bK (λe:En=>e.1==p) l then
  (if 0<(l[(bK (λe:En=>e.1==p) l).toNat]?.map (·.2.2.2)).getD 0 then((D,l),10)else C_ D l (bK (λe:En=>e.1==p) l).toNat)else((D,l),6)
def QU(hW:D.l.length<=1000000)(p:Po): Y 89 #[t,pv p] w λe w'=>e=S (oa D (eA its) p).2/\qe w t st d r sl aj limit its (oa D (eA its) p).1 w':=by
 apply xN.B;intro w0 e0;have z0:=fD e0;have x0:=aU e0;have h0:=h.ext x0;refine(find_spec h0 p).F λw1 x1=>?_
 have z1:=x1.size;have lq:=x0.A x1;have h1:=h.ext lq;have bx:¬aw t st d r sl its w:=λhf=>a0o
 refine⟨_,rfl,x1.k,?_⟩;rcases dm (λi:It=>i.p==p) its with⟨hf,-⟩|⟨k,y,hk,hyp,hf,-⟩
 ·have hE:oa D (eA its) p=((D,eA its),6):=by unfold oa;rw[mY,hf,if_neg X]
  rw[hf,hE];exact Z.mk (λ_=>⟨rfl,r,sl,its,h1,rfl,aJ.P lq⟩) (λh=>by simp at h)
 ·have Ow:(eA its)[k]?.map (·.2.2.2)=some y.pins:=by rw[aW,hk];rfl
  have hE:oa D (eA its) p=if 0<y.pins then((D,eA its),10)else C_ D (eA its) k:=by unfold oa;rw[mY,hf,if_pos U,iI,Ow];rfl
  rw[hf,hE];refine Z.mk (λh=>a0d) (λ_=>?_);have Jr:=aQ hk;have hy:=h1.it y Jr;have Yv:=(cG.1 hk).1;have⟨a1,a2⟩:=h1.at hk;refine⟨sl,h1.rt.at 3 rfl,a1,_,a2,sb (sb ⟨y.pins,hy.r.at 2 rfl,Z.mk (λhb=>?_) (λhb=>?_)⟩)⟩
  ·exact a1z
  ·have hz:=eK hb;rw[if_neg hz,adY (M6 hk)];refine⟨sl,h1.rt.at 3 rfl,a1,_,a2,(vB h1 hW hk).mono ?_⟩;rintro e w8 ⟨rfl,r',y',h8,hob8,t8⟩;have z8:=t8.mod.size;refine⟨_,rfl,t8.mod.same _ U bx,Z.mk (λhz=>?_) (λhz=>?_)⟩
   ·have hz:=eK hz;have hk':(its.set k y')[k]? =some y':=uA Yv;refine(Gz h8 hk').mono ?_;rintro e w9 ⟨rfl,sl',h9,m9,b9⟩;rw[List.eraseIdx_set_eq]at h9;have bx8:¬O_ t sl w:=λq=>bx (zZ _ q)
    refine⟨_,rfl,m9.same _ U bx8,?_⟩;rw[if_pos hz];refine⟨by rw[hz],r',sl',_,h9,vA _ _,(aJ.P lq).trans (t8.trans (QF m9 b9 λz hz=>?_))⟩;rw[<-List.eraseIdx_set_eq (l:=its) (i:=k) (a:=y')]at hz;exact(GA ..).subset hz
   ·have hz:=eK hz;rw[if_neg hz];exact⟨rfl,r',sl,_,h8,EV hob8,(aJ.P lq).trans t8⟩
def TK(D:Dk)(l:List En)(p:Po):Tb×Int:=
 if 0<=bK (λe:En=>e.1==p) l then
  match l[(bK (λe:En=>e.1==p) l).toNat]? with
  |some e=>(((cD D e).1,l.set (bK (λe:En=>e.1==p) l).toNat (cD D e).2.1),(cD D e).2.2)
  |none=>((D,l),0)
 else((D,l),6)
def U8(hW:D.l.length<=1000000)(p:Po): Y 90 #[t,pv p] w λe w'=>e=S (TK D (eA its) p).2/\qe w t st d r sl aj limit its (TK D (eA its) p).1 w':=by
 apply AA.B;intro w0 e0;have z0:=fD e0;have x0:=aU e0;refine(find_spec (h.ext x0) p).F λw1 x1=>?_
 have z1:=x1.size;have lq:=x0.A x1;have h1:=h.ext lq;have bx:¬aw t st d r sl its w:=λhf=>a0o
 refine⟨_,rfl,x1.k,?_⟩;rcases dm (λi:It=>i.p==p) its with⟨hf,-⟩|⟨k,y,hk,hyp,hf,-⟩
 ·have hE:TK D (eA its) p=((D,eA its),6):=by unfold TK;rw[mY,hf,if_neg X]
  rw[hf,hE];exact Z.mk (λ_=>⟨rfl,r,sl,its,h1,rfl,aJ.P lq⟩) (λh=>by simp at h)
 ·have hE:TK D (eA its) p=(((cD D y.ob).1,(eA its).set k (cD D y.ob).2.1),(cD D y.ob).2.2):=by unfold TK;rw[mY,hf,if_pos U,iI,M6 hk]
  rw[hf,hE];refine Z.mk (λh=>a0d) (λ_=>?_);have⟨a1,a2⟩:=h1.at hk;refine⟨sl,h1.rt.at 3 rfl,a1,_,a2,(vB h1 hW hk).mono ?_⟩;rintro e w8 ⟨rfl,r',y',h8,hob8,t8⟩;have z8:=t8.mod.size;exact⟨_,rfl,t8.mod.same _ U bx,rfl,r',sl,_,h8,EV hob8,(aJ.P lq).trans t8⟩
def U9(D:Dk)(pre:List En):List En->Int->Tb×Int×Int
 | [],n=>((D,pre),n,0)
 |e::t,n=>if(cD D e).2.2=0 then U9 (cD D e).1 (pre++[(cD D e).2.1]) t (if e.2.2.1=true then n+1 else n)else(((cD D e).1,pre++(cD D e).2.1::t),n,(cD D e).2.2)
def gT(D:Dk)(l:List En):Tb×Int×Int:=U9 D [] l 0
variable{n:Int}
def amB{l pre:List En}{k:Nat}{e:En}(h:l[k]? =some e):U9 D pre (l.drop k) n=if(cD D e).2.2=0 then U9 (cD D e).1 (pre++[(cD D e).2.1]) (l.drop (k+1)) (if e.2.2.1=true then n+1 else n)else(((cD D e).1,pre++(cD D e).2.1::l.drop (k+1)),n,(cD D e).2.2):=by have hk:=cG.1 h;rw[zV hk.1,hk.2];rfl
def Jc(hW:D.l.length<=900000): Y 120 #[t] w λe w'=>e=bT #[S (gT D (eA its)).2.1,S (gT D (eA its)).2.2]/\qe w t st d r sl aj limit its (gT D (eA its)).1 w':=by
 apply uY.B;have hn:=h.n;have cX:=h.len;have agM:=h.W8;refine⟨sl,h.rt.at 3 rfl,λn i c wr=>∃(k:Nat)(D':Dk)(r':Dm)(its':List It),i=k/\k+n=its.length/\0<=c/\c<=k/\D'.l.length<=D.l.length+k/\TO wr t st d r' sl D' aj limit its'/\its'.length=its.length/\its'.drop k=its.drop k/\U9 D' ((eA its').take k) ((eA its').drop k) c=gT D (eA its)/\aJ (aw t st d r sl its) (aw t st d r' sl its') w wr,
  ⟨its.length,0,D,r,its,rfl,U,jI 0,jI 0,U,h,rfl,rfl,rfl,aJ.refl _ _⟩,?_⟩
 rintro n us i c wr ⟨k,D',r',its',rfl,hk,c0,ck,hl,hT,hln,hdr,TD,ht⟩;have aGX:(eA its').length=its'.length:=by rw[aK]
 apply Z.mk<;>intro hc
 ·replace hc:=lM hc;have⟨y,hy⟩:=bX (l:=its') (i:=k) U;have hyr:=hT.it y (aQ hy);have⟨a1,a2⟩:=hT.at hy;have Yv:k<its'.length:=by omega
  have hn':=hT.n;have wk:=nE (j:=k);have wc:I (c+1)=c+1:=wI;rw[amB (M6 hy)]at TD;have lE:=Am D' y.ob;refine⟨a1,_,a2,sb (sb ⟨_,hyr.r.at 1 rfl,(vB hT U hy).mono ?_⟩)⟩;rintro e br ⟨rfl,r2,y',h10,Ow,t10⟩;have oD:eA (its'.set k y')=(eA its').set k (cD D' y.ob).2.1:=EV Ow;have hln2:(its'.set k y').length=its'.length:=lO;have xk:(eA (its'.set k y')).take (k+1)=(eA its').take k++[(cD D' y.ob).2.1]:=by rw[oD,dq,uA U,List.take_set_of_le (ak _)];rfl
  have hdk:(eA (its'.set k y')).drop (k+1)=(eA its').drop (k+1):=by rw[oD,List.drop_set_of_lt U]
  refine⟨_,rfl,Z.mk (λhb=>?_) (λhb=>?_)⟩
  ·have hz:=eK hb;rw[if_neg hz]at TD;rw[<-TD];refine⟨rfl,r2,sl,_,h10,?_,ht.trans t10⟩;rw[oD];show _=(eA its').take k++(cD D' y.ob).2.1::(eA its').drop (k+1);rw[List.set_eq_take_append_cons_drop,if_pos U]
  ·have hz:=eK hb;rw[if_pos hz]at TD;have hdd:(its'.set k y').drop (k+1)=its.drop (k+1):=by rw[List.drop_set_of_lt U];have:=congrArg (List.drop 1) hdr;rwa[List.drop_drop,List.drop_drop]at this
   apply Z.mk<;>intro hd
   ·have hd':y.ob.2.2.1=true:=hd;rw[if_pos hd']at TD;exact⟨n-1,U,k+1,_,r2,_,wk,U,by rw[wc];omega,by rw[wc];omega,U,h10,by rw[hln2,hln],hdd,by rw[wc,xk,hdk];exact TD,ht.trans t10⟩
   ·have hd':¬y.ob.2.2.1=true:=by show ¬y.o5=true;rw[hd];decide
    rw[if_neg hd']at TD;exact⟨n-1,U,k+1,_,r2,_,wk,U,c0,U,U,h10,by rw[hln2,hln],hdd,by rw[xk,hdk];exact TD,ht.trans t10⟩
 ·replace hc:=lW hc;rw[wH U,dN U]at TD;rw[<-TD];exact⟨rfl,r',sl,its',hT,rfl,ht⟩
def Va(hW:D.l.length<=1000000)(hL:ee D.l<=1099511627776)(aV:Int): Y 183 #[t,aV] w λe w'=>e=S (cw D aV).2/\qe w t st d r sl aj limit its ((cw D aV).1,[]) w':=by
 apply AB.B;have⟨p1,p2⟩:=h.rt.ft (j:=3) (v:=.slice none 0 0) bo rfl;refine⟨⟨rfl,p1⟩,λw0 e0=>?_⟩;have⟨q1,q2⟩:=p2 w0 e0;have Fb:SO w0 st d r D:=h.so.aV q2 (λhr hτ=>by rcases hτ with rfl|rfl|rfl|rfl<;>exact hr.ne h.rt X) (λhm e=>h.rt.fH hm e.symm);refine⟨_,q1.at 0 rfl,sb (sb (sb ⟨_,Fb.ptr,(QV Fb.dk U hL aV).mono ?_⟩))⟩;rintro e w3 ⟨rfl,r',h3,m3,f3⟩;have offd:∀{j:Nat}{cs:LV}{τ:aB},Row w0 j cs τ->τ≠tg->¬(j=d\/j=r.r):=λhr ht e=>by
  rcases e with e|e
  ·exact hr.ne Fb.dk.rd ht e
  ·exact hr.fH Fb.dk.rm e
 refine⟨_,rfl,rfl,r',⟨none,0,0⟩,[],⟨m3.row q1 (offd q1 X),⟨m3.row Fb.rs (offd Fb.rs X),h3⟩,ar.nil,(λy hy=>by cases hy),bo,bo,h.W8,by simp;have:=h.W8;omega⟩,rfl,?_,?_⟩
 ·refine(q2.mono λi _ hi=>.inl hi).trans (m3.mono λi _ hi=>?_);rcases hi with e|e
  ·exact .inr (.inr (.inl e))
  ·exact .inr (.inr (.inr (.inl (.inl e))))
 ·have z0:=q2.size;rintro i (e|e|e|e|e|⟨y,hy,-⟩)
  ·exact .inl (.inl e)
  ·exact .inl (.inr (.inl e))
  ·exact a0Y
  ·rcases f3 i (.inr e)with q|q
   ·rcases q with q|q
    ·exact .inl (.inr (.inr (.inl q)))
    ·exact .inl (.inr (.inr (.inr (.inl q))))
   ·exact .inr U
  ·cases e
  ·cases hy
def ZZ(hW:D.l.length<=1000000)(s:H)(b:ab)(hs:jd w s b)(hb:mJ b)(hn:b.length<=1099511627776): Y 182 #[t,s] w λe w'=>e=S (tJ D 0 b).2/\qe w t st d r sl aj limit its ((tJ D 0 b).1,eA its) w':=by
 apply(B1.B (a1:=s));refine⟨_,h.rt.at 0 rfl,(C0 h.so hW 0 s b hs hb hn).mono ?_⟩;rintro e w1 ⟨rfl,r',h1,m1,f1,-⟩;exact⟨_,rfl,rfl,r',sl,its,h.store m1 h1,rfl,m1.mono λi _ hi=>Mh i hi,FV f1⟩
def Z0(hW:D.l.length<=1000000): Y 184 #[t] w λe w'=>∃s:H,e=bT #[s,.bool (pU D 0).2.2]/\jd w' s (pU D 0).1/\mJ (pU D 0).1/\(pU D 0).1.length<=1048576/\s.n<=s.c/\(∀g,s.D=some g->w<=g)/\Ext w w':=by
 apply B2.B;refine⟨_,h.rt.at 0 rfl,(Db h.so U 0).mono ?_⟩;rintro e w1 ⟨s,rfl,hs,hb,hl,hc,hf,x1⟩;exact⟨s,_,_,rfl,s,rfl,hs,hb,hl,hc,hf,x1⟩
def Vb(hn:cH n): Y 122 #[d,n] w λe w'=>e=pz/\qe w t st d r sl aj limit its (om D n,eA its) w':=by
 refine(Vd h.so.dk hn).mono ?_;rintro e w1 ⟨rfl,h1,m1⟩;have m1':Mod (λi=>i=d\/r.ls.D=some i) w w1:=m1.mono λi _ hi=>.inl hi
 exact⟨rfl,r,sl,its,h.store m1' ⟨m1'.row h.so.rs h.so.off,h1⟩,rfl,m1'.mono λi _ hi=>Mh i hi,λi hi=>.inl hi⟩
def Z1: Y 42 #[t] w λe w'=>∃s':H,e=s'/\ar w K_ 2 w' s' ((eA its).map λe=>[S e.1.1,S e.1.2])/\Ext w w':=by
 apply BM.B;have hn:=h.n;have cX:=h.len;have agM:=h.W8;refine⟨sl,h.rt.at 3 rfl,λn i so wr=>∃k:Nat,i=k/\k+n=its.length/\Ext w wr/\ar w K_ 2 wr so (((eA its).take k).map λe=>[S e.1.1,S e.1.2]),⟨its.length,0,rfl,U,Ext.M _,ar.nil⟩,?_⟩;rintro n us i so wr ⟨k,rfl,hk,xr,ho⟩;have TY:=nE (j:=k);have hol:(eA its).length=its.length:=by rw[aK]
 apply Z.mk<;>intro hc
 ·replace hc:=lM hc;have⟨y,hy⟩:=bX (l:=its) (i:=k) U;have hr:=h.ext xr;have⟨a1,a2⟩:=hr.at hy;have hyr:=hr.it y (aQ hy);refine⟨a1,_,a2,sb (sb ⟨_,hyr.r.at 0 rfl,sb (sb ⟨_,_,hyr.k.pos,(xF y.p wr).F λbN cr=>?_⟩)⟩)⟩;refine⟨_,_,rfl,λc9 pC=>?_⟩;have dn:=aU pC;have z12:=cr.size;have zr:=xr.size;have z15:=fD pC;have abG:=(ho.ext cr).ext dn;have hso:=(ho.rd (show 0<2 by decide)).n;rw[aK,cS]at hso;have⟨hp,bq⟩:=abG.append (bytes:=16) (news:=[S y.p.1,S y.p.2]) U rfl (BB _ _ _ _) U U;refine⟨hp,λs16 cP agS=>?_⟩;obtain⟨azz,aGY,xb,TU,-⟩:=bq s16 cP agS;refine⟨TU _ (λe=>a1N ((ho.own.lt e).2)) U,n-1,U,k+1,TY,U,(xr.A (cr.A dn)).trans xb,?_⟩;have:(eA its).take (k+1)=(eA its).take k++[y.ob]:=by rw[dq,aW,hy];rfl
  rw[this,cl];exact azz
 ·replace hc:=lW hc;rw[dN U]at ho;exact⟨so,rfl,ho,xr⟩
variable{p:ai}
def ph{v:aC}(h:ld w p=some v):ah w p 0 [v]:=by show ld w (N p 0)=_;rw[fu];exact h
variable{i:Nat}{y y':It}
def TO.aix{w':au}(hi:its[i]? =some y)(hx:y'.x=y.x)(hg:y'.g=y.g)(hm:Mod (λj=>j=y.x\/j=y.g) w w')(hy:tM w' y'):TO w' t st d r sl D aj limit (its.set i y'):=by
 have OW:=(cG.1 hi).1;have hr:=(h.it y (aQ hi)).r;have hrg:=(h.it y (aQ hi)).k.row;have off:∀{j:Nat}{cs:LV}{τ:aB},Row w j cs τ->τ≠cc->τ≠xY->¬(j=y.x\/j=y.g):=λhr' ht hc e=>by
  rcases e with e|e
  ·exact hr'.ne hr ht e
  ·exact hr'.ne hrg hc e
 have hpx:DI (its.set i y')=DI its:=by
  unfold DI;rw[pM,hx];apply jF;intro j;rw[iS];split
  next e=>subst e;rw[if_pos a0I,aW,hi];rfl
  ·rfl
 have hmx:(its.set i y').map (·.x)=its.map (·.x):=by
  rw[pM,hx];apply jF;intro j;rw[iS];split
  next e=>subst e;rw[if_pos a0I,aW,hi];rfl
  ·rfl
 have hmg:(its.set i y').map (·.g)=its.map (·.g):=by
  rw[pM,hg];apply jF;intro j;rw[iS];split
  next e=>subst e;rw[if_pos a0I,aW,hi];rfl
  ·rfl
 refine⟨hm.row h.rt (off h.rt X X),h.so.aV hm (λhr' hτ=>by rcases hτ with rfl|rfl|rfl|rfl<;>exact off hr' X X) (λhmp e=>by
   rcases e with e|e
   ·exact hr.fH hmp e.symm
   ·exact hrg.fH hmp e.symm),?_,λz hz=>?_,by rw[hmx];exact h.dx,by rw[hmg];exact h.dg,h.W8,by rw[lO];exact h.len⟩
 ·rw[hpx];exact hm.gR h.ol λb hb=>by have⟨cs',hr'⟩:=aT h.ol X hb;exact off hr' X X
 ·have⟨j,hj⟩:=yY hz;rw[iS]at hj;split at hj
  ·cases hj;exact hy
  ·rename_i gl;have hzj:=h.it z (aQ hj);have hjl:=(cG.1 hj).1;refine hzj.aV hm ?_ ?_ (λb hb=>?_)
   ·rintro(e|e)
    ·have h1:(its.map (·.x))[i]? =some y.x:=by rw[aW,hi];rfl
     have h2:(its.map (·.x))[j]? =some z.x:=by rw[aW,hj];rfl
     rw[e,<-h1]at h2;exact gl ((List.getElem?_inj (by rw[aK];exact hjl) h.dx).1 h2).symm
    ·exact hzj.r.ne hrg X e
   ·rintro(e|e)
    ·exact hzj.k.row.ne hr X e
    ·have h1:(its.map (·.g))[i]? =some y.g:=by rw[aW,hi];rfl
     have h2:(its.map (·.g))[j]? =some z.g:=by rw[aW,hj];rfl
     rw[e,<-h1]at h2;exact gl ((List.getElem?_inj (by rw[aK];exact hjl) h.dg).1 h2).symm
   ·have⟨cs',hr'⟩:=aT hzj.k.own X hb;exact off hr' X X
def Z2{n:Nat}(hi:its[i]? =some y)(hx:y'.x=y.x)(hg:y'.g=y.g)(hs:∀b,y'.s.D=some b->y.s.D=some b\/n<=b):∀j,aw t st d r sl (its.set i y') j->aw t st d r sl its j\/n<=j:=by
 rintro j (e|e|e|e|e|⟨z,hz,e⟩)
 ·exact .inl (.inl e)
 ·exact .inl (.inr (.inl e))
 ·exact a0Y
 ·exact .inl (.inr (.inr (.inr (.inl e))))
 ·exact a0V
 ·have hy:∀i,(i=y.x\/i=y.g\/y.s.D=some i)->aw t st d r sl its i:=λi e=>.inr (.inr (.inr (.inr (.inr ⟨y,aQ hi,e⟩))))
  rcases pY hz with hz|hz
  ·exact .inl (.inr (.inr (.inr (.inr (.inr ⟨z,hz,e⟩)))))
  ·subst hz;rw[hx,hg]at e;rcases e with e|e|e
   ·exact .inl (hy j (.inl e))
   ·exact .inl (hy j (.inr (.inl e)))
   ·rcases hs j e with e|e
    ·exact .inl (hy j (.inr (.inr e)))
    ·exact .inr e
instance (c:Ce):Decidable (PL c):=by unfold PL;exact inferInstance
def jc(l:List En)(c:Ce):Int:=
 if bK (λe:En=>e.1==pos c) l<0 then -1 else if c.2.1<0 then 1 else((l[(bK (λe:En=>e.1==pos c) l).toNat]?).map λe=>Z3 e.1 e.2.1 c).getD 0
def jo(l:List En)(c:Ce)(b:Int):List En×Int:=
 if bK (λe:En=>e.1==pos c) l<0 then(l,11)else if ¬PL c then(l,5)else if cN b=false then(l,1)else
  (l.eraseIdx (bK (λe:En=>e.1==pos c) l).toNat++((l[(bK (λe:En=>e.1==pos c) l).toNat]?).map λe=>(e.1,(tV e.1 e.2.1 c b).1,e.2.2.1||(Z3 e.1 e.2.1 c !=b),e.2.2.2)).toList,0)
def aeh(c:Ce)(hc:pQ c): ed 113 #[t,fQ c] w (S (jc (eA its) c)):=by
 apply Gs.B;intro w0 e0;have z0:=fD e0;have x0:=aU e0;refine(pS c hc w0).F λw1 x1=>?_
 have lq:=x0.A x1;have z1:=x1.size;refine⟨_,_,rfl,x1.k,(find_spec (h.ext lq) (pos c)).F λw4 x4=>?_⟩;have z4:=x4.size;have E9:=lq.A x4;have hfm:bK (λe:En=>e.1==pos c) (eA its)=bK (λi:It=>i.p==pos c) its:=me It.ob _ its;refine⟨_,rfl,x4.k,?_⟩;rcases dm (λi:It=>i.p==pos c) its with⟨hf,-⟩|⟨k,y,hk,hyp,hf,-⟩
 ·rw[hf];refine Z.mk (λ_=>⟨?_,E9⟩) (λh=>by simp at h);unfold jc;rw[hfm,hf,if_pos X]
 ·rw[hf];refine Z.mk (λh=>a0d) (λ_=>Z.mk (λhb=>?_) (λhb=>?_))
  ·replace hb:=lM hb;refine⟨?_,E9⟩;unfold jc;rw[hfm,hf,if_neg U,if_pos hb]
  ·replace hb:=lW hb;have hd:=(h.ext E9).ext (Ext.K w4);have⟨a1,a2⟩:=hd.at hk;have hyr:=hd.it y (aQ hk);refine⟨sl,hd.rt.at 3 rfl,a1,_,a2,sb (sb ⟨_,hyr.r.at 0 rfl,(EW hyr.k c hc).F λw9 x9=>?_⟩)⟩;have h9:=hd.ext x9;obtain⟨-,b2⟩:=h9.at hk;refine⟨_,_,rfl,x9.heap (show w.heap.size<w4 by omega),ph b2,ph (h9.rt.at 3 rfl),?_,E9.A ((Ext.K _).A x9)⟩;unfold jc;rw[hfm,hf,if_neg U,if_neg hb,iI,aW,hk];rfl
variable{b:Int}{p:Po}
def aiy{C:ab}{c:Ce}(hp:p=pos c)(hy:PL c)(hb:cN b=true):(tV p C c b).2=0:=by unfold tV;rw[if_neg (by rw[(EX p c).2 ⟨hy,hp.symm⟩];decide),if_neg (by rw[hb];decide)]
def Z4(c:Ce)(hc:pQ c)(b:Int): Y 307 #[t,fQ c,S b] w λe w'=>e=S (jo (eA its) c b).2/\qe w t st d r sl aj limit its (D,(jo (eA its) c b).1) w':=by
 apply D3.B;intro w0 e0;have z0:=fD e0;have x0:=aU e0;refine(pS c hc w0).F λw1 x1=>?_
 have lq:=x0.A x1;have z1:=x1.size;refine⟨_,_,rfl,x1.k,(find_spec (h.ext lq) (pos c)).F λw4 x4=>?_⟩;have z4:=x4.size;have E9:=lq.A x4;have hfm:bK (λe:En=>e.1==pos c) (eA its)=bK (λi:It=>i.p==pos c) its:=me It.ob _ its;refine⟨_,rfl,x4.k,(CZ c w4).mono ?_⟩;rintro e w6 ⟨⟨ix,iy,rfl,hiy⟩,x6⟩;have z6:=x6.size;have x06:=E9.A x6;have h6:=h.ext x06;refine⟨_,_,rfl,x6.k,?_⟩;have same:∀{w'},Ext w w'->qe w t st d r sl aj limit its (D,eA its) w':=λx=>⟨r,sl,its,h.ext x,rfl,aJ.P x⟩
 rcases dm (λi:It=>i.p==pos c) its with⟨hf,-⟩|⟨k,y,hk,hyp,hf,-⟩
 ·rw[hf];refine Z.mk (λ_=>?_) (λh=>by simp at h);have e:jo (eA its) c b=(eA its,11):=by unfold jo;rw[hfm,hf,if_pos X]
  rw[e];exact⟨rfl,same x06⟩
 ·rw[hf];have hyc:y.p=pos c:=by simpa using hyp
  refine Z.mk (λh=>a0d) (λ_=>?_);rcases hiy with⟨rfl,hY,-⟩|⟨rfl,hY,-⟩
  ·refine uN rfl ((gZ b w6).F λw9 x9=>?_);have z9:=x9.size;have Ts:=x06.A x9;refine⟨_,rfl,x9.k,Z.mk (λhb=>?_) (λhb=>?_)⟩
   ·have hb':cN b=false:=by simpa using hb
    have e:jo (eA its) c b=(eA its,1):=by unfold jo;rw[hfm,hf,if_neg U,if_neg (ds hY),if_pos hb']
    rw[e];exact⟨rfl,same Ts⟩
   ·have hb':cN b=true:=by simpa using hb
    have he:jo (eA its) c b=((eA its).eraseIdx k++[(y.p,(tV y.p y.C c b).1,y.o5||(Z3 y.p y.C c !=b),y.pins)],0):=by unfold jo;rw[hfm,hf,if_neg U,if_neg (ds hY),if_neg (by rw[hb'];decide),iI,aW,hk];rfl
    have h0:=aiy (C:=y.C) hyc hY hb';rw[he];have h9:=h.ext Ts;refine(GD h9 hk).mono ?_;rintro e bE ⟨rfl,azA,h11,t11⟩;have azB:=(aJ.P Ts).trans t11;have z11:=t11.mod.size;have bx:∀{F:Nat->Prop},(∀i,F i->aw t st d r sl its i)->¬F w:=λhF hf=>a1N (h.lt (hF _ hf))
    have hi':(its.eraseIdx k++[y])[(its.eraseIdx k).length]? =some y:=by rw[pO (ak _),Nat.sub_self];rfl
    have hd:=h11.ext (Ext.K bE);have hyd:=hd.it y (aQ hi');have hxw:y.x<w:=(h.it y (aQ hk)).r.lt;have hgw:y.g<w:=(h.it y (aQ hk)).k.row.lt;refine⟨_,rfl,t11.mod.same _ U (bx λi hi=>hi),sb (sb ⟨_,hyd.r.at 0 rfl,(EW hyd.k c hc).F λcp cY=>?_⟩)⟩;have agT:Ext bE cp:=(Ext.K _).A cY;have z14:=agT.size;have h14:=h11.ext agT;have Bc:=h14.it y (aQ hi');have pt:∀v:aX,_:=λv=>Bc.r.ft (j:=1) (v:=.bool v) bo rfl
    refine⟨_,_,rfl,cY.heap (show w.heap.size<bE by omega),sb (sb ⟨_,Bc.r.at 1 rfl,Z.mk (λhb=>sb (sb ⟨⟨rfl,(pt true).1⟩,λe=>?_,λdA Ot=>sb (sb ?_)⟩)) (λhb=>sb (sb ⟨⟨rfl,(pt true).1⟩,λe=>?_,λdA Ot=>sb (sb ?_)⟩))⟩)⟩
    case refine_1|refine_3=>
     rw[cB]at e;have:y.x=w.heap.size:=a0s
     omega
    all_goals
     have⟨q1,q2⟩:=(pt _).2 dA Ot
     have z18:=q2.size
     have atp:Ja dA y.g y.s y.p y.C:=Bc.k.aV q2 (λe=>Bc.k.row.ne Bc.r X e) (λb hb=>a1i)
     refine⟨_,(q1.ext (Ext.K _)).at 0 rfl,(aei (atp.ext (Ext.K dA)) c hc b).mono ?_⟩;rintro e eQ ⟨rfl,s',azC,m20,b20⟩;have q1d:=q1.ext (Ext.K dA);refine⟨_,rfl,m20.same _ (show w.heap.size<dA by omega) (λe=>by omega),congrArg _ (congrArg _ h0),?_⟩;have hm:Mod (λj=>j=y.x\/j=y.g) cp eQ:=((q2.mono λi _ hi=>.inl hi).trans (Mod.P (Ext.K _))).trans (m20.mono λi _ hi=>.inr hi);have azD:tM eQ ⟨y.x,y.g,s',y.p,(tV y.p y.C c b).1,y.o5||(Z3 y.p y.C c !=b),y.pins⟩:=by refine⟨?_,azC⟩;have:=m20.row q1d (λe=>q1d.ne (atp.ext (Ext.K dA)).row X e);rw[hb];exact this
     have h20:=h14.aix hi' (y':=⟨y.x,y.g,s',y.p,(tV y.p y.C c b).1,y.o5||(Z3 y.p y.C c !=b),y.pins⟩) rfl rfl hm azD;refine⟨r,azA,_,h20,?_,azB.trans ⟨(Mod.P agT).trans (hm.mono λi _ hi=>?_),λj hj=>?_⟩⟩
     ·unfold eA;rw[List.set_append_right _ _ (ak _),Nat.sub_self,cl];have:=vA its k;unfold eA at this;rw[this];rfl
     ·exact .inr (.inr (.inr (.inr (.inr ⟨y,aQ hi',hi.elim .inl λe=>.inr (.inl e)⟩))))
     ·exact Z2 (y':=⟨y.x,y.g,s',y.p,(tV y.p y.C c b).1,y.o5||(Z3 y.p y.C c !=b),y.pins⟩) hi' rfl rfl (λb hb=>(b20 b hb).imp id λe=>cV (cV z14 z18) e) j hj
  ·have e:jo (eA its) c b=(eA its,5):=by unfold jo;rw[hfm,hf,if_neg U,if_pos hY]
   refine yes rfl ?_;rw[e];exact⟨rfl,same x06⟩
end
def TF(F:Nat->Prop)(w:au)(t:Nat)(aj limit:Int)(T:Tb):Prop:=
 ∃st d r sl its,TO w t st d r sl T.1 aj limit its/\eA its=T.2/\F=aw t st d r sl its
section
variable{F:Nat->Prop}{w:au}{t:Nat}{aj limit:Int}{T:Tb}(h:TF F w t aj limit T)
def TF.lt{i:Nat}(hi:F i):i<w:=by obtain⟨st,d,r,sl,its,h1,h2,rfl⟩:=h;exact h1.lt hi
variable{w':au}
def TF.same(hs:∀i,F i->w'.heap[i]? =w.heap[i]?):TF F w' t aj limit T:=by obtain⟨st,d,r,sl,its,h1,h2,rfl⟩:=h;exact⟨st,d,r,sl,its,h1.same hs,h2,rfl⟩
def TF.ext(x:Ext w w'):TF F w' t aj limit T:=h.same λ_ hi=>x.heap (h.lt hi)
def TF.aV{g_:Nat->Prop}(hm:Mod g_ w w')(hn:∀i,F i->¬g_ i):TF F w' t aj limit T:=h.same λi hi=>hm.same i (h.lt hi) (hn i hi)
abbrev Pe(τ:aB):Prop:=τ≠B0/\τ≠BZ/\τ≠tg/\τ≠F_/\τ≠cc/\τ≠xY/\τ≠ic/\τ≠tW/\τ≠jG
def TF.dR{j:Nat}{cs:LV}{τ:aB}(hr:Row w j cs τ)(hτ:Pe τ):¬F j:=by obtain⟨st,d,r,sl,its,h1,h2,rfl⟩:=h;exact h1.dR hr hτ
def TF.len:(T.2.length:Int)<=limit/\1<=limit/\limit<=16:=by obtain⟨st,d,r,sl,its,h1,e,rfl⟩:=h;have:=h1.len;have:=h1.W8;rw[<-e];unfold eA;rw[aK];omega
def TF.ok:nN T.1:=by obtain⟨st,d,r,sl,its,h1,e,rfl⟩:=h;exact h1.so.dk.ok
abbrev Fy(F:Nat->Prop)(w:au)(t:Nat)(aj limit:Int)(T:Tb)(w':au):Prop:=∃F',TF F' w' t aj limit T/\aJ F F' w w'
def wK{st d:Nat}{r:Dm}{sl:H}{its:List It}(hl:qe w t st d r sl aj limit its T w'):Fy (aw t st d r sl its) w t aj limit T w':=by have⟨r',sl',its',h',ho,ht⟩:=hl;exact⟨_,⟨st,d,r',sl',its',h',ho,rfl⟩,ht⟩
def Ua(aj limit room:Int)(w:au):Y 176 #[aj,limit,room] w λe w'=>∃t F,e=dr (O t)/\TF F w' t aj (min (max limit 1) 16) (T9 room,[])/\Ext w w'/\∀i,F i->w<=i:=by refine(abr aj limit room w).mono ?_;rintro e w' ⟨t,st,d,r,rfl,h,x,hf⟩;exact⟨t,_,rfl,⟨st,d,r,_,[],h,rfl,rfl⟩,x,hf⟩
section
variable{F:Nat->Prop}{w:au}{t:Nat}{aj limit:Int}{T:Tb}
def Q2(h:TF F w t aj limit T)(hW:T.1.l.length<=1000000)(p:Po): Y 88 #[t,pv p] w λe w'=>e=S (yO aj limit T.1 T.2 p).2/\Fy F w t aj limit (yO aj limit T.1 T.2 p).1 w':=by
 obtain⟨st,d,r,sl,its,h1,e,rfl⟩:=h;rw[<-e];refine(ZH h1 hW p).F λw' hl=>?_
 exact⟨rfl,wK hl⟩
def IJ(h:TF F w t aj limit T)(hW:T.1.l.length<=1000000)(p:Po): Y 89 #[t,pv p] w λe w'=>e=S (oa T.1 T.2 p).2/\Fy F w t aj limit (oa T.1 T.2 p).1 w':=by
 obtain⟨st,d,r,sl,its,h1,e,rfl⟩:=h;rw[<-e];refine(QU h1 hW p).F λw' hl=>?_
 exact⟨rfl,wK hl⟩
def On(h:TF F w t aj limit T)(hW:T.1.l.length<=1000000)(p:Po): Y 90 #[t,pv p] w λe w'=>e=S (TK T.1 T.2 p).2/\Fy F w t aj limit (TK T.1 T.2 p).1 w':=by
 obtain⟨st,d,r,sl,its,h1,e,rfl⟩:=h;rw[<-e];refine(U8 h1 hW p).F λw' hl=>?_
 exact⟨rfl,wK hl⟩
def DF(h:TF F w t aj limit T)(hW:T.1.l.length<=900000): Y 120 #[t] w λe w'=>e=bT #[S (gT T.1 T.2).2.1,S (gT T.1 T.2).2.2]/\Fy F w t aj limit (gT T.1 T.2).1 w':=by
 obtain⟨st,d,r,sl,its,h1,e,rfl⟩:=h;rw[<-e];refine(Jc h1 hW).F λw' hl=>?_
 exact⟨rfl,wK hl⟩
def N9(h:TF F w t aj limit T)(hW:T.1.l.length<=1000000)(hL:ee T.1.l<=1099511627776)(aV:Int): Y 183 #[t,aV] w λe w'=>e=S (cw T.1 aV).2/\Fy F w t aj limit ((cw T.1 aV).1,[]) w':=by
 obtain⟨st,d,r,sl,its,h1,e,rfl⟩:=h;refine(Va h1 hW hL aV).F λw' hl=>?_
 exact⟨rfl,wK hl⟩
def Pu(h:TF F w t aj limit T)(hW:T.1.l.length<=1000000)(s:H)(b:ab)(hs:jd w s b)(hb:mJ b)(hn:b.length<=1099511627776): Y 182 #[t,s] w λe w'=>e=S (tJ T.1 0 b).2/\Fy F w t aj limit ((tJ T.1 0 b).1,T.2) w':=by
 obtain⟨st,d,r,sl,its,h1,e,rfl⟩:=h;rw[<-e];refine(ZZ h1 hW s b hs hb hn).F λw' hl=>?_
 exact⟨rfl,wK hl⟩
def R1(h:TF F w t aj limit T)(hW:T.1.l.length<=1000000): Y 184 #[t] w λe w'=>∃s:H,e=bT #[s,.bool (pU T.1 0).2.2]/\jd w' s (pU T.1 0).1/\mJ (pU T.1 0).1/\(pU T.1 0).1.length<=1048576/\s.n<=s.c/\(∀g,s.D=some g->w<=g)/\Ext w w':=by
 obtain⟨st,d,r,sl,its,h1,e,rfl⟩:=h;exact Z0 h1 hW
def Bw(h:TF F w t aj limit T)(c:Ce)(hc:pQ c): ed 113 #[t,fQ c] w (S (jc T.2 c)):=by
 obtain⟨st,d,r,sl,its,h1,e,rfl⟩:=h;rw[<-e];exact aeh h1 c hc
def Ub(h:TF F w t aj limit T)(c:Ce)(hc:pQ c)(b:Int): Y 307 #[t,fQ c,b] w λe w'=>e=S (jo T.2 c b).2/\Fy F w t aj limit (T.1,(jo T.2 c b).1) w':=by
 obtain⟨st,d,r,sl,its,h1,e,rfl⟩:=h;rw[<-e];refine(Z4 h1 c hc b).F λw' hl=>?_
 exact⟨rfl,wK hl⟩
def am9(h:TF F w t aj limit T):∃st d,ld w (N (O t) 0)=some (.pointer (O st))/\ld w (N (N (O st) 0) 0)=some (.pointer (O d))/\∀n,cH n->Y 122 #[.pointer (O d),S n] w λe w'=>e=pz/\Fy F w t aj limit (om T.1 n,T.2) w':=by
 obtain⟨st,d,r,sl,its,h1,e,rfl⟩:=h;rw[<-e];refine⟨st,d,h1.rt.at 0 rfl,h1.so.ptr,λn hn=>(Vb h1 hn).F λw' hl=>?_⟩;exact⟨rfl,wK hl⟩
end
end
open Go.ej
def fh(c:Ce):Prop:=(-2000000000<=c.1/\c.1<=2000000000)/\(-2000000000<=c.2.1/\c.2.1<=2000000000)/\-2000000000<=c.2.2/\c.2.2<=2000000000
def Cn(c:Ce):Prop:=(-1000000000<=c.1/\c.1<=1000000000)/\(-1000000000<=c.2.1/\c.2.1<=1000000000)/\-1000000000<=c.2.2/\c.2.2<=1000000000
def fh.ok{c:Ce}(h:fh c):pQ c:=by unfold fh at h;unfold pQ cH;omega
def Cn.wide{c:Ce}(h:Cn c):fh c:=by unfold Cn at h;unfold fh;omega
def FR{c:Ce}(h:fh c){n:Ce}(hn:n∈rZ c):pQ n:=by unfold fh at h;unfold rZ fy Ds at hn;simp only[cu,iT,or_false]at hn;rcases hn with rfl|rfl|rfl|rfl|rfl|rfl<;>(unfold pQ cH;simp only;omega)
def ai9{c:Ce}(h:Cn c){n:Ce}(hn:n∈rZ c):fh n:=by unfold Cn at h;unfold rZ fy Ds at hn;simp only[cu,iT,or_false]at hn;rcases hn with rfl|rfl|rfl|rfl|rfl|rfl<;>(unfold fh;simp only;omega)
def rk(n:Int)(h: -2147483648<=n/\n<=2147483648)(w:au):kh 281 #[n] w n:=by apply adC.B;have e1:(if(-2147483648)>n then(-2147483648)else n)=n:=if_neg U;rw[e1,if_neg U];exact⟨rfl,rfl⟩
def QH(c:Ce)(h:(-2147483648<=c.1/\c.1<=2147483648)/\(-2147483648<=c.2.1/\c.2.1<=2147483648)/\-2147483648<=c.2.2/\c.2.2<=2147483648)(w:au):ed 280 #[fQ c] w ((fQ c)):=by
 apply adB.B;intro w0 e0 w1 e1;have x1:Ext w w1:=(aU e0).aZ e1;have z0:=fD e0;have r0:Row w1 w [c.1,c.2.1,c.2.2] rV:=(by rw[e0];exact Row.new w [_,_,_] _:Row w0 w _ _).ext (aU e1);have xd:=Ext.K w1;have r1:=r0.ext xd;refine(rk c.1 h.1 w1.drew).V ?_;refine⟨_,rfl,rfl,rfl,r1.y (o:=2) (λj hj=>by
  match j,hj with
  |0,_=>rfl),r1.y (o:=1) (λj hj=>by
  match j,hj with
  |0,_=>rfl),(rk c.2.1 h.2.1 w1.drew).V ?_⟩
 refine⟨_,rfl,rfl,rfl,r1.y (o:=2) (λj hj=>by
  match j,hj with
  |0,_=>rfl),(rk c.2.2 h.2.2 w1.drew).V ?_⟩
 exact⟨_,rfl,rfl,rfl,λw8 e8=>⟨rfl,(x1.A xd).L e8 U⟩⟩
def mD(a b d:Int)(c c':Ce)(he:c'=(c.1+a,c.2.1+b,c.2.2+d))(hc:fh c)(ha:(-1<=a/\a<=1)/\(-1<=b/\b<=1)/\-1<=d/\d<=1){g:Nat}{w:au}(hr:Row w g [c.1,c.2.1,c.2.2] rV): ed 279 #[a,b,d,g] w ((fQ c')):=by
 subst he;apply Qc.B;have⟨⟨h1,h2⟩,⟨h3,h4⟩,h5,h6⟩:=id hc;intro w0 e0;have x0:=aU e0;have z0:=fD e0;have xd:=x0.A (Ext.K w0);have zd:=nV w0;have r1:=hr.ext xd;have q1:I (c.1+a)=c.1+a:=wI;have q2:I (c.2.1+b)=c.2.1+b:=wI;have q3:I (c.2.2+d)=c.2.2+d:=wI;refine⟨c.1,r1.at 0 rfl,c.2.1,r1.at 1 rfl,c.2.2,r1.at 2 rfl,(rk c.1 U w0.drew).V ?_⟩;refine⟨_,rfl,rfl,ph (r1.at 2 rfl),ph (r1.at 1 rfl),(rk c.2.1 U w0.drew).V ?_⟩;refine⟨_,rfl,rfl,ph (r1.at 2 rfl),(rk c.2.2 U w0.drew).V ?_⟩;refine⟨_,rfl,rfl,?_⟩;rw[q1,q2,q3];refine(QH (c.1+a,c.2.1+b,c.2.2+d) hX w0.drew).F λbr bL=>?_
 exact⟨_,_,_,rfl,bL.k,λcp yF=>⟨rfl,(xd.A bL).L yF (ak _)⟩⟩
abbrev eV(c:Ce):LV:=[S c.1,S c.2.1,S c.2.2]
def HM(c:Ce):One (eV c):=a0l
abbrev TN(c:Ce):LV:=[S (c.1-1),S c.2.1,S c.2.2,S (c.1+1),S c.2.1,S c.2.2,S c.1,S (c.2.1-1),S c.2.2,S c.1,S (c.2.1+1),S c.2.2,S c.1,S c.2.1,S (c.2.2-1),S c.1,S c.2.1,S (c.2.2+1)]
def VU(c:Ce):One (TN c):=by intro v hv;simp only[TN,cu,iT,or_false]at hv;rcases hv with rfl|rfl|rfl|rfl|rfl|rfl|rfl|rfl|rfl|rfl|rfl|rfl|rfl|rfl|rfl|rfl|rfl|rfl<;>rfl
def afk(c:Ce):TN c=((rZ c).map eV).flatten:=rfl
def dC{cs vs:LV}(h:vs.length=cs.length):putCells cs 0 vs=vs:=by rw[dX _ _ _ U];simp[<-h]
def KN{a b c a' b' c':Int}(h1:a=a')(h2:b=b')(h3:c=c'):((a,b,c):Ce)=(a',b',c'):=by rw[h1,h2,h3]
def jt(c:Ce)(hc:fh c)(w:au):ed 221 #[fQ c] w (vI (TN c).toArray):=by
 apply Zi.B;intro w0 e0 w1 e1;have x1:Ext w w1:=(aU e0).aZ e1;have z0:=fD e0;have r0:Row w1 w [c.1,c.2.1,c.2.2] rV:=(by rw[e0];exact Row.new w [_,_,_] _:Row w0 w _ _).ext (aU e1);have rb:Row w1 w0 [J,J,J,J,J,J,J,J,J,J,J,J,J,J,J,J,J,J] 266:=Row.nw e1;refine(mD (-1) 0 0 c (c.1-1,c.2.1,c.2.2) (KN U U U) hc X r0).F λw2 x2=>?_
 refine⟨_,_,_,rfl,(mD 1 0 0 c (c.1+1,c.2.1,c.2.2) (KN U U U) hc X (r0.ext x2)).F λw6 x6=>?_⟩;have y6:=x2.A x6;refine⟨_,_,_,rfl,(mD 0 (-1) 0 c (c.1,c.2.1-1,c.2.2) (KN U U U) hc X (r0.ext y6)).F λbr bL=>?_⟩;have y10:=y6.A bL;refine⟨_,_,_,rfl,(mD 0 1 0 c (c.1,c.2.1+1,c.2.2) (KN U U U) hc X (r0.ext y10)).F λcp cY=>?_⟩;have y14:=y10.A cY;refine⟨_,_,_,rfl,(mD 0 0 (-1) c (c.1,c.2.1,c.2.2-1) (KN U U U) hc X (r0.ext y14)).F λdA dc=>?_⟩;have y18:=y14.A dc;refine⟨_,_,_,rfl,(mD 0 0 1 c (c.1,c.2.1,c.2.2+1) (KN U U U) hc X (r0.ext y18)).F λdh fX=>?_⟩;have y22:=y18.A fX;have r22:=rb.ext y22;refine⟨_,_,_,rfl,⟨rfl,r22.wr bo⟩,λkN TB=>?_⟩;have TB:kN=bB dh (O w0) (TN c):=TB;rw[r22.bB (vs:=TN c) bo (VU c),dC bo]at TB;have hr':Row kN w0 (TN c) 266:=r22.st TB;exact⟨_,_,_,_,_,_,_,_,_,_,_,_,_,_,_,_,_,_,hr'.y (λj hj=>by rw[eF]),rfl,(x1.A y22).L TB U⟩
def xE(b:Int)(w:au):kh 222 #[b] w (eL (b==3)):=by apply Qs.B;exact⟨rfl,rfl⟩
def oZ(b:Int)(w:au):kh 262 #[b] w (eL (rW b)):=by
 apply Zv.B;unfold rW;refine Z.mk (λh=>⟨?_,rfl⟩) (λh=>⟨?_,rfl⟩)
 ·have h1:=eK h;rw[decide_eq_true h1,oU]
 ·have h1:=eK h;rw[decide_eq_false h1,C9]
def Du(b:Int)(w:au):kh 253 #[b] w (eL (mN b)):=by
 apply ML.B;unfold mN;refine Z.mk (λh=>⟨?_,rfl⟩) (λh=>(oZ b w).mono ?_)
 ·have h1:=eK h;rw[decide_eq_true h1,Bool.true_or]
 ·rintro e w' ⟨rfl,rfl⟩;have h1:=eK h;rw[decide_eq_false h1,Bool.false_or];exact⟨_,rfl,rfl,rfl⟩
def GU(b:Int)(w:au):kh 309 #[b] w (vc .i64 (jS b)):=by
 apply UI.B
 refine(xE b w).mono ?_
 rintro e w0 ⟨rfl,rfl⟩
 unfold jS
 refine⟨_,rfl,Z.mk (λh=>?_) (λh=>(oZ b w0).mono ?_)⟩
 ·rw[if_pos (ds h)];exact⟨rfl,rfl⟩
 ·rintro e w2 ⟨rfl,rfl⟩
  rw[if_neg (ds h)]
  refine⟨_,rfl,Z.mk (λh=>?_) (λh=>?_)⟩
  ·rw[if_pos h];exact⟨rfl,rfl⟩
  ·rw[if_neg (by rw[h];decide)];exact⟨rfl,rfl⟩
def Vi(aj:Int)(p:Po):xQ aj p []=made aj p:=rfl
def lC{p:ai}{K:Prop}(hp:p.isSome=true)(h:K):aO (eE p) K:=bO.2 ⟨rJ.2 hp,h⟩
def aq8:Pe rV/\Pe K_:=by decide
def uu{F:Nat->Prop}{w:au}{t:Nat}{aj cap:Int}{T:Tb}(h:TF F w t aj cap T):Y 42 #[t] w λe w'=>∃s':H,e=s'/\ar w K_ 2 w' s' (T.2.map λe=>[S e.1.1,S e.1.2])/\Ext w w':=by obtain⟨st,d,r,sl,its,g1,e,rfl⟩:=h;rw[<-e];exact Z1 g1
abbrev Bu:aB:=132
abbrev mU:aB:=269
abbrev Cg:=Ce×Int
abbrev cgv(x:Cg):LV:=[S x.1.1,S x.1.2.1,S x.1.2.2,S x.2]
def WF(F:Nat->Prop)(w:au)(o t:Nat)(aj limit:Int)(T:Tb)(ch:List Cg):Prop:=
 ∃F1 sc,TF F1 w t aj limit T/\Row w o [t,.slice sc.a sc.n sc.c] Bu/\ar 0 mU 4 w sc (ch.map cgv)/\F=λi=>F1 i\/i=o\/sc.D=some i
section
variable{F:Nat->Prop}{w:au}{o t:Nat}{aj limit:Int}{T:Tb}{ch:List Cg}(h:WF F w o t aj limit T ch)
def WF.lt{i:Nat}(hi:F i):i<w:=by
 obtain⟨F1,sc,h1,h2,h3,rfl⟩:=h;rcases hi with hi|rfl|hi
 ·exact h1.lt hi
 ·exact h2.lt
 ·exact(h3.own.lt hi).2
variable{w':au}
def WF.same(hs:∀i,F i->w'.heap[i]? =w.heap[i]?):WF F w' o t aj limit T ch:=by obtain⟨F1,sc,h1,h2,h3,rfl⟩:=h;exact⟨F1,sc,h1.same λi hi=>hs i (.inl hi),h2.same (hs o (.inr (.inl rfl))),ar.aV h3 λb hb=>hs b (.inr (.inr hb)),rfl⟩
def WF.ext(x:Ext w w'):WF F w' o t aj limit T ch:=h.same λ_ hi=>x.heap (h.lt hi)
def WF.aV{g_:Nat->Prop}(hm:Mod g_ w w')(hn:∀i,F i->¬g_ i):WF F w' o t aj limit T ch:=h.same λi hi=>hm.same i (h.lt hi) (hn i hi)
def WF.dR{j:Nat}{cs:LV}{τ:aB}(hr:Row w j cs τ)(hτ:Pe τ)(hw:τ≠Bu)(hc:τ≠mU):¬F j:=by
 obtain⟨F1,sc,h1,h2,h3,rfl⟩:=h;rintro(hi|rfl|hi)
 ·exact h1.dR hr hτ hi
 ·exact hr.ne h2 hw rfl
 ·have⟨cs',hr'⟩:=aT h3 X hi;exact hr.ne hr' hc rfl
def WF.len:(T.2.length:Int)<=limit/\1<=limit/\limit<=16:=by obtain⟨F1,sc,h1,h2,h3,rfl⟩:=h;exact h1.len
abbrev Pf(F:Nat->Prop)(w:au)(o t:Nat)(aj limit:Int)(T:Tb)(ch:List Cg)(w':au):Prop:=∃F',WF F' w' o t aj limit T ch/\aJ F F' w w'
def WF.table:∃F1,TF F1 w t aj limit T/\(∀i,F1 i->F i)/\∀{w':au}{T':Tb},Fy F1 w t aj limit T' w'->Pf F w o t aj limit T' ch w':=by
 obtain⟨F1,sc,h1,h2,h3,rfl⟩:=h;refine⟨F1,h1,λi hi=>.inl hi,?_⟩;rintro w' T' ⟨F',h',ht⟩;have n2:=h1.dR h2 X;have n3:∀b,sc.D=some b->¬F1 b:=λb hb=>by have⟨cs',hr'⟩:=aT h3 X hb;exact h1.dR hr' X
 refine⟨_,⟨F',sc,h',ht.mod.row h2 n2,ht.mod.gR h3 n3,rfl⟩,ht.mod.mono λi _ hi=>.inl hi,λi hi=>?_⟩;rcases hi with hi|hi|hi
 ·exact(ht.sub i hi).imp .inl id
 ·exact .inl (.inr (.inl hi))
 ·exact .inl (.inr (.inr hi))
def YL(aj limit room:Int)(w:au):Y 115 #[aj,limit,room] w λe w'=>∃o t F,e=dr (O o)/\WF F w' o t aj (min (max limit 1) 16) (T9 room,[]) []/\Ext w w'/\∀i,F i->w<=i:=by
 apply YN.B;refine(Ua aj limit room w).mono ?_;rintro e w0 ⟨t,F1,rfl,h0,x0,f0⟩;refine⟨_,rfl,λw2 e2=>⟨w0,t,_,rfl,⟨F1,⟨none,0,0⟩,h0.ext (aU e2),?_,ar.nil,rfl⟩,x0.aZ e2,λi hi=>?_⟩⟩
 ·rw[e2];exact Row.new w0 [_,_] _
 ·rcases hi with hi|hi|hi
  ·exact f0 i hi
  ·have:=x0.size;omega
  ·cases hi
def gx:kh 40 #[o] w (dr (O t)):=by obtain⟨F1,sc,h1,h2,h3,rfl⟩:=h;apply zc.B;exact⟨_,h2.at 0 rfl,rfl,rfl⟩
def lZ:kh 58 #[o] w (Value.func (.func 113) #[t] #[]):=by obtain⟨F1,sc,h1,h2,h3,rfl⟩:=h;apply Bv.B;exact⟨_,h2.at 0 rfl,rfl,rfl⟩
def I'(l:List En)(ch:List Cg)(c:Ce)(b:Int):List Cg:=if(jo l c b).2=0/\jc l c≠b then ch++[(c,b)]else ch
def aqI(a b c d:Int):One [S a,b,c,d]:=a1c
def YO(c:Ce)(hc:pQ c)(b:Int)(hn:ch.length<=1000000000): Y 250 #[o,fQ c,S b] w λe w'=>e=S (jo T.2 c b).2/\Pf F w o t aj limit (T.1,(jo T.2 c b).1) (I' T.2 ch c b) w':=by
 have hF:=λ{i}=>h.lt (i:=i)
 have hh:=h;obtain⟨F1,sc,h1,h2,h3,rfl⟩:=h;apply DC.B;intro w0 e0;have z0:=fD e0;have x0:Ext w w0.drew:=(aU e0).drew;have zd:=nV w0;refine⟨_,(h2.ext x0).at 0 rfl,(Bw (h1.ext x0) c hc).F λw2 x2=>?_⟩;have z2:=x2.size;have yz:=(x0.A x2).drew;have zd2:=nV w2;refine⟨_,rfl,x2.k,_,(h2.ext yz).at 0 rfl,(Ub (h1.ext yz) c hc b).F λw5 hT=>?_⟩;have⟨F',hF',ht'⟩:=hT;have z5:=ht'.mod.size;have n2:=(h1.ext yz).dR (h2.ext yz) X;have n3:∀b,sc.D=some b->¬F1 b:=λb hb=>by have⟨cs',hr'⟩:=aT (h3.ext yz) X hb;exact(h1.ext yz).dR hr' X
 have V9:=ht'.mod.row (h2.ext yz) n2;have h3':ar 0 mU 4 w5 sc (ch.map cgv):=ht'.mod.gR (h3.ext yz) n3;have nb:¬F1 w:=λhf=>a1N (hF (.inl hf))
 have tt:aJ (λi=>F1 i\/i=o\/sc.D=some i) (λi=>F' i\/i=o\/sc.D=some i) w w5:=by
  refine(aJ.P yz).trans ⟨ht'.mod.mono λi _ hi=>.inl hi,λi hi=>?_⟩;rcases hi with hi|hi|hi
  ·exact(ht'.sub i hi).imp .inl id
  ·exact .inl (.inr (.inl hi))
  ·exact .inl (.inr (.inr hi))
 refine⟨_,rfl,ht'.mod.same _ U nb,Z.mk (λhb=>Z.mk (λlk=>?_) (λlk=>?_)) (λhb=>?_)⟩
 ·simp only[beq_iff_eq]at hb;simp only[bne_iff_ne]at lk;have ec:I' T.2 ch c b=ch++[(c,b)]:=by unfold I';rw[if_pos ⟨hb,lk⟩]
  rw[ec];have h2d:=V9.ext (Ext.K w5);have tE:sc.n=ch.length:=by have:=(h3.rd (show 0<4 by decide)).n;rwa[aK]at this
  refine⟨sc,h2d.at 1 rfl,λw8 e8=>?_⟩;subst e8;have⟨hp,bq⟩:=(h3'.ext (Ext.K w5)).l6 (bytes:=32) (news:=cgv (c,b)) (.cells #[c.1,c.2.1,c.2.2,S b] mU) (eG _) rfl (aqI _ _ _ _) U U;refine⟨hp,λs9 br hr=>?_⟩;have⟨f1,arv,aE3,xb,awQ,iK⟩:=bq s9 br hr;have zd5:=nV w5;have hol:=h2.lt;have awR:∀b,sc.D=some b->b<w.heap.size:=λb hb=>(h3.own.lt hb).2
  have m10:Mod (λj=>sc.D=some j) w5 br:=(Mod.P (Ext.K w5)).trans (Mod.xq xb awQ);have no:¬sc.D=some o:=λe=>by have⟨cs',hr'⟩:=aT h3 X e;exact hr'.ne h2 X rfl
  have arw:=m10.row V9 no;have⟨p1,p2⟩:=arw.ft (j:=1) (v:=.slice s9.a s9.n s9.c) bo rfl;have z10:=m10.size;have pb:∀j:Nat,o<j->bM (N (O o) 1)≠some j:=λj hj e=>by
   rw[cB]at e;have:o=j:=a0s
   omega
  refine⟨(m10.same w U (λe=>a1N (awR _ e))).trans ((Ext.al w5.drew _).heap (show w.heap.size<w5 by omega)).symm,f1,⟨rfl,p1⟩,pb _ U,pb _ (show o<w5 by omega),λbE A8=>⟨rfl,?_⟩⟩;have⟨q1,q2⟩:=p2 bE A8;have ho9:∀b,s9.D=some b->b≠o:=λb hb=>by have⟨cs',hr'⟩:=aT arv X hb;exact hr'.ne arw X
  have m11:Mod (λj=>j=o\/sc.D=some j) w5 bE:=(m10.mono λi _ hi=>.inr hi).trans (q2.mono λi _ hi=>.inl hi);have awS:TF F' bE t aj limit (T.1,(jo T.2 c b).1):=hF'.aV m11 λi hi e=>by
   rcases e with e|e
   ·exact hF'.dR V9 X (e▸hi)
   ·have⟨cs',hr'⟩:=aT h3' X e;exact hF'.dR hr' X hi
  refine⟨_,⟨F',s9,awS,q1,?_,rfl⟩,tt.trans ⟨m11.mono λi _ hi=>.inr hi,λi hi=>?_⟩⟩
  ·rw[cl];exact q2.gR arv ho9
  ·rcases hi with hi|hi|hi
   ·exact a0U
   ·exact .inl (.inr (.inl hi))
   ·rcases iK with e|e
    ·exact .inl (.inr (.inr (e▸hi)))
    ·rw[e]at hi;cases hi;exact .inr (show w5.heap.size<=w5.heap.size+1 by omega)
 ·simp only[bne_eq_false_iff_eq]at lk;have ec:I' T.2 ch c b=ch:=by unfold I';rw[if_neg λh=>h.2 lk]
  rw[ec];exact⟨rfl,_,⟨F',sc,hF',V9,h3',rfl⟩,tt⟩
 ·simp only[beq_eq_false_iff_ne]at hb;have ec:I' T.2 ch c b=ch:=by unfold I';rw[if_neg λh=>hb h.1]
  rw[ec];exact⟨rfl,_,⟨F',sc,hF',V9,h3',rfl⟩,tt⟩
def ahL(l:List En)(ch:List Cg)(c:Ce)(b:Int):(I' l ch c b).length<=ch.length+1:=by
 unfold I';split
 ·simp
 ·omega
def vV(l:List En)(x z:Int):Nat->Int
 |0=> -1
 |y+1=>if jc l (x,((y:Nat):Int),z)= -1 then -2 else if jc l (x,((y:Nat):Int),z)=0 then vV l x z y else y
abbrev rQ(q:Po):LV:=[S q.1,S q.2]
def rO(p:Po):List Po:=[p,(p.1-1,p.2),(p.1+1,p.2),(p.1,p.2-1),(p.1,p.2+1)]
def Lq(p:Po)(hp:YP p)(w:au):ed 196 #[pv p] w (vI #[p.1,p.2,S (p.1-1),p.2,S (p.1+1),p.2,p.1,S (p.2-1),p.1,S (p.2+1)]):=by
 apply Pg.B;have⟨⟨p1,p2⟩,p3,p4⟩:=hp;have q1:I (p.1-1)=p.1-1:=wI;have q2:I (p.1+1)=p.1+1:=wI;have q3:I (p.2-1)=p.2-1:=wI;have q4:I (p.2+1)=p.2+1:=wI;rw[q1,q2,q3,q4];intro w0 e0 w1 e1;have z0:=fD e0;have x1:Ext w w1:=(aU e0).aZ e1;have hr:Row w1 w0 [J,J,J,J,J,J,J,J,J,J] 247:=Row.nw e1;refine⟨⟨rfl,hr.wr bo⟩,λe=>by
  have:w0.heap.size=w.heap.size:=a0s
  omega,λw2 e2=>?_⟩
 have h1:One [S p.1,p.2,S (p.1-1),p.2,S (p.1+1),p.2,p.1,S (p.2-1),p.1,S (p.2+1)]:=by intro v hv;simp only[cu,iT,or_false]at hv;rcases hv with rfl|rfl|rfl|rfl|rfl|rfl|rfl|rfl|rfl|rfl<;>rfl
 rw[hr.bB bo h1]at e2;have jT:Row w2 w0 [p.1,p.2,S (p.1-1),p.2,S (p.1+1),p.2,p.1,S (p.2-1),p.1,S (p.2+1)] 247:=hr.st e2;exact⟨_,_,_,_,_,_,_,_,_,_,jT.y (λj hj=>by rw[eF]),rfl,x1.L e2 U⟩
def ID(s:H)(ps:List Po)(p:Po)(w:au)(hs:RdK w s 2 (ps.map rQ))(hn:ps.length<=1000): Y 256 #[s,pv p] w λe w'=>(∃r:Int,e=r/\(0<=r↔p∈ps))/\Ext w w':=by
 apply By.B;have tE:=hs.n;rw[aK]at tE;intro w0 e0;have x0:=aU e0;refine⟨λn x w'=>∃j:Nat,x=j/\j+n=ps.length/\Ext w w'/\p∉ps.take j,⟨ps.length,rfl,0,rfl,U,x0,bo⟩,?_⟩;rintro n us x w5 ⟨j,rfl,hj,x5,hnp⟩;apply Z.mk<;>intro hb
 ·replace hb:=lM hb;have⟨y,hy⟩:=bX (l:=ps) (i:=j) U;have gF:=hs.ext (x5.A (Ext.K _));refine⟨hs.jX (i:=(j:Int)) X U hb,y.1,y.2,gF.y (i:=j) (r:=rQ y) (by rw[aW,hy];rfl),Z.mk (λh1=>?_) (λh1=>?_)⟩
  ·simp only[fF,beq_iff_eq]at h1;have:p=y:=Prod.ext h1.1 h1.2;exact⟨⟨_,rfl,λ_=>by rw[this];exact aQ hy,λ_=>by omega⟩,x5.A (Ext.K _)⟩
  ·have wk:=nE (j:=j);refine⟨n-1,U,rfl,j+1,wk,U,x5.A (Ext.K _),?_⟩;rw[dq,hy];intro hm;rcases dp.1 hm with hm|hm
   ·exact hnp hm
   ·simp only[Option.toList_some,ig]at hm;subst hm;simp at h1
 ·replace hb:=lW hb;rw[dN U]at hnp;exact⟨⟨-1,rfl,λh=>by omega,λh=>absurd h hnp⟩,x5⟩
def Bz(s:H)(ps:List Po)(p:Po)(w:au)(hs:RdK w s 2 (ps.map rQ))(hn:ps.length<=1000): ed 197 #[s,pv p] w (eL (decide (p∈ps))):=by
 apply vW.B;intro w0 e0;have z0:=fD e0;have x0:=aU e0;refine(ID s ps p w0 (hs.ext x0) hn).mono ?_;rintro e w1 ⟨⟨r,rfl,hr⟩,x1⟩;refine⟨r,rfl,x1.k,?_,x0.A x1⟩;have:decide (r>=0)=decide (p∈ps):=by rw[decide_eq_decide];exact hr
 rw[this]
def ahM{c:Ce}(hc: -1000000000<=c.1/\c.1<=1000000000)(hz: -1000000000<=c.2.2/\c.2.2<=1000000000):YP (pos c):=by unfold YP pos;simp only;omega
def Fz(l:List En)(c:Ce):aX:=(rO (pos c)).all λq=>decide (q∈l.map (·.1))
def CT(c:Ce)(hc:pQ c)(hp:YP (pos c)): ed 137 #[o,fQ c] w (eL (Fz T.2 c)):=by
 obtain⟨F1,sc,hT,hR,hO,rfl⟩:=h;apply ze.B;have cX:=hT.len;intro w1 e1;have z1:=fD e1;have x1:=aU e1;refine⟨_,(hR.ext x1).at 0 rfl,(uu (hT.ext x1)).mono ?_⟩;rintro e w2 ⟨s',rfl,ho,x2⟩;have z2:=x2.size;have gF:RdK w2 s' 2 ((T.2.map (·.1)).map rQ):=by rw[pR];exact ho.rd (show 0<2 by decide)
 refine⟨s',rfl,x2.k,(pS c hc w2).F λw4 x4=>?_⟩;have z4:=x4.size;refine⟨_,_,rfl,x4.k,(Lq (pos c) hp w4).F λw7 x7=>?_⟩;have z7:=x7.size;have dO:=x1.A (x2.A (x4.A x7));unfold Fz;generalize pos c=p at*;have S7:(T.2.map (·.1)).length<=1000:=by rw[aK];omega
 generalize T.2.map (·.1)=ps at*;refine⟨_,_,_,_,_,_,_,_,_,_,rfl,x7.k,λn x w'=>∃j:Nat,x=j/\j+n=5/\Ext w7 w'/\∀q∈(rO p).take j,q∈ps,⟨5,rfl,0,rfl,rfl,Ext.M _,bo⟩,?_⟩;rintro n us x dL ⟨j,rfl,hj,gG,wo⟩;have z25:=gG.size;apply Z.mk<;>intro hb
 ·replace hb:=lM hb;have hex:∃q:Po,(([p.1,p.2,S (p.1-1),p.2,S (p.1+1),p.2,p.1,S (p.2-1),p.1,S (p.2+1)]:LV).drop (((j:Nat):Int).toNat*2)).take 2=[S q.1,S q.2]/\(rO p)[j]? =some q:=by
   have:j=0\/j=1\/j=2\/j=3\/j=4:=by omega
   rcases this with rfl|rfl|rfl|rfl|rfl
   ·exact⟨p,rfl,rfl⟩
   ·exact⟨(p.1-1,p.2),rfl,rfl⟩
   ·exact⟨(p.1+1,p.2),rfl,rfl⟩
   ·exact⟨(p.1,p.2-1),rfl,rfl⟩
   ·exact⟨(p.1,p.2+1),rfl,rfl⟩
  have⟨q,hq1,hq2⟩:=hex;refine⟨⟨U,U⟩,q.1,q.2,hq1,λgI S8 pw e30=>?_⟩;have tF:Ext dL pw:=(aU S8).L e30 (ak _);have z30:pw.heap.size=dL.heap.size+1:=by rw[e30,setRow_size,S8];simp
  have xx:Ext w2 pw:=x4.A (x7.A (gG.A tF));refine(Bz s' ps q pw (gF.ext xx) S7).F λia oO=>?_
  have wk:=nE (j:=j);refine⟨_,rfl,oO.k,oO.k,Z.mk (λh1=>?_) (λh1=>?_)⟩
  ·refine⟨?_,dO.A ((gG.A tF).A oO)⟩;have hnq:q∉ps:=by simpa using h1
   have:((rO p).all λq=>decide (q∈ps))=false:=by rw[List.all_eq_false];exact⟨q,aQ hq2,ds hnq⟩
   rw[this]
  ·have hyq:q∈ps:=by simpa using h1
   refine⟨n-1,U,rfl,j+1,wk,U,(gG.A tF).A oO,?_⟩;rw[dq,hq2];intro y hy;rcases dp.1 hy with hy|hy
   ·exact wo y hy
   ·simp only[Option.toList_some,ig]at hy;subst hy;exact hyq
 ·replace hb:=lW hb;refine⟨?_,dO.A gG⟩;rw[dN (show(rO p).length<=j by unfold rO;simp;omega)]at wo;have:((rO p).all λq=>decide (q∈ps))=true:=by rw[JK];exactλq hq=>by simpa using wo q hq
  rw[this]
def WU(l:List En)(x z:Int):∀n:Nat,-2<=vV l x z n/\vV l x z n<n
 |0=>by unfold vV;omega
 |n+1=>by
  have:=WU l x z n
  unfold vV
  split
  ·omega
  ·split
   ·omega
   ·omega
end
def Tl(v:aC)(V:Ce->Int)(w:au):Prop:=∃D:Nat->Prop,(∀i,D i->i<w)/\∀w',(∀i,D i->w'.heap[i]? =w.heap[i]?)->∀c,pQ c->bu ka5 v [fQ c] w' λe w''=>e=S (V c)/\Ext w' w''
section
variable{v:aC}{V:Ce->Int}{w w':au}
def Tl.ext(h:Tl v V w)(x:Ext w w'):Tl v V w':=by have⟨D,h1,h2⟩:=h;exact⟨D,λi hi=>gK (h1 i hi) x.size,λw'' hk=>h2 w'' λi hi=>(hk i hi).trans (x.heap (h1 i hi))⟩
def Tl.at(h:Tl v V w){c:Ce}(hc:pQ c):bu ka5 v [fQ c] w λe w'=>e=S (V c)/\Ext w w':=a1D
def dY{l:LV}{R R':l_}(h:bu ka5 v l w R)(k:∀e w',R e w'->R' e w'):bu ka5 v l w R':=bJ h k
abbrev mW(x:Go.ej.Cg):LV:=[S x.1.1,S x.1.2.1,S x.1.2.2,S x.2]
def afo{E k n:Nat}{s s':H}{news:LV}(h:aY E k w s n news s' w')(hc:s.c<s.n+n):Ext w w':=by
 cases h with
 |fits hf=>omega
 |grows=>exact(Ext.K w).A (Ext.al _ _)
variable(hV:Tl v V w)
def U7(c:Ce)(hc:fh c): Y 308 #[v,fQ c] w λe w'=>∃s:H,e=s/\ar w rV 3 w' s ((sG V c).map eV)/\Ext w w':=by
 apply UK.B
 intro w0 e0
 have x0:=aU e0
 have z0:=fD e0
 refine(jt c hc w0).mono ?_
 rintro e w1 ⟨rfl,x1⟩
 have z1:=x1.size
 refine⟨_,_,_,_,_,_,_,_,_,_,_,_,_,_,_,_,_,_,rfl,x1.heap U,λeQ wx=>?_⟩
 have fe:=aU wx
 have z20:=fD wx
 have hr:Row eQ w1 [J,J,J,J,J,J,J,J,J,J,J,J,J,J,J,J,J,J] 266:=Row.nw wx
 refine⟨⟨rfl,hr.wr bo⟩,λe=>by
  have:w1.heap.size=w.heap.size:=a0s
  omega,λdi vq dh Dy=>?_⟩
 have vq:di=bB eQ (O w1) (TN c):=vq
 rw[hr.bB (vs:=TN c) bo (VU c),dC bo]at vq
 have jT:Row di w1 (TN c) 266:=hr.st vq
 have fk:Ext w di:=(x0.A (x1.A fe)).L vq U
 have z21:=Fb vq
 have xd:=Ext.K di
 have zd:=nV di
 have fX:=aU Dy
 have z22:=fD Dy
 have aA8:Row dh di.drew.heap.size (eV c) rV:=Row.nw Dy
 have aA9:=fk.A (xd.A fX)
 have aBa:=jT.ext (xd.A fX)
 have ho:ar w rV 3 dh ⟨O di.drew.heap.size,1,1⟩ [eV c]:=ar.jO U aA8 bo (ak _) rfl bo
 have ha:=ho.FB (bytes:=24) (more:=(rZ c).map eV) U (λr hr=>by obtain⟨y,-,rfl⟩:=bc.1 hr;rfl) (λr hr=>by obtain⟨y,-,rfl⟩:=bc.1 hr;exact HM y) (by simp[rZ]) (by simp[rZ])
 have⟨hp,bq⟩:=ha
 refine⟨((rZ c).map eV).flatten,?_,hp,λyU dL aj0=>?_⟩
 ·rw[dt]
  intro i u hu
  exact aBa.at i (by rw[afk];exact hu)
 obtain⟨TH,aBb,-,-,-⟩:=bq yU dL aj0
 have gG:Ext dh dL:=afo aj0 (show(1:Nat)<1+(6-0)by decide)
 have z25:=gG.size
 have auh:Ext w dL:=aA9.A gG
 have TH:ar w rV 3 dL yU ((c::rZ c).map eV):=TH
 have gF:=TH.rd (show 0<3 by decide)
 have aII:yU.n=7:=gF.n
 refine⟨gG.heap U,gG.heap U,λn x EE ia=>∃j:Nat,x=j/\j+n=7/\ar dL rV 3 ia EE ((((c::rZ c).take j).filter λn=>decide (0<jS (V n))).map eV)/\Ext dL ia,⟨7,rfl,rfl,0,rfl,rfl,ar.nil,Ext.M _⟩,?_⟩
 rintro n us x EE ia ⟨j,rfl,hj,ag9,oO⟩
 have z31:=oO.size
 apply Z.mk<;>intro hb
 ·replace hb:=lM hb
  have⟨y,hy⟩:=bX (l:=c::rZ c) (i:=j) (by have:(c::rZ c).length=7:=rfl;omega)
  have Jr:y∈c::rZ c:=aQ hy
  have oky:pQ y:=by
   rcases cu.1 Jr with rfl|h
   ·exact hc.ok
   ·exact FR hc h
  have hy':((c::rZ c).map eV)[j]? =some (eV y):=by rw[aW,hy];rfl
  have xk:(c::rZ c).take (j+1)=(c::rZ c).take j++[y]:=by rw[dq,hy];rfl
  refine⟨gF.jX (i:=(j:Int)) X U hb,_,_,_,(gF.ext oO).y hy',λmG e36 jD e37=>?_⟩
  have mO:Ext ia jD:=(aU e36).L e37 (ak _)
  have z37:=yL e36 e37
  refine dY ((hV.ext (auh.A (oO.A mO))).at oky) ?_
  rintro e tH ⟨rfl,nC⟩
  have z38:=nC.size
  refine⟨_,rfl,nC.heap U,nC.heap U,nC.heap U,(GU (V y) tH).mono ?_⟩
  rintro e nT ⟨rfl,rfl⟩
  have wk:=nE (j:=j)
  refine⟨_,rfl,rfl,rfl,rfl,?_⟩
  have aui:=ag9.ext (mO.A nC)
  apply Z.mk<;>intro hd
  ·intro nS e42
   subst e42
   have aIJ:EE.n<=7:=by
    have h1:=(ag9.rd (show 0<3 by decide)).n
    have h2:=zy (λn=>decide (0<jS (V n))) ((c::rZ c).take j)
    rw[aK]at h1
    rw[cS]at h2
    omega
   have⟨Te,hres8⟩:=aui.l6 (bytes:=24) (news:=eV y) (.cells #[y.1,y.2.1,y.2.2] rV) U rfl (HM y) U U
   refine⟨Te,λs43 kf aha=>?_⟩
   obtain⟨f8,KZ,hn8,x8,hk8,-⟩:=hres8 s43 kf aha
   have xa:=Ext.al nT (.cells #[y.1,y.2.1,y.2.2] rV)
   have anA:∀b,EE.D=some b->dL.heap.size<=b/\b<ia.heap.size:=λb hb=>ag9.own.lt hb
   have kp:∀j,(j<dL.heap.size\/ia.heap.size<=j)->j<nT.heap.size->kf.heap[j]? =(nT.alloc (.cells #[y.1,y.2.1,y.2.2] rV)).heap[j]? :=λj hj hj2=>by
    rw[hk8 j (λhb=>a1N (anA j hb)) hj2,xa.heap hj2]
   refine⟨kp _ (.inl U) U,kp _ (.inl U) U,kp _ (.inr U) U,f8,n-1,by omega,rfl,rfl,j+1,wk,by omega,?_,(Below.trans (oO.A (mO.A nC)) x8:Below dL dL kf)⟩
   rw[xk,wG,cl,W6 (ds hd)]
   exact KZ
  ·refine⟨n-1,by omega,rfl,rfl,j+1,wk,by omega,?_,oO.A (mO.A nC)⟩
   rw[xk,wG,cl,W7 (ds hd)]
   simpa using aui
 ·replace hb:=lW hb
  have hj7:(c::rZ c).take j=c::rZ c:=dN (by have:(c::rZ c).length=7:=rfl;omega)
  rw[hj7]at ag9
  exact⟨EE,rfl,ag9.low U,auh.A oO⟩
def Uo(c:Ce):((TN c).drop ((2:Int).toNat*3)).take 3=eV (fy c):=rfl
def Y2(c:Ce)(hc:fh c): Y 276 #[v,fQ c] w λe w'=>∃s:H,e=s/\ar w mU 4 w' s ((Sq V c).map mW)/\Ext w w':=by
 apply Zj.B;intro w0 e0;have x0:=aU e0;have z0:=fD e0;refine(jt c hc w0).mono ?_;rintro e w1 ⟨rfl,x1⟩;have z1:=x1.size;have okl:pQ (fy c):=FR hc (by simp[rZ]);refine⟨_,_,_,_,_,_,_,_,_,_,_,_,_,_,_,_,_,_,rfl,x1.heap U,by decide,_,_,_,Uo c,λjE e23 ie Jq=>?_⟩;have jn:Ext w1 ie:=(aU e23).L Jq (ak _);have z24:=yL e23 Jq;have apJ:=x0.A (x1.A jn);refine dY ((hV.ext apJ).at okl) ?_;rintro e dL ⟨rfl,gG⟩;have z25:=gG.size;refine⟨_,rfl,gG.heap U,gG.heap U,(Du (V (fy c)) dL).mono ?_⟩;rintro e gO ⟨rfl,rfl⟩;unfold Sq;refine⟨_,rfl,rfl,rfl,Z.mk (λh=>?_) (λh=>λgI S8=>?_)⟩
 ·rw[if_neg (ds h)];exact⟨⟨none,0,0⟩,rfl,ar.nil,apJ.A gG⟩
 ·rw[if_pos (ds h)];have hr:Row gI gO (([(c,V (fy c)),(fy c,3)]:List Go.ej.Cg).map mW).flatten mU:=Row.nw S8;exact⟨⟨O gO,2,2⟩,rfl,ar.jO U hr (ak _) (ak _) rfl (by intro r hr;simp at hr;rcases hr with rfl|rfl<;>rfl),(apJ.A gG).aZ S8⟩
end
section
variable{b_ F F':Nat->Prop}{w w' v v':au}{s1 s2 s3 s4:H}{T T':Tb}{ch ch':List Cg}{aj cap limit:Int}{o t a b m n k:Nat}
def Q1(h:WF F w o t aj limit T ch)(hW:T.1.l.length<=1000000)(p:Po): Y 88 #[t,pv p] w λe w'=>e=S (yO aj limit T.1 T.2 p).2/\Pf F w o t aj limit (yO aj limit T.1 T.2 p).1 ch w':=by
 obtain⟨F1,hT,-,bq⟩:=h.table;refine(Q2 hT hW p).F λw' hr=>?_
 exact⟨rfl,bq hr⟩
def Z8(h:WF F w o t aj limit T ch)(c:Ce)(hc:pQ c): ed 113 #[t,fQ c] w (S (jc T.2 c)):=by
 obtain⟨F1,hT,-⟩:=h.table;exact Bw hT c hc
def WF.aq0{F:Nat->Prop}{w:au}{T:Tb}{ch:List Cg}{aj limit:Int}{o t:Nat}(h:WF F w o t aj limit T ch){w':au}(hk:∀i,F i->w'.heap[i]? =w.heap[i]?)(c:Ce)(hc:pQ c): bu ka5 (.func (.func 113) #[t] #[]) [fQ c] w' λe w''=>e=S (jc T.2 c)/\Ext w' w'':=
 bR (by kernel_rfl) rfl (Z8 (h.same hk) c hc)
end
def Lo.wv{w:au}{g:Nat}{cs:LV}{τ:aB}(h:Row w g cs τ):ah w (O g) 0 cs:=h.y (λj hj=>by rw[eF])
open Go.dS
abbrev IW:aB:=129
structure Sm where
 aj:Int
 cap:Int
 T:Tb
 ch:List Go.ej.Cg
 q:QS
 dz:Int
 now:Int
 nk:List Ce
abbrev G'(g o:Nat)(M:Sm)(occ:aC)(sd:H):LV:=[g,o,S M.dz,S M.now,occ,.slice sd.a sd.n sd.c]
def SF(F:Nat->Prop)(w:au)(s o t:Nat)(M:Sm)(occ:aC):Prop:=
 ∃g m qs Fw sd,Row w s (G' g o M occ sd) IW/\Q.tX w g m qs M.q/\yN M.q/\WF Fw w o t M.aj M.cap M.T M.ch/\ar 0 rV 3 w sd (M.nk.map eV)/\(∀i,Q.gN g m qs i->¬Fw i)/\F=λi=>i=s\/Q.gN g m qs i\/Fw i\/sd.D=some i
section
variable{F F':Nat->Prop}{w w':au}{s o t:Nat}{M M':Sm}{occ:aC}
def SF.lt(h:SF F w s o t M occ){i:Nat}(hi:F i):i<w:=by
 obtain⟨g,m,qs,Fw,sd,h1,h2,-,h3,h4,-,rfl⟩:=h;rcases hi with rfl|hi|hi|hi
 ·exact h1.lt
 ·exact h2.lt i hi
 ·exact h3.lt hi
 ·exact(h4.own.lt hi).2
def SF.same(h:SF F w s o t M occ)(hk:∀i,F i->w'.heap[i]? =w.heap[i]?):SF F w' s o t M occ:=by obtain⟨g,m,qs,Fw,sd,h1,h2,hq,h3,h4,h5,rfl⟩:=h;have⟨kvs,m1,m2⟩:=h2.map;exact⟨g,m,qs,Fw,sd,h1.same (hk _ (.inl rfl)),⟨h2.row.same (hk _ (.inr (.inl (.inl rfl)))),ar.aV h2.own λb hb=>hk b (.inr (.inl (.inr (.inr hb)))),kvs,m1.same (hk _ (.inr (.inl (.inr (.inl rfl))))),m2⟩,hq,h3.same λi hi=>hk i (.inr (.inr (.inl hi))),ar.aV h4 λb hb=>hk b (.inr (.inr (.inr hb))),h5,rfl⟩
def SF.ext(h:SF F w s o t M occ)(x:Ext w w'):SF F w' s o t M occ:=h.same λ_ hi=>x.heap (h.lt hi)
def SF.dR(h:SF F w s o t M occ){j:Nat}{cs:LV}{τ:aB}(hr:Row w j cs τ)(h1:Pe τ)(h2:τ≠Bu)(h3:τ≠mU)(h4:τ≠IW)(h5:τ≠Q.nM)(h6:τ≠Q.cc)(hj:∀(g:Nat)(sd:H),Row w s (G' g o M occ sd) IW->sd.D≠some j):¬F j:=by
 obtain⟨g,m,qs,Fw,sd,r1,r2,-,r3,r4,-,rfl⟩:=h;rintro(hi|hi|hi|hi)
 ·exact hr.ne r1 h4 hi
 ·exact r2.dR hr h5 h6 hi
 ·exact r3.dR hr h1 h2 h3 hi
 ·exact hj g sd r1 hi
def SF.pX(h:SF F w s o t M occ){j:Nat}{cs:LV}{τ:aB}(hr:Row w j cs τ)(h1:Pe τ)(h2:τ≠Bu)(h3:τ≠mU)(h4:τ≠IW)(h5:τ≠Q.nM)(h6:τ≠Q.cc)(h7:τ≠rV):¬F j:=by
 obtain⟨g,m,qs,Fw,sd,r1,r2,-,r3,r4,-,rfl⟩:=h;rintro(hi|hi|hi|hi)
 ·exact hr.ne r1 h4 hi
 ·exact r2.dR hr h5 h6 hi
 ·exact r3.dR hr h1 h2 h3 hi
 ·have⟨cs',hr'⟩:=aT r4 X hi;exact hr.ne hr' h7 rfl
abbrev ni(F:Nat->Prop)(w:au)(s o t:Nat)(M:Sm)(occ:aC)(w':au):Prop:=∃F',SF F' w' s o t M occ/\aJ F F' w w'
def SF.world(h:SF F w s o t M occ):∃Fw,WF Fw w o t M.aj M.cap M.T M.ch/\(∀i,Fw i->F i)/\∀{w':au}{T':Tb}{ch':List Go.ej.Cg},Pf Fw w o t M.aj M.cap T' ch' w'->ni F w s o t {M with T:=T',ch:=ch'} occ w':=by
 obtain⟨g,m,qs,Fw,sd,h1,h2,hq,h3,h4,h5,rfl⟩:=h;refine⟨Fw,h3,λi hi=>.inr (.inr (.inl hi)),?_⟩;rintro w' T' ch' ⟨F',h',ht⟩;have n1:=h3.dR h1 X X X;have n2:∀i,Q.gN g m qs i->¬Fw i:=h5;have n4:∀b,sd.D=some b->¬Fw b:=λb hb=>a1n
 refine⟨_,⟨g,m,qs,F',sd,ht.mod.row h1 n1,h2.aV ht.mod n2,hq,h',ht.mod.gR h4 n4,?_,rfl⟩,ht.mod.mono λi _ hi=>.inr (.inr (.inl hi)),λi hi=>?_⟩
 ·exactλi hi hf=>ht.apart (g_:=Q.gN g m qs) (λi hi hg=>h5 i hg hi) (λi hi=>h2.lt i hi) i hf hi
 ·rcases hi with hi|hi|hi|hi
  ·exact a0U
  ·exact .inl (.inr (.inl hi))
  ·exact(ht.sub i hi).imp (λh=>.inr (.inr (.inl h))) id
  ·exact .inl (.inr (.inr (.inr hi)))
def SF.queue(h:SF F w s o t M occ):∃g m qs,Q.tX w g m qs M.q/\yN M.q/\(∃sd,Row w s (G' g o M occ sd) IW)/\(∀i,Q.gN g m qs i->F i)/\∀{w':au}{qs':H}{q':QS},Q.tX w' g m qs' q'->yN q'->aJ (Q.gN g m qs) (Q.gN g m qs') w w'->ni F w s o t {M with q:=q'} occ w':=by
 obtain⟨g,m,qs,Fw,sd,h1,h2,hq,h3,h4,h5,rfl⟩:=h;refine⟨g,m,qs,h2,hq,⟨sd,h1⟩,λi hi=>.inr (.inl hi),?_⟩;rintro w' qs' q' h' hq' ht;have n1:=h2.dR h1 X X;have n3:∀i,Fw i->¬Q.gN g m qs i:=λi hi hf=>h5 i hf hi
 have n4:=h2.aez h4 X X X;refine⟨_,⟨g,m,qs',Fw,sd,ht.mod.row h1 n1,h',hq',h3.aV ht.mod n3,ht.mod.gR h4 n4,?_,rfl⟩,ht.mod.mono λi _ hi=>.inr (.inl hi),λi hi=>?_⟩
 ·exactλi hi hf=>ht.apart (g_:=Fw) (λi hi hg=>h5 i hi hg) (λi hi=>h3.lt hi) i hi hf
 ·rcases hi with hi|hi|hi|hi
  ·exact a0U
  ·exact(ht.sub i hi).imp (λh=>.inr (.inl h)) id
  ·exact .inl (.inr (.inr (.inl hi)))
  ·exact .inl (.inr (.inr (.inr hi)))
def SF.row(h:SF F w s o t M occ):∃g sd,Row w s (G' g o M occ sd) IW/\ar 0 rV 3 w sd (M.nk.map eV)/\F s/\(∀b,sd.D=some b->F b)/\∀{w':au}{M':Sm}{occ':aC}{sd':H},M'.aj=M.aj->M'.cap=M.cap->M'.T=M.T->M'.ch=M.ch->M'.q=M.q->Mod (λi=>i=s\/sd.D=some i) w w'->Row w' s (G' g o M' occ' sd') IW->ar 0 rV 3 w' sd' (M'.nk.map eV)->(∀b,sd'.D=some b->sd.D=some b\/w<=b)->ni F w s o t M' occ' w':=by
 obtain⟨g,m,qs,Fw,sd,h1,h2,hq,h3,h4,h5,rfl⟩:=h;refine⟨g,sd,h1,h4,.inl rfl,λb hb=>.inr (.inr (.inr hb)),?_⟩;rintro w' M' occ' sd' e1 e2 e3 e4 e5 hm hr hd dP;have q1:=h2.dR h1 X X;have q2:=h2.aez h4 X X X;have r1:=h3.dR h1 X X X;have r2:∀b,sd.D=some b->¬Fw b:=λb hb=>a1n
 refine⟨_,⟨g,m,qs,Fw,sd',hr,by rw[e5];exact h2.aV hm λi hi hf=>hf.elim (λe=>q1 (e▸hi)) (λe=>q2 _ e hi),by rw[e5];exact hq,by rw[e1,e2,e3,e4];exact h3.aV hm λi hi hf=>hf.elim (λe=>r1 (e▸hi)) (λe=>r2 _ e hi),hd,h5,rfl⟩,hm.mono λi _ hi=>hi.elim .inl (λe=>.inr (.inr (.inr e))),λi hi=>?_⟩;rcases hi with hi|hi|hi|hi
 ·exact a0U
 ·exact .inl (.inr (.inl hi))
 ·exact .inl (.inr (.inr (.inl hi)))
 ·exact(dP i hi).imp (λh=>.inr (.inr (.inr h))) id
end
def Ay(M:Sm)(c:Ce)(b:Int):Sm:={M with T:=(M.T.1,(jo M.T.2 c b).1),ch:=I' M.T.2 M.ch c b,q:=if(jo M.T.2 c b).2=0 then GR (jc (jo M.T.2 c b).1) M.now M.q c else M.q}
def eY(M:Sm)(x:Go.ej.Cg):Sm:=if jc M.T.2 x.1=x.2 then M else Ay M x.1 x.2
def GX(d':Ce->aX)(M:Sm)(c:Ce):aX:=decide (jc M.T.2 c=3)&&(!(iU (jc M.T.2) c).isEmpty&&d' (fy c))
def wi(d':Ce->aX)(M:Sm)(c:Ce):Sm:=
 if Fz M.T.2 c=false then {M with q:=(lD M.q c (M.now+1)).1}
 else if GX d' M c=true then eY {M with nk:=M.nk++ [fy c]} (c,0)
 else (iU (jc M.T.2) c).foldl eY M
def qC(M:Sm):Int:=min (M.now+1) 1099511627776
def GY(M:Sm):Sm:={M with now:=qC M,q:=(Na M.q (qC M) M.dz).1}
def uO(M:Sm):List Ce:=(Na M.q (qC M) M.dz).2
def QT(d':Ce->aX)(M:Sm):Sm:=(uO M).foldl (wi d') (GY M)
section
variable{F F':Nat->Prop}{w w':au}{s o t:Nat}{M M':Sm}{occ:aC}
def SF.tl(h:SF F w s o t M occ):Tl (.func (.func 113) #[t] #[]) (jc M.T.2) w:=by obtain⟨Fw,hW,-,-⟩:=h.world;exact⟨Fw,λi hi=>hW.lt hi,λw' hk c hc=>hW.aq0 hk c hc⟩
def aec:yN ⟨4096,0,[]⟩:=⟨X,X,List.Pairwise.nil,List.nodup_nil⟩
def QQ{Fw:Nat->Prop}{aj cap:Int}{T:Tb}{ch:List Go.ej.Cg}(h:WF Fw w o t aj cap T ch)(dz:Int):Y 114 #[o,dz] w λe w'=>∃s F,e=dr (O s)/\SF F w' s o t ⟨aj,cap,T,ch,⟨4096,0,[]⟩,min (max dz 1) 64,0,[]⟩ (.func (.func 175) #[] #[])/\Ext w w'/\(∀i,F i->Fw i\/w<=i):=by
 apply aib.B;refine(Q.Au 4096 w).mono ?_;rintro e w0 ⟨g,m,rfl,hq,x0,hg,hm⟩;refine⟨_,rfl,λw2 e2=>?_⟩;have eb:(if 64<(if 1>dz then 1 else dz)then 64 else(if 1>dz then 1 else dz))=min (max dz 1) 64:=a0n
 rw[eb]at e2;have x2:=aU e2;have hr:Row w2 w0 (G' g o ⟨aj,cap,T,ch,⟨4096,0,[]⟩,min (max dz 1) 64,0,[]⟩ (.func (.func 175) #[] #[]) ⟨none,0,0⟩) IW:=Row.nw e2;refine⟨w0,_,rfl,⟨g,m,⟨none,0,0⟩,Fw,⟨none,0,0⟩,hr,hq.ext x2,aec,h.ext (x0.A x2),ar.nil,?_,rfl⟩,x0.A x2,λi hi=>?_⟩
 ·rintro i (hi|hi|hi) hf
  ·have:=h.lt hf;omega
  ·exact a0o
  ·cases hi
 ·have:=x0.size;rcases hi with hi|(hi|hi|hi)|hi|hi
  ·exact .inr U
  ·exact .inr U
  ·exact .inr U
  ·cases hi
  ·exact .inl hi
  ·cases hi
def cZ(h:SF F w s o t M occ):kh 39 #[s] w (dr (O o)):=by obtain⟨g,sd,h1,-⟩:=h.row;apply IS.B;exact⟨_,h1.at 1 rfl,rfl,rfl⟩
def wT(h:SF F w s o t M occ):Y 46 #[s] w λe w'=>∃s':H,e=s'/\ar w Q.cc 4 w' s' (M.q.l.map fM)/\Ext w w':=by obtain⟨g,m,qs,hq,hok,⟨sd,hr⟩,-⟩:=h.queue;apply DV.B;refine⟨_,hr.at 0 rfl,(Q.aee hq hok).mono ?_⟩;rintro e w' ⟨s',rfl,ho,x⟩;exact⟨s',rfl,s',rfl,ho,x⟩
def M5(h:SF F w s o t M occ)(f:Fn)(a b:ae):Y 83 #[s,.func f a b] w λe w'=>e=pz/\ni F w s o t M (.func f a b) w'/\Mod (λi=>i=s) w w':=by
 obtain⟨g,sd,hr,ho,-,-,bq⟩:=h.row;apply Gi.B;have⟨p1,p2⟩:=hr.ft (j:=4) (v:=.func f a b) (by simp[G']) rfl;refine⟨⟨rfl,p1⟩,λw0 e0=>⟨rfl,?_⟩⟩;have⟨q1,q2⟩:=p2 w0 e0;have hso:∀b,sd.D=some b->b≠s:=λb hb=>a1B
 exact⟨bq (M':=M) rfl rfl rfl rfl rfl (q2.mono λi _ hi=>.inl hi) q1 (q2.gR ho hso) (λb hb=>.inl hb),q2⟩
def QR(b:Int):0<=jS b/\jS b<=5:=by
 unfold jS;split
 ·decide
 ·split<;>decide
def aef{V:Ce->Int}{c:Ce}(hc:fh c):∀n∈sG V c,pQ n:=λn hn=>by
 unfold sG at hn
 rcases cu.1 (jY.1 hn).1 with rfl|h
 ·exact hc.ok
 ·exact FR hc h
def Kn(V:Ce->Int)(c:Ce):(sG V c).length<=7:=zy _ _
abbrev GP(V:Ce->Int)(now:Int)(q:QS)(n:Ce):QS:=(lD q n (now+jS (V n))).1
def xX(V:Ce->Int)(now:Int):∀(l:List Ce)(q:QS),q.lost<=(l.foldl (GP V now) q).lost/\(l.foldl (GP V now) q).lost<=q.lost+l.length
 | [],q=>⟨jI _,bo⟩
 |n::l,q=>by
  have h1:=xX V now l (GP V now q n)
  have h2:=BY q n (now+jS (V n))
  have h3:(GP V now q n).lost=(lD q n (now+jS (V n))).1.lost:=rfl
  simp only[qY,cL]
  omega
def ZY(h:SF F w s o t M occ)(c:Ce)(hc:fh c)(hl:0<=M.q.lost/\M.q.lost<=900000000)(ape:0<=M.now/\M.now<=1099511627776): Y 251 #[s,fQ c] w λe w'=>e=pz/\ni F w s o t {M with q:=GR (jc M.T.2) M.now M.q c} occ w':=by
 apply Mw.B;intro w0 e0;have x0:=aU e0;have z0:=fD e0;have h0:=h.ext x0;obtain⟨g,sd,hr,-,hFs,-⟩:=h0.row;obtain⟨Fw,hW,-,-⟩:=h0.world;refine⟨_,hr.at 1 rfl,(lZ hW).F λw2 hw=>?_⟩;subst hw;refine⟨_,rfl,rfl,(U7 h0.tl c hc).mono ?_⟩;rintro e w4 ⟨s5,rfl,ho,x4⟩;have z4:=x4.size;have gF:=ho.rd (show 0<3 by decide);have hn5:=gF.n;have h4:=h0.ext x4;have hL:=Kn (jc M.T.2) c;have hok:=aef (V:=jc M.T.2) hc;unfold GR;generalize hLe:sG (jc M.T.2) c=L at*;rw[aK]at hn5;refine⟨s5,rfl,x4.k,λn x br=>∃(j:Nat)(F':Nat->Prop),x=j/\j+n=L.length/\SF F' br s o t {M with q:=(L.take j).foldl (GP (jc M.T.2) M.now) M.q} occ/\aJ F F' w4 br,⟨L.length,rfl,0,F,rfl,U,h4,aJ.refl _ _⟩,?_⟩;rintro n us x br ⟨j,F',rfl,hj,hS,hT⟩;have z10:=hT.mod.size;have hF:∀i,F i->i<w.heap.size:=λi hi=>h.lt hi
 have hrd10:RdK br s5 3 (L.map eV):=hT.mod.rdK X gF λ_ b hb hf=>by have:=(ho.own.lt hb).1;have:=hF b hf;omega
 apply Z.mk<;>intro hb
 ·replace hb:=lM hb;have⟨y,hy⟩:=bX (l:=L) (i:=j) U;have oky:=hok y (aQ hy);have hy':(L.map eV)[j]? =some (eV y):=by rw[aW,hy];rfl
  have xk:L.take (j+1)=L.take j++[y]:=by rw[dq,hy];rfl
  have hlost:=xX (jc M.T.2) M.now (L.take j) M.q;have aGR:(L.take j).length<=7:=by rw[cS];omega
  generalize hqj:(L.take j).foldl (GP (jc M.T.2) M.now) M.q=qj at*;refine⟨hrd10.jX (i:=(j:Int)) X U hb,_,_,_,hrd10.y hy',λc9 pC bZ CH=>?_⟩;have dw:Ext br bZ:=(aU pC).L CH (ak _);have z16:=yL pC CH;have azo:Row bZ br (eV y) rV:=by rw[CH];exact Row.set (by rw[pC];exact Row.new br [_,_,_] _) _
  have xd:=dw.A (Ext.K bZ);have zd:=nV bZ;have atj:=hS.ext xd;have⟨g',m,qs,hq,Ih,⟨sd',hr'⟩,dP,bq⟩:=atj.queue;refine⟨_,hr'.at 0 rfl,_,hr'.at 3 rfl,dY (atj.tl.at oky) ?_⟩;rintro e fm ⟨rfl,dQ⟩;have z19:=dQ.size;have aka:=hr'.ext dQ;have atl:=(azo.ext (Ext.K bZ)).ext dQ;have hd:=QR (jc M.T.2 y);have wr:I (M.now+jS (jc M.T.2 y))=M.now+jS (jc M.T.2 y):=wI;refine⟨_,rfl,dQ.k,dQ.k,ph (aka.at 3 rfl),Lo.wv atl,ph (aka.at 0 rfl),(GU (jc M.T.2 y) fm).F λdi hw=>?_⟩;subst hw;refine⟨_,rfl,rfl,rfl,ph (aka.at 3 rfl),Lo.wv atl,ph (aka.at 0 rfl),?_⟩;rw[wr];refine(Q.GV (hq.ext dQ) Ih (by simp only at hlost⊢;omega) y (M.now+jS (jc M.T.2 y))).mono ?_;rintro e jE ⟨rfl,qs',hq',ht⟩;have wk:=nE (j:=j);have ht':aJ (Q.gN g' m qs) (Q.gN g' m qs') bZ.drew jE:=(aJ.P dQ).trans ht;have⟨F2,hS2,Ii⟩:=bq hq' (Ih.add y _) ht';have hsF:¬Q.gN g' m qs s:=(hq).dR hr' X X;have azp:=ht'.mod.row hr' hsF;have nf:∀i,(w.heap.size<=i/\i<w4.heap.size\/br.heap.size<=i)->i<bZ.drew.heap.size->jE.heap[i]? =di.heap[i]? :=λi h1 h2=>(Ii.mod.same i h2 (λhf=>by
   rcases h1 with⟨h1,S6⟩|h1
   ·rcases hT.sub i hf with q|q
    ·have:=hF i q;omega
    ·omega
   ·have:=hS.lt hf;omega)).trans (dQ.heap h2).symm
  refine⟨_,rfl,nf _ (.inl U) U,nf _ (.inr U) U,ph (azp.at 3 rfl),n-1,U,rfl,j+1,F2,wk,U,?_,(hT.trans (aJ.P xd)).trans Ii⟩;rw[xk,og,hqj];exact hS2
 ·replace hb:=lW hb;rw[dN U]at hS;exact⟨rfl,F',hS,(aJ.P (x0.A x4)).trans hT⟩
end
section
variable{F F':Nat->Prop}{w w':au}{s o t:Nat}{M M':Sm}{occ:aC}
def ni.trans{F1:Nat->Prop}{w1:au}(h:aJ F F1 w w1)(k:ni F1 w1 s o t M occ w'):ni F w s o t M occ w':=a1C
structure qB(M:Sm)(n:Nat):Prop where
 l:0<=M.q.lost/\M.q.lost<=n
 c:M.ch.length<=n
 now:0<=M.now/\M.now<=1099511627776
 d:M.nk.length<=n
def qB.mono{n m:Nat}(h:qB M n)(hm:n<=m):qB M m:=⟨⟨h.l.1,a1N h.l.2⟩,cV h.c hm,h.now,cV h.d hm⟩
def aeC(l:List En)(ch:List Go.ej.Cg)(c:Ce)(b:Int):(I' l ch c b).length<=ch.length+1:=ahL l ch c b
def Vx(V:Ce->Int)(now:Int)(q:QS)(c:Ce):q.lost<=(GR V now q c).lost/\(GR V now q c).lost<=q.lost+7:=by have h1:=xX V now (sG V c) q;have h2:=Kn V c;have h3:GR V now q c=(sG V c).foldl (GP V now) q:=rfl;rw[h3];omega
def qB.edit{n:Nat}(h:qB M n)(c:Ce)(b:Int):qB (Ay M c b) (n+7):=by
 have h1:=aeC M.T.2 M.ch c b;have h2:=Vx (jc (jo M.T.2 c b).1) M.now M.q c;have h3:=h.l;have h4:=h.c;unfold Ay;have h5:=h.d;refine⟨?_,?_,h.now,hX⟩
 ·simp only;split<;>omega
 ·simp only;omega
def qB.change{n:Nat}(h:qB M n)(x:Go.ej.Cg):qB (eY M x) (n+7):=by
 unfold eY;split
 ·exact h.mono U
 ·exact h.edit _ _
def Dl(h:SF F w s o t M occ)(c:Ce)(b:Int)(Er:pQ c)(hc:(jo M.T.2 c b).2=0->fh c)(hk:qB M 800000000): Y 188 #[s,fQ c,b] w λe w'=>e=S (jo M.T.2 c b).2/\ni F w s o t (Ay M c b) occ w':=by
 apply Mv.B;intro w0 e0;have x0:Ext w w0.drew:=(aU e0).A (Ext.K w0);have z0:w0.drew.heap.size=w.heap.size+1:=a0u
 have zd:=nV w0;have h0:=h.ext x0;obtain⟨g,sd,hr,-⟩:=h0.row;have⟨Fw,hW,dP,bq⟩:=h0.world;have hlc:=hk.c;have hll:=hk.l;refine⟨_,(hr.at 1 rfl),(YO hW c Er b U).F λw2 hw=>?_⟩;have⟨F2,h2,t2⟩:=bq hw;have hF:∀{i},w.heap.size<=i->i<w0.drew.heap.size->w2.heap[i]? =w0.drew.heap[i]? :=λh1 h3=>t2.mod.same _ h3 λhf=>a0o
 unfold Ay;refine⟨_,rfl,hF (ak _) U,Z.mk (λhb=>?_) (λhb=>?_)⟩
 ·rw[if_pos (ds hb)];refine(ZY h2 c (hc (ds hb)) hX hk.now).mono ?_;rintro e w4 ⟨rfl,F4,h4,t4⟩;have hz:=t2.mod.size;have hnf:¬F2 w:=λhf=>by
   rcases t2.sub _ hf with q|q
   ·exact a0h
   ·omega
  exact⟨rfl,t4.mod.same _ U hnf,rfl,F4,h4,(aJ.P x0).trans (t2.trans t4)⟩
 ·rw[if_neg (ds hb)];exact⟨rfl,F2,h2,(aJ.P x0).trans t2⟩
def Vy(h:SF F w s o t M occ)(c:Ce)(hc:fh c)(b:Int)(hk:qB M 800000000): Y 188 #[s,fQ c,b] w λe w'=>e=S (jo M.T.2 c b).2/\ni F w s o t (Ay M c b) occ w':=
 Dl h c b hc.ok (λ_=>hc) hk
def qm(h:SF F w s o t M occ)(x:Go.ej.Cg)(hc:fh x.1)(hk:qB M 800000000): Y 223 #[s,.agg (mW x).toArray] w λe w'=>e=pz/\ni F w s o t (eY M x) occ w':=by
 apply Gj.B;intro w0 e0;have OM:Row w0 w (mW x) mU:=Row.nw e0;have x0:Ext w w0.drew:=(aU e0).A (Ext.K w0);have z0:w0.drew.heap.size=w+1:=a0u
 have hb:=OM.ext (Ext.K w0);have h0:=h.ext x0;obtain⟨g,sd,hr,-⟩:=h0.row;obtain⟨Fw,hW,-,-⟩:=h0.world;refine⟨_,(hr.at 1 rfl),(lZ hW).F λw2 hw=>?_⟩;subst hw;refine⟨_,rfl,rfl,hb.y (o:=3) (λj hj=>by
  match j,hj with
  |0,_=>rfl),hb.y (o:=0) (λj hj=>by
  match j,hj with
  |0,_=>rfl
  |1,_=>rfl
  |2,_=>rfl),dY (h0.tl.at hc.ok) ?_⟩
 rintro e w4 ⟨rfl,x4⟩;have z4:=x4.size;have E9:=x0.A x4;unfold eY;refine⟨_,rfl,x4.k,(hb.ext x4).y (o:=3) (λj hj=>by
  match j,hj with
  |0,_=>rfl),Z.mk (λlk=>?_) (λlk=>?_)⟩
 ·rw[if_neg (ds lk)];refine(Vy (h.ext E9) x.1 hc x.2 hk).mono ?_;rintro e w6 ⟨rfl,F6,h6,t6⟩;exact⟨_,rfl,t6.mod.same _ U (λhf=>a0o),rfl,F6,h6,(aJ.P E9).trans t6⟩
 ·rw[if_pos (ds lk)];exact⟨rfl,F,h.ext E9,aJ.P E9⟩
end
open Tryz
variable{R:l_}{w:au}{a0 a2 aG aH aS:Int}
def PM.B{a0:aC}(h:(λA B C=>G w B 23 λw0=>Y 328 #[a0,.agg B] w0 (Xf λx2 b3 w1=>Kp w w0 w1/\∃J4:k_,(Z C (Z (!b3) (G w1 #[aG,aH,aS,J] 269 λw5=>R (tr (O w1) 1 1) w5) (Z C (Z (x2 !=a2) (Y 329 #[x2] w1.drew (Ri λx7 w6=>Kp w w1.drew w6/\ah w6 w 0 A/\G w6 #[aG,aH,aS,x7] 269 λw8=>R (tr (O w6) 1 1) w8)) (aR A/\J4 w1)) (aR A/\J4 w1))) (Z C (Z (x2 !=a2) (Y 329 #[x2] w1.drew (Ri λbL w9=>Kp w w1.drew w9/\ah w9 w 0 A/\G w9 #[aG,aH,aS,bL] 269 λbE=>R (tr (O w9) 1 1) bE)) (aR A/\J4 w1)) (aR A/\J4 w1)))/\∀anr:Nat->aC,∀(bw:au),J4 bw->Y 221 #[.agg B] bw (Qd λdn dw dO dc dQ fe fk fX iB jn gG nU jl rC kz tF oO mP cp=>Kp w bw cp/\((0:Int)<=2/\(2:Int)<((6:Nat):Int))/\∃(gA jW py:Int),(([dn,dw,dO,dc,dQ,fe,fk,fX,iB,jn,gG,nU,jl,rC,kz,tF,oO,mP]:LV).drop ((2:Int).toNat*3)).take 3=[S gA,S jW,S py]/\G cp #[J,J,J] 23 λmG=>Sw mG cp #[gA,jW,py] λjD=>∃J38:k_,(bu ka5 a0 [.agg #[gA,jW,py]] jD (Ri λrE lG=>K2 w cp jD lG (Z (rE==0) (Y 329 #[(1:Int)] lG.drew (Ri λyT kO=>K2 w cp lG.drew kO (ah kO (O cp) 0 [gA,jW,py]/\G kO #[gA,jW,py,yT] 269 λiO=>R (tr (O kO) 1 1) iO))) (Y 262 #[rE] lG (Rb λb45 kf=>(λAa=>K2 w cp lG kf (Z b45 Aa (Z (a2>=7) Aa (aR A/\aR [gA,jW,py]/\J38 kf)))) (R (tr none 0 0) kf))))))/\∀aub:Nat->aC,∀(oE:au),J38 oE->Y 330 #[.agg B] oE (Rs λs49 lI=>K2 w cp oE lI (pf (λI50 n51=>aR A/\aR [gA,jW,py]/\I50 n51 (0) ⟨none,0,0⟩ lI) λI50 n51 ayl lU We yS=>Z (decide (lU<((s49.n:Nat):Int))) (gD s49.a lU s49.n/\gU yS (N s49.a ((lU:Int).toNat*3)) λH8 Fa Iv=>G yS #[J,J,J] 23 λlV=>Sw lV yS #[H8,Fa,Iv] λvr=>bu ka5 a0 [.agg #[H8,Fa,Iv]] vr (Ri λBo jU=>K3 w cp yS vr jU (Z (Bo==0) (Y 329 #[(I (a2+1))] jU.drew (Ri λBe H4=>K3 w cp yS jU.drew H4 (ah H4 yS 0 [H8,Fa,Iv]/\G H4 #[H8,Fa,Iv,Be] 269 λvR=>bj 32 4 vR We 1 [H8,Fa,Iv,Be]/\∀(s67:H)(E8:au),aY 269 4 vR We 1 [H8,Fa,Iv,Be] s67 E8->K4 w cp yS H4 vR E8 (∃n56,n56<n51/\aR A/\aR [gA,jW,py]/\I50 n56 ((I (lU+1))) s67 E8)))) (∃n56,n56<n51/\aR A/\aR [gA,jW,py]/\I50 n56 ((I (lU+1))) We jU)))) (R We yS)))))) [aG,aH,aS] #[aG,aH,aS] (a2>0)):Y 277 #[a0,.agg #[aG,aH,aS],a2] w R:= cq ⟨[(14,⟨[(66,.int .i64),(11,.slice)],[],[]⟩)],[(12,⟨[],[],[]⟩),(6,⟨[],[],[]⟩)],[]⟩ func277 h
def ajt{E k m n c:Nat}{w w':au}{a:ai}{s':H}{xs news:LV}{rows:List (LV)}(h:aY E k w ⟨a,m,c⟩ n news s' w')(hc:c<m+n)(hx:xs.length=m*k)(gF:Rd w a xs)(de:xs++news=rows.flatten)(hw:∀r∈rows,r.length=k)(hl:news.length=n*k):ar w E k w' s' rows/\Ext w w':=by
 cases h with
 |fits hf=>simp only at hf;omega
 |grows hg fP rest cap e1 e2 e3 e4=>
  have ho:fP=xs:=by
   apply jF;intro i;rcases iR i xs.length with hi|hi
   ·have h1:=gF i xs[i] (cK hi);have hi':i<fP.length:=by simp only at e1;omega
    have h2:=e2 i fP[i] (cK hi');rw[h1]at h2;rw[cK hi,cK hi'];exact h2.symm
   ·rw[jZ hi,jZ (by simp only at e1;omega)]
  subst ho;have Ep:=Row.new w.drew (fP++news++rest) E;refine⟨ar.jO (ak _) Ep (Nat.le_of_eq e4.symm) e3 ?_ hw,(Ext.K w).A (Ext.al _ _)⟩;rw[<-de];have cX:(fP++news).length=(m+n)*k:=by rw[cj,hx,hl,pP]
  rw[AO hX,dN hX]
def FT(b:Int)(w:au):kh 278 #[b] w (S (il b)):=by
 apply Qk.B;refine(oZ b w).V ?_;unfold il;refine⟨_,rfl,Z.mk (λh=>?_) (λh=>?_)⟩
 ·have h:rW b=false:=by simpa using h
  rw[h,if_neg X];exact⟨rfl,rfl⟩
 ·have h:rW b=true:=by simpa using h
  rw[h,if_pos rfl];unfold rW at h;simp only[fF,cC]at h;rw[wI];exact⟨rfl,rfl⟩
def PN{c:Ce}(h:fh c){n:Ce}(hn:n∈cU c):pQ n/\n∈rZ c:=by
 have:n∈rZ c:=by
  unfold cU at hn;unfold rZ;simp only[cu,iT,or_false]at hn⊢;rcases hn with h|h|h|h
  ·exact .inl h
  ·exact .inr (.inl h)
  ·exact .inr (.inr (.inr (.inr (.inl h))))
  ·exact .inr (.inr (.inr (.inr (.inr h))))
 exact⟨FR h this,this⟩
def Yh{w:au}{g:Nat}{cs:LV}{τ:aB}(hr:Row w g cs τ)(o:Nat){xs:LV}(h:∀i,i<xs.length->cs[o+i]? =xs[i]?):Rd w (jM g o) xs:=λi v hv=>by
 rw[aF,hr.ld]
 have hi:=(cG.1 hv).1
 rw[h i hi];exact hv
def zw(c:Ce)(hc:fh c)(w:au):Y 330 #[fQ c] w λe w'=>∃s:H,e=s/\ar w rV 3 w' s ((cU c).map eV)/\Ext w w':=by
 apply Qe.B;intro w0 e0;have x0:=aU e0;have z0:=fD e0;refine(jt c hc w0).F λw1 x1=>?_
 have z1:=x1.size;refine⟨_,_,_,_,_,_,_,_,_,_,_,_,_,_,_,_,_,_,rfl,x1.k,λeQ wx=>?_⟩;have fe:=aU wx;have hr:Row eQ w1 [J,J,J,J,J,J,J,J,J,J,J,J,J,J,J,J,J,J] 266:=Row.nw wx;refine⟨⟨rfl,hr.wr bo⟩,λe=>by
  have:w1.heap.size=w.heap.size:=a0s
  omega,λdi vq=>?_⟩
 have vq:di=bB eQ (O w1) (TN c):=vq;rw[hr.bB (vs:=TN c) bo (VU c),dC bo]at vq;have jT:Row di w1 (TN c) 266:=hr.st vq;have fk:Ext w di:=(x0.A (x1.A fe)).L vq U;have xd:=Ext.K di;have hr3:=jT.ext xd;have x21d:=fk.A xd;have zz:w1.heap.size<di.drew.heap.size:=hr3.lt;have cX:(eV ((c.1,c.2.1,c.2.2-1):Ce)++eV (c.1,c.2.1,c.2.2+1)).length=6:=rfl;have h1:One (eV ((c.1,c.2.1,c.2.2-1):Ce)++eV (c.1,c.2.1,c.2.2+1)):=by
  intro v hv;rcases dp.1 hv with hv|hv
  ·exact HM _ v hv
  ·exact HM _ v hv
 have X_:Rd di.drew (O w1) (eV ((c.1-1,c.2.1,c.2.2):Ce)++eV (c.1+1,c.2.1,c.2.2)):=Yh hr3 0 (λi hi=>by
  have hi:i<6:=hi;have:i=0\/i=1\/i=2\/i=3\/i=4\/i=5:=by omega
  rcases this with rfl|rfl|rfl|rfl|rfl|rfl<;>rfl)
 refine⟨X,X,X,X,X,X,eV ((c.1,c.2.1,c.2.2-1):Ce)++eV (c.1,c.2.1,c.2.2+1),Yh (o:=12) hr3 (λi hi=>by
  have hi:i<6:=hi;have:i=0\/i=1\/i=2\/i=3\/i=4\/i=5:=by omega
  rcases this with rfl|rfl|rfl|rfl|rfl|rfl<;>rfl),⟨λhf=>absurd hf (show ¬(2+2<=2)by decide),λ_=>⟨_,rfl,X_⟩,λhg=>⟨growslice_fits hg (show(2+2)*24<=140737488355328 by decide),show((2+2:Nat):Int)<=9223372036854775807 by decide⟩,rfl,h1⟩,λYk ie bq=>?_⟩
 have⟨ho,jn⟩:=ajt (rows:=(cU c).map eV) (xs:=eV ((c.1-1,c.2.1,c.2.2):Ce)++eV (c.1+1,c.2.1,c.2.2)) bq (show 2<2+2 by decide) rfl X_ rfl (by intro r hr;obtain⟨y,-,rfl⟩:=bc.1 hr;rfl) rfl;exact⟨jn.k,Yk,rfl,ho.low U,x21d.A jn⟩
def FQ(V:Ce->Int):∀(l:List Ce)(m:Int),0<=m/\m<=7->0<=l.foldl (λm n=>if 0<=il (V n)then min m (il (V n))else m) m/\l.foldl (λm n=>if 0<=il (V n)then min m (il (V n))else m) m<=7
 | [],m,h=>h
 |n::l,m,h=>by
  rw[qY]
  refine FQ V l _ ?_
  split<;>omega
def abC(c:Ce):((TN c).drop ((3:Int).toNat*3)).take 3=eV (Ds c):=rfl
def Un{v:aC}{V:Ce->Int}{w:au}(hV:Tl v V w)(c:Ce)(hc:fh c): ed 328 #[v,fQ c] w (bT #[.int .i64 (ik V c).1,.bool (ik V c).2]):=by
 apply UJ.B
 intro w0 e0
 have x0:=aU e0
 have z0:=fD e0
 refine(jt c hc w0).mono ?_
 rintro e w1 ⟨rfl,x1⟩
 have z1:=x1.size
 have oko:pQ (Ds c):=FR hc (by simp[rZ])
 refine⟨_,_,_,_,_,_,_,_,_,_,_,_,_,_,_,_,_,_,rfl,x1.heap U,by decide,_,_,_,abC c,dY ((hV.ext (x0.A x1)).at oko) ?_⟩
 rintro e jE ⟨rfl,iB⟩
 have z23:=iB.size
 have auL:=x0.A (x1.A iB)
 refine⟨_,rfl,iB.heap U,(oZ (V (Ds c)) jE).mono ?_⟩
 rintro e dL ⟨rfl,rfl⟩
 unfold ik
 refine⟨_,rfl,rfl,Z.mk (λh=>?_) (λh=>(zw c hc dL).mono ?_)⟩
 ·rw[if_pos h];exact⟨rfl,auL⟩
 rintro e gO ⟨s28,rfl,ho,jl⟩
 have z27:=jl.size
 rw[if_neg (by rw[h];decide)]
 have gF:=ho.rd (show 0<3 by decide)
 have hn:s28.n=4:=gF.n
 refine⟨s28,rfl,jl.heap U,λn x m wr=>∃j:Nat,x=j/\j+n=4/\m=((cU c).take j).foldl (λm n=>if 0<=il (V n)then min m (il (V n))else m) 7/\Ext gO wr,⟨4,rfl,0,rfl,rfl,rfl,Ext.M _⟩,?_⟩
 rintro n us x m wr ⟨j,rfl,hj,rfl,xr⟩
 have zr:=xr.size
 have xr0:=auL.A (jl.A xr)
 apply Z.mk<;>intro hb
 ·replace hb:=lM hb
  have⟨y,hy⟩:=bX (l:=cU c) (i:=j) a0v
  have oky:=(PN hc (aQ hy)).1
  have hy':((cU c).map eV)[j]? =some (eV y):=by rw[aW,hy];rfl
  have xk:(cU c).take (j+1)=(cU c).take j++[y]:=by rw[dq,hy];rfl
  have wk:=nE (j:=j)
  refine⟨gF.jX (i:=(j:Int)) X U hb,_,_,_,(gF.ext xr).y hy',λlG e39 nT e40=>?_⟩
  have rE:Ext wr nT:=(aU e39).L e40 (ak _)
  have z40:=yL e39 e40
  refine dY ((hV.ext (xr0.A rE)).at oky) ?_
  rintro e kO ⟨rfl,kA⟩
  have z41:=kA.size
  refine⟨_,rfl,kA.heap U,kA.heap U,(FT (V y) kO).mono ?_⟩
  rintro e iO ⟨rfl,rfl⟩
  refine⟨_,rfl,rfl,rfl,Z.mk (λh2=>?_) (λh2=>?_)⟩
  ·have h2:=eK h2
   refine⟨n-1,by omega,rfl,j+1,wk,by omega,?_,xr.A (rE.A kA)⟩
   rw[xk,og,qY,List.foldl_nil,if_pos h2]
   split<;>omega
  ·have h2:=eK h2
   refine⟨n-1,by omega,rfl,j+1,wk,by omega,?_,xr.A (rE.A kA)⟩
   rw[xk,og,qY,List.foldl_nil,if_neg h2]
 ·replace hb:=lW hb
  have ht:(cU c).take j=cU c:=dN a0v
  rw[ht]
  have hle:(cU c).foldl (λm n=>if 0<=il (V n)then min m (il (V n))else m) 7=Mg V (cU c):=rfl
  have px:=FQ V (cU c) 7 X
  rw[hle]at px⊢
  apply Z.mk<;>intro h2
  ·rw[if_pos (ds h2)];exact⟨rfl,xr0⟩
  ·rw[if_neg (ds h2),wI];exact⟨rfl,xr0⟩
def ahV(x:Go.ej.Cg):One (mW x):=a1c
def Mf{w:au}{g:Nat}{B:Nat}(x:Go.ej.Cg)(hr:Row w g (mW x) mU)(hB:B<=g):ar B mU 4 w ⟨O g,1,1⟩ ([x].map mW):=ar.jO hB hr bo (ak _) rfl bo
def Um{v:aC}{V:Ce->Int}{w:au}(hV:Tl v V w)(c:Ce)(hc:fh c)(level:Int)(hl:0<=level/\level<=7): Y 277 #[v,fQ c,level] w λe w'=>∃s:H,e=s/\ar w mU 4 w' s ((nJ V c level).map mW)/\Ext w w':=by
 apply PM.B;intro w0 e0;have x0:=aU e0;have z0:=fD e0;have r0:Row w0 w (eV c) rV:=Row.nw e0;refine(Un (hV.ext x0) c hc).F λw1 x1=>?_
 have z1:=x1.size;have lq:=x0.A x1;have axa:cH (ik V c).1:=by
  have:=FQ V (cU c) 7 X;have hle:(cU c).foldl (λm n=>if 0<=il (V n)then min m (il (V n))else m) 7=Mg V (cU c):=rfl;rw[hle]at this;unfold ik cH;split
  ·simp
  ·split
   ·simp
   ·simp only;omega
 have caseA:0<level->(ik V c).2=false->nJ V c level=[(c,0)]:=λh1 h2=>by unfold nJ;rw[if_pos ⟨h1,h2⟩]
 have caseB:0<level->¬(ik V c).2=false->(ik V c).1≠level->nJ V c level=[(c,kv (ik V c).1)]:=λh1 h2 h3=>by unfold nJ;rw[if_neg (λq=>h2 q.2),if_pos ⟨h1,h3⟩]
 have armB:0<level->¬(ik V c).2=false->(ik V c).1≠level->Y 329 #[S (ik V c).1] w1.drew (λe w6=>∃(x7:Int),e=x7/\w6.heap[w.heap.size]? =w1.drew.heap[w.heap.size]?/\
   ah w6 (O w) 0 [c.1,c.2.1,c.2.2]/\∀w8:au,w8=w6.alloc (.cells #[c.1,c.2.1,c.2.2,x7] mU)->
   (λe w'=>∃s:H,e=Sl s/\ar w mU 4 w' s ((nJ V c level).map mW)/\Ext w w') (.returned (.slice (O w6) 1 1)) w8):=by
  intro h1 h2 h3;refine(mc (ik V c).1 w1.drew axa).V ?_;refine⟨_,rfl,rfl,Lo.wv (r0.ext (x1.A (Ext.K w1))),λw8 e8=>?_⟩;have hr:Row w8 w1.drew.heap.size (mW (c,kv (ik V c).1)) mU:=Row.nw e8;have zd:=nV w1;refine⟨⟨O w1.drew.heap.size,1,1⟩,rfl,?_,(lq.A (Ext.K w1)).aZ e8⟩;rw[caseB h1 h2 h3];exact Mf _ hr U
 refine⟨_,_,rfl,x1.k,λwj=>wj=w1/\nJ V c level=(if V (fy c)=0 then [(fy c,kv 1)]else if rW (V (fy c))=true\/7<=level then []else((cU c).filter λn=>decide (V n=0)).map λn=>(n,kv (level+1))),?_,?_⟩
 ·have fine:(¬0<level\/(¬(ik V c).2=false/\(ik V c).1=level))->nJ V c level=(if V (fy c)=0 then [(fy c,kv 1)]else if rW (V (fy c))=true\/7<=level then []else((cU c).filter λn=>decide (V n=0)).map λn=>(n,kv (level+1))):=λh=>by unfold nJ;rw[if_neg (λq=>h.elim (λh=>h q.1) λh=>h.1 q.2),if_neg (λq=>h.elim (λh=>h q.1) λh=>q.2 h.2)]
  refine Z.mk (λh1=>Z.mk (λh2=>λw5 e5=>?_) (λh2=>Z.mk (λ_=>Z.mk (λh3=>?_) (λh3=>⟨rfl,rfl,?_⟩)) (λh3=>?_))) (λh1=>Z.mk (λh3=>?_) (λh3=>⟨rfl,rfl,?_⟩))
  ·have h1:=eK h1;have hr:Row w5 w1 (mW (c,0)) mU:=Row.nw e5;refine⟨⟨O w1,1,1⟩,rfl,?_,lq.aZ e5⟩;rw[caseA h1 (ds h2)];exact Mf _ hr U
  ·exact armB (ds h1) (ds h2) (ds h3)
  ·exact fine (.inr ⟨ds h2,ds h3⟩)
  ·rw[h1]at h3;cases h3
  ·rw[h1]at h3;cases h3
  ·exact fine (.inl (ds h1))
 rintro us bw ⟨rfl,hW⟩;rw[hW];refine(jt c hc bw).F λcp cY=>?_
 have z14:=cY.size;have okl:pQ (fy c):=FR hc (by simp[rZ]);refine⟨_,_,_,_,_,_,_,_,_,_,_,_,_,_,_,_,_,_,rfl,cY.k,X,_,_,_,Uo c,λmG e36 jD e37=>?_⟩;have mO:Ext cp jD:=(aU e36).L e37 (ak _);have z37:=yL e36 e37;have rl:Row jD cp (eV (fy c)) rV:=by rw[e37];exact Row.set (by rw[e36];exact Row.new cp [_,_,_] _) _
 have Bb:=lq.A (cY.A mO);refine⟨λwj=>Ext jD wj/\¬V (fy c)=0/\¬(rW (V (fy c))=true\/7<=level),dY ((hV.ext Bb).at okl) ?_,?_⟩
 ·rintro e lG ⟨rfl,rq⟩;have z39:=rq.size;refine⟨_,rfl,rq.k,rq.k,Z.mk (λh=>(mc 1 lG.drew j_).mono ?_) (λh=>(oZ (V (fy c)) lG).mono ?_)⟩
  ·rintro e kO ⟨rfl,rfl⟩;have h:=eK h;refine⟨_,rfl,rfl,rfl,Lo.wv (rl.ext (rq.A (Ext.K lG))),λiO Yn=>?_⟩;have hr:Row iO lG.drew.heap.size (mW (fy c,kv 1)) mU:=Row.nw Yn;have zd:=nV lG;refine⟨⟨O lG.drew.heap.size,1,1⟩,rfl,?_,(Bb.A (rq.A (Ext.K lG))).aZ Yn⟩;rw[if_pos h];exact Mf _ hr U
  ·rintro e kf ⟨rfl,rfl⟩;have h:=eK h;rw[if_neg h];refine⟨_,rfl,rfl,rfl,Z.mk (λh2=>?_) (λh2=>Z.mk (λh3=>?_) (λh3=>⟨rfl,rfl,rq,h,?_⟩))⟩
   ·rw[if_pos (.inl h2)];exact⟨⟨none,0,0⟩,rfl,ar.nil,Bb.A rq⟩
   ·rw[if_pos (.inr (ds h3))];exact⟨⟨none,0,0⟩,rfl,ar.nil,Bb.A rq⟩
   ·rintro(q|q)
    ·rw[q]at h2;cases h2
    ·simp at h3;omega
 rintro us oE ⟨A9,h1,h2⟩;have z47:=A9.size;rw[if_neg h1,if_neg h2];have axb:=Bb.A A9;refine(zw c hc oE).mono ?_;rintro e lI ⟨s49,rfl,axc,Es⟩;have z48:=Es.size;have axe:=axb.A Es;have gF:=axc.rd (show 0<3 by decide);have aFp:s49.n=4:=gF.n;refine⟨s49,rfl,Es.k,Es.k,λn x We wr=>∃j:Nat,x=j/\j+n=4/\ar lI mU 4 wr We (((((cU c).take j).filter λn=>decide (V n=0)).map λn=>((n,kv (level+1)):Go.ej.Cg)).map mW)/\Ext lI wr,⟨4,rfl,rfl,0,rfl,rfl,ar.nil,Ext.M _⟩,?_⟩;rintro n us x We wr ⟨j,rfl,hj,ho,xr⟩;have zr:=xr.size;have xr0:=axe.A xr;apply Z.mk<;>intro hb
 ·replace hb:=lM hb;have⟨y,hy⟩:=bX (l:=cU c) (i:=j) a0v;have oky:=(PN hc (aQ hy)).1;have hy':((cU c).map eV)[j]? =some (eV y):=by rw[aW,hy];rfl
  have xk:(cU c).take (j+1)=(cU c).take j++[y]:=by rw[dq,hy];rfl
  have wk:=nE (j:=j);refine⟨gF.jX (i:=(j:Int)) X U hb,_,_,_,(gF.ext xr).y hy',λlV e60 vr e61=>?_⟩;have KY:Ext wr vr:=(aU e60).L e61 (ak _);have z61:=yL e60 e61;have ry:Row vr wr (eV y) rV:=by rw[e61];exact Row.set (by rw[e60];exact Row.new wr [_,_,_] _) _
  refine dY ((hV.ext (xr0.A KY)).at oky) ?_;rintro e jU ⟨rfl,rD⟩;have z62:=rD.size;refine⟨_,rfl,rD.k,rD.k,rD.k,Z.mk (λh3=>?_) (λh3=>?_)⟩
  ·have wl:I (level+1)=level+1:=wI;rw[wl];refine(mc (level+1) jU.drew j_).V ?_;have xd:=KY.A (rD.A (Ext.K jU));have zd:=nV jU;refine⟨_,rfl,rfl,rfl,rfl,Lo.wv (ry.ext (rD.A (Ext.K jU))),λvR e66=>?_⟩;subst e66;have ho':=ho.ext xd;have aFq:We.n<=4:=by have h1:=(ho.rd (show 0<4 by decide)).n;have h2:=zy (λn=>decide (V n=0)) ((cU c).take j);rw[aK,aK]at h1;rw[cS]at h2;omega
   have⟨Te,hres8⟩:=ho'.l6 (bytes:=32) (news:=mW (y,kv (level+1))) (.cells #[y.1,y.2.1,y.2.2,(kv (level+1))] mU) U rfl (ahV _) U U;refine⟨Te,λs67 E8 axh=>?_⟩;obtain⟨f8,KZ,hn8,x8,hk8,-⟩:=hres8 s67 E8 axh;have xa:=Ext.al jU.drew (.cells #[y.1,y.2.1,y.2.2,(kv (level+1))] mU);have anA:∀b,We.D=some b->lI.heap.size<=b/\b<wr.heap.size:=λb hb=>ho.own.lt hb
   have kp:∀j,(j<lI.heap.size\/wr.heap.size<=j)->j<jU.drew.heap.size->E8.heap[j]? =(jU.drew.alloc (.cells #[y.1,y.2.1,y.2.2,(kv (level+1))] mU)).heap[j]? :=λj hj hj2=>by rw[hk8 j (λhb=>a1N (anA j hb)) hj2,xa.heap hj2]
   refine⟨kp _ (.inl U) U,kp _ (.inl U) U,kp _ (.inr U) U,f8,n-1,U,rfl,rfl,j+1,wk,U,?_,(Below.trans (xr.A xd) x8:Below lI lI E8)⟩;rw[xk,wG,cl,cl,W6 (ds h3)];exact KZ
  ·refine⟨n-1,U,rfl,rfl,j+1,wk,U,?_,xr.A (KY.A rD)⟩;rw[xk,wG,cl,cl,W7 (ds h3)];simpa using ho.ext (KY.A rD)
 ·replace hb:=lW hb;have ht:(cU c).take j=cU c:=dN a0v;rw[ht]at ho;exact⟨We,rfl,ho.low U,xr0⟩
def adj{b:Int}(h:rW b=true):0<=il b/\il b<=7:=by unfold il;rw[h,if_pos rfl];unfold rW at h;simp only[fF,cC]at h;omega
def Up{v:aC}{V:Ce->Int}{w:au}(hV:Tl v V w)(c:Ce)(hc:fh c): Y 220 #[v,fQ c] w λe w'=>∃s:H,e=s/\ar w mU 4 w' s ((iU V c).map mW)/\Ext w w':=by
 apply Y1.B
 intro w0 e0
 have x0:=aU e0
 have z0:=fD e0
 have r0:Row w0 w (eV c) rV:=Row.nw e0
 refine dY ((hV.ext x0).at hc.ok) ?_
 rintro e w1 ⟨rfl,x1⟩
 have z1:=x1.size
 have lq:=x0.A x1
 refine⟨_,rfl,x1.heap U,(xE (V c) w1).mono ?_⟩
 rintro e w3 ⟨rfl,rfl⟩
 unfold iU
 refine⟨_,rfl,rfl,Z.mk (λh=>?_) (λh=>(oZ (V c) w3).mono ?_)⟩
 ·rw[if_pos (ds h)]
  refine(Y2 (hV.ext lq) c hc).mono ?_
  rintro e w5 ⟨s,rfl,ho,x5⟩
  exact⟨s,rfl,x5.heap U,s,rfl,ho.low U,lq.A x5⟩
 ·rintro e w7 ⟨rfl,rfl⟩
  rw[if_neg (ds h)]
  refine⟨_,rfl,rfl,Z.mk (λh2=>(FT (V c) w7.drew).mono ?_) (λh2=>?_)⟩
  ·rintro e w9 ⟨rfl,rfl⟩
   rw[h2,if_pos rfl]
   have xd:=lq.A (Ext.K w7)
   have zd:=nV w7
   refine⟨_,rfl,rfl,Lo.wv (r0.ext (x1.A (Ext.K w7))),(Um (hV.ext xd) c hc (il (V c)) (adj h2)).mono ?_⟩
   rintro e bE ⟨s,rfl,ho,bS⟩
   exact⟨s,rfl,bS.heap U,s,rfl,ho.low U,xd.A bS⟩
  ·rw[h2,if_neg X]
   exact⟨⟨none,0,0⟩,rfl,ar.nil,lq⟩
def Oc(occ:aC)(d':Ce->aX)(F:Nat->Prop)(w:au):Prop:=∃D:Nat->Prop,(∀i,D i->i<w/\¬F i)/\∀w',(∀i,D i->w'.heap[i]? =w.heap[i]?)->∀c,pQ c->bu ka5 occ [fQ c] w' λe w''=>e=eL (d' c)/\Ext w' w''
section
variable{F F':Nat->Prop}{w w':au}{s o t:Nat}{M M':Sm}{occ:aC}{d':Ce->aX}
def Oc.uZ(h:Oc occ d' F w)(ht:aJ F F' w w'):Oc occ d' F' w':=by
 have⟨D,h1,h2⟩:=h;refine⟨D,λi hi=>⟨gK (h1 i hi).1 ht.mod.size,λhf=>?_⟩,λw'' hk=>h2 w'' λi hi=>(hk i hi).trans (ht.mod.same i (h1 i hi).1 (h1 i hi).2)⟩;rcases ht.sub i hf with q|q
 ·exact(h1 i hi).2 q
 ·have:=(h1 i hi).1;omega
def Oc.ext(h:Oc occ d' F w)(x:Ext w w'):Oc occ d' F w':=h.uZ (aJ.P x)
def Oc.at(h:Oc occ d' F w){c:Ce}(hc:pQ c):bu ka5 occ [fQ c] w λe w'=>e=eL (d' c)/\Ext w w':=a1D
def qB.fold{n:Nat}:∀{M:Sm}(l:List Go.ej.Cg),qB M n->qB (l.foldl eY M) (n+7*l.length)
 |M,[],h=>h
 |M,x::l,h=>(qB.fold l (h.change x)).mono a1f
def Rg(V:Ce->Int)(c:Ce):(iU V c).length<=4:=by
 unfold iU Sq nJ;split
 ·split<;>simp
 ·split
  ·split
   ·simp
   ·split
    ·simp
    ·split
     ·simp
     ·split
      ·simp
      ·rw[aK];exact zy _ _
  ·simp
def abv(V:Ce->Int)(c:Ce):∀x∈iU V c,x.1=c\/x.1∈rZ c:=by
 have akq:fy c∈rZ c:=by simp[rZ]
 have hside:∀n∈cU c,n∈rZ c:=λn hn=>by
  unfold cU at hn;unfold rZ;simp only[cu,iT,or_false]at hn⊢;rcases hn with h|h|h|h
  ·exact .inl h
  ·exact .inr (.inl h)
  ·exact .inr (.inr (.inr (.inr (.inl h))))
  ·exact .inr (.inr (.inr (.inr (.inr h))))
 intro x hx;unfold iU at hx;split at hx
 ·unfold Sq at hx;split at hx
  ·simp only[cu,iT,or_false]at hx;rcases hx with rfl|rfl
   ·exact .inl rfl
   ·exact .inr akq
  ·cases hx
 ·split at hx
  ·unfold nJ at hx;split at hx
   ·simp only[cu,iT,or_false]at hx;rw[hx];exact .inl rfl
   ·split at hx
    ·simp only[cu,iT,or_false]at hx;rw[hx];exact .inl rfl
    ·split at hx
     ·simp only[cu,iT,or_false]at hx;rw[hx];exact .inr akq
     ·split at hx
      ·cases hx
      ·obtain⟨n,hn,rfl⟩:=bc.1 hx;exact .inr (hside n (jY.1 hn).1)
  ·cases hx
section
variable{F F':Nat->Prop}{w w':au}{s o t:Nat}{M M':Sm}{occ:aC}{d':Ce->aX}
def Rh(h : SF F w s o t M occ)(hO : Oc occ d' F w)(c : Ce)(hc : Cn c)(hk : qB M 700000000) : Calls Tryz.prog 151 #[.pointer (some ⟨s, 0, none⟩), fQ c] w λe w' => e = .returned (.tuple #[]) ∧ ni F w s o t (wi d' M c) occ w' := by
 apply Gk.B
 have hc' := id hc
 unfold Cn at hc'
 intro wb e0
 have x0 : Ext w wb.drew := ((Ext.M _).aZ e0).A (Ext.K wb)
 have z0 : wb.drew.heap.size = w.heap.size + 1 := by show wb.heap.size = _; rw [e0]; simp
 clear e0
 have h0 := h.ext x0
 obtain ⟨g, sd, hr, hdr, -, hsdF, abK⟩ := h0.row
 obtain ⟨Fw, hW, -, -⟩ := h0.world
 refine ⟨_, (hr.at 1 rfl), (CT hW c hc.wide.ok (ahM U U)).mono ?_⟩
 rintro e N6 ⟨rfl, x2⟩
 have z2 := x2.size
 have x02 := x0.A x2
 have ao9 : pQ (fy c) := FR hc.wide (by simp [rZ])
 refine ⟨_, rfl, x2.heap U, Z.mk (λhb => ?_) (λhb => ?_)⟩
 ·have xd := x2.A (Ext.K N6)
  have zd : N6.drew.heap.size = N6.heap.size := rfl
  have asp := hk.now
  have wr : IntKind.wrap .i64 (M.now + 1) = M.now + 1 := wI (by unfold cH; omega)
  obtain ⟨g', m, qs, hq, alK, ⟨sd', hr'⟩, acH, hresq⟩ := (h0.ext xd).queue
  refine ⟨_, hr'.at 0 rfl, _, hr'.at 3 rfl, ?_⟩
  dsimp only
  rw [wr]
  have hll := hk.l
  refine (Q.GV hq alK U c (M.now + 1)).mono ?_
  rintro e w6 ⟨rfl, qs', hq', ht⟩
  obtain ⟨F2, hS2, hT2⟩ := hresq hq' (alK.add c _) ht
  have hsF : ¬ Q.gN g' m qs s := hq.dR hr' X X
  refine ⟨_, rfl, hT2.mod.same _ U (λhf => by have := h.lt hf; omega), ph ((ht.mod.row hr' hsF).at 3 rfl), rfl, ?_⟩
  unfold wi
  rw [if_pos (by simpa using hb)]
  exact ⟨F2, hS2, (aJ.P (x0.A xd)).trans hT2⟩
 have apc : ¬ Fz M.T.2 c = false := by simpa using hb
 have hr2 := hr.ext x2
 refine ⟨_, (hr2.at 1 rfl), (lZ (hW.ext x2)).mono ?_⟩
 rintro e ajD ⟨rfl, hw9⟩
 subst hw9
 refine ⟨_, rfl, rfl, (Up (h0.tl.ext x2) c hc.wide).mono ?_⟩
 rintro e w11 ⟨s12, rfl, ho, x11⟩
 have z11 := x11.size
 have hrd := ho.rd (show 0 < 4 by decide)
 have apd := hrd.n
 have hLlen := Rg (jc M.T.2) c
 have hLw : ∀ x ∈ iU (jc M.T.2) c, fh x.1 := λx hx => by
  rcases abv _ _ x hx with q | q
  ·rw [q]; exact hc.wide
  ·exact ai9 hc q
 have hU : wi d' M c = if GX d' M c = true then eY { M with nk := M.nk ++ [fy c] } (c, 0) else (iU (jc M.T.2) c).foldl eY M := by unfold wi; rw [if_neg apc]
 have hH : GX d' M c = (decide (jc M.T.2 c = 3) && (!(iU (jc M.T.2) c).isEmpty && d' (fy c))) := rfl
 generalize iU (jc M.T.2) c = L at *
 rw [aK] at apd
 refine ⟨s12, rfl, x11.heap U, (jt c hc.wide w11).mono ?_⟩
 rintro e w13 ⟨rfl, x13⟩
 have z13 := x13.size
 refine ⟨_, _, _, _, _, _, _, _, _, _, _, _, _, _, _, _, _, _, rfl, x13.heap U, by decide, _, _, _, Uo c, λw35 e35 w36 e36 => ?_⟩
 have x36 : Ext w13 w36 := ((Ext.M _).aZ e35).L e36 (ak _)
 have z36 : w36.heap.size = w13.heap.size + 1 := by rw [e36, e35]; simp
 clear e35 e36
 have xd := Ext.K w36
 have zd : w36.drew.heap.size = w36.heap.size := rfl
 have ajK := x13.A (x36.A xd)
 have alL := x02.A (x11.A ajK)
 refine dY ((h.ext alL).tl.at hc.wide.ok) ?_
 rintro e w37 ⟨rfl, x37⟩
 have z37 := x37.size
 have ajE := alL.A x37
 have adA := ajK.A x37
 refine ⟨_, rfl, x37.heap U, x37.heap U, (xE (jc M.T.2 c) w37).mono ?_⟩
 rintro e w39 ⟨rfl, apf⟩
 subst apf
 have apg := hr2.ext (x11.A adA)
 refine ⟨_, rfl, rfl, rfl, Z.mk (λhf => Z.mk (λhp => ?A) (λhp => ?B)) (λhf => ?C)⟩
 case' A =>
  refine ⟨_, apg.at 4 rfl, dY ((hO.ext ajE).at ao9) ?_⟩
  rintro e w42 ⟨rfl, x42⟩
  have z42 := x42.size
  have alM := ajE.A x42
  have hpn : (!L.isEmpty) = true := by
   have : 0 < L.length := by simp only [decide_eq_true_eq, gt_iff_lt] at hp; omega
   cases L with
   | nil => simp at this
   | cons => rfl
  have hf3 : decide (jc M.T.2 c = 3) = true := by simpa using hf
  refine ⟨_, rfl, x42.heap U, x42.heap U, Z.mk (λhh => ?apj) (λhh => ?apl)⟩
 case apj =>
  have hHt : GX d' M c = true := by rw [hH, hf3, hpn, hh]; rfl
  intro w44 e44
  have x44 : Ext w42 w44 := (Ext.M _).aZ e44
  have z44 : w44.heap.size = w42.heap.size + 1 := by rw [e44]; simp
  have rch : Row w44 w42.heap.size (mW (c, 0)) mU := by rw [e44]; exact Row.new w42 [_, _, _, _] _
  clear e44
  have ak9 := Ext.K w44
  have as0 : w44.drew.heap.size = w44.heap.size := rfl
  have alN := alM.A (x44.A ak9)
  have aqa := x2.A ((x11.A adA).A (x42.A (x44.A ak9)))
  obtain ⟨g2, sd2, ala, hdr44, hFs, hsdF2, hres44⟩ := (h.ext alN).row
  refine ⟨sd2, ala.at 5 rfl, λw46 e46 => ?_⟩
  subst e46
  have hsn : sd2.n = M.nk.length := by have := (hdr44.rd (show 0 < 3 by decide)).n; rwa [aK] at this
  have hkd := hk.d
  obtain ⟨hp8, hres8⟩ := hdr44.l6 (bytes := 24) (news := eV (fy c)) (.cells #[.int .i64 (fy c).1, .int .i64 (fy c).2.1, .int .i64 (fy c).2.2] rV) (eG _) rfl (HM _) U U
  refine ⟨hp8, λs47 w48 apr => ?_⟩
  obtain ⟨f8, ho8, hn8, x8, hk8, ahu⟩ := hres8 s47 w48 apr
  have xa := Ext.al w44.drew (.cells #[.int .i64 (fy c).1, .int .i64 (fy c).2.1, .int .i64 (fy c).2.2] rV)
  have hsdlt : ∀ b, sd2.D = some b → b < w.heap.size := λb hb => h.lt (hsdF2 b hb)
  have kp : ∀ j, w.heap.size ≤ j → j < w44.drew.heap.size → w48.heap[j]? = (w44.drew.alloc (.cells #[.int .i64 (fy c).1, .int .i64 (fy c).2.1, .int .i64 (fy c).2.2] rV)).heap[j]? := λj h1 h2 => by
   rw [hk8 j (λhb => by have := hsdlt j hb; omega) h2, xa.heap h2]
  have as2 := h.lt hFs
  have m48 : Mod (λj => sd2.D = some j) w44.drew w48 := Mod.xq x8 hk8
  have aps : ¬ sd2.D = some s := λe => by
   obtain ⟨cs', hr'⟩ := aT hdr44 X e
   exact hr'.ne ala X rfl
  have ajS := m48.row ala aps
  obtain ⟨p1, p2⟩ := ajS.ft (j := 5) (v := .slice s47.a s47.n s47.c) (by simp [G']) rfl
  have z48 := m48.size
  have pb : ∀ j : Nat, s < j → bM (N (some ⟨s, 0, none⟩) 5) ≠ some j := λj hj e => by
   rw [cB] at e
   have : s = j := by simpa [bM] using e
   omega
  refine ⟨kp _ U U, kp _ U U, kp _ U U, f8, ⟨rfl, p1⟩, pb _ U, pb _ U, pb _ U, pb _ U, λw49 e49 => ?_⟩
  obtain ⟨q1, q2⟩ := p2 w49 e49
  have ho9 : ∀ b, s47.D = some b → b ≠ s := λb hb => by
   obtain ⟨cs', hr'⟩ := aT ho8 X hb
   exact hr'.ne ajS X
  have m49 : Mod (λj => j = s ∨ sd2.D = some j) w44.drew w49 := (m48.mono λi _ hi => .inr hi).trans (q2.mono λi _ hi => .inl hi)
  obtain ⟨F3, hS3, hT3⟩ := hres44 (M' := { M with nk := M.nk ++ [fy c] }) rfl rfl rfl rfl rfl m49 q1 (by rw [cl]; exact q2.gR ho8 ho9) (λb hb => by
   rcases ahu with e | e
   ·exact .inl (by rw [<- e]; exact hb)
   ·rw [e] at hb; cases hb; exact .inr (lN _))
  have z49 := q2.size
  have apv : Row w49 w44.drew.heap.size (eV (fy c)) rV := q2.row (Row.same (Row.new w44.drew [_, _, _] rV) f8) U
  have hnl : ¬ F3 w44.drew.heap.size := hS3.dR apv aq8.1 X X X X X (λg sd r1 hb => by
   have e1 := (r1.at 5 rfl).symm.trans (q1.at 5 rfl)
   have e2 : sd.a = s47.a := by injection e1 with e1; injection e1
   have e3 : sd.D = s47.D := by unfold H.D; rw [e2]
   rw [e3] at hb
   rcases ahu with e | e
   ·have := hsdlt _ (by rw [<- e]; exact hb); omega
   ·rw [e] at hb; simp at hb)
  have hch49 : Row w49 w42.heap.size (mW (c, 0)) mU := m49.row (rch.ext ak9) (λq => by
   rcases q with q | q
   ·omega
   ·have := hsdlt _ q; omega)
  have hF3 : ∀ i, F3 i → i < w.heap.size ∨ w44.heap.size ≤ i := λi hi => (hT3.sub i hi).imp (λq => h.lt q) id
  refine ⟨λn x wr => (x = 0 ∧ n = 1 ∧ wr = w49) ∨ (x = 1 ∧ n = 0 ∧ ni F3 w49 s o t (eY { M with nk := M.nk ++ [fy c] } (c, 0)) occ wr), ⟨1, rfl, rfl, rfl, rfl, .inl ⟨rfl, rfl, rfl⟩⟩, ?_⟩
  rintro n us x wr (⟨rfl, rfl, rfl⟩ | ⟨rfl, rfl, hS⟩)
  ·refine Z.mk (λ_ => ?_) (λq => by simp at q)
   refine ⟨⟨rfl, by decide, by decide⟩, _, _, _, _, Lo.wv hch49, λw60 e60 w61 e61 => ?_⟩
   have x61 : Ext wr w61 := ((Ext.M _).aZ e60).L e61 (ak _)
   have z61 : w61.heap.size = wr.heap.size + 1 := by rw [e61, e60]; simp
   clear e60 e61
   refine (qm (hS3.ext x61) (c, 0) hc.wide ⟨by have := hk.l; simp only; omega, by have := hk.c; simp only; omega, hk.now, by have := hk.d; simp only [cj, List.length_singleton]; omega⟩).mono ?_
   rintro e w62 ⟨rfl, F4, hS4, hT4⟩
   have nf : ∀ i, (w.heap.size ≤ i ∧ i < w44.heap.size ∨ wr.heap.size ≤ i) → i < w61.heap.size → w62.heap[i]? = w61.heap[i]? := λi h1 h2 => hT4.mod.same i h2 λhf => by
    rcases h1 with ⟨h1, h1'⟩ | h1
    ·rcases hF3 i hf with q | q <;> omega
    ·have := hS3.lt hf; omega
   refine ⟨rfl, nf _ (.inl U) U, nf _ (.inl U) U, nf _ (.inl U) U, hT4.mod.same _ U hnl, nf _ (.inr U) U, 0, by omega, rfl, rfl, rfl, rfl, .inr ⟨rfl, rfl, F4, hS4, (aJ.P x61).trans hT4⟩⟩
  ·refine Z.mk (λq => by simp at q) (λ_ => ?_)
   rw [hU, if_pos hHt]
   exact ⟨rfl, ni.trans ((aJ.P alN).trans hT3) hS⟩
 case' apl =>
  have hHf : ¬ GX d' M c = true := by rw [hH, hh, Bool.and_false, Bool.and_false]; decide
  have ahv := alM
  have alc := adA.A x42
 case' B =>
  have hHf : ¬ GX d' M c = true := by
   have : L = [] := by
    have : ¬ 0 < L.length := by simp only [decide_eq_false_iff_not, gt_iff_lt] at hp; omega
    exact List.length_eq_zero_iff.1 U
   rw [hH, this]; simp
  have ahv := ajE
  have alc := adA
 case' C =>
  have hHf : ¬ GX d' M c = true := by
   have : ¬ jc M.T.2 c = 3 := by simpa using hf
   rw [hH, decide_eq_false this]; simp
  have ahv := ajE
  have alc := adA
 all_goals
  rename au => alO
  refine ⟨λn x wr => ∃ (j : Nat) (F' : Nat → Prop), x = j ∧ j + n = L.length ∧ SF F' wr s o t ((L.take j).foldl eY M) occ ∧ aJ F F' alO wr, ⟨L.length, rfl, rfl, 0, F, rfl, by omega, h.ext ahv, aJ.refl _ _⟩, ?_⟩
  rintro n us x wr ⟨j, F', rfl, hj, hS, hT⟩
  have zr := hT.mod.size
  have hzL := (ahv).size
  have Iq : RdK wr s12 4 (L.map mW) := hT.mod.rdK X (hrd.ext alc) λ_ b hb hf => by
   have := (ho.own.lt hb).1
   have := h.lt hf
   omega
  have nf : ∀ {N6 : au} {F2 : Nat → Prop} {o0 : au}, Ext wr o0 → aJ F' F2 o0 N6 → ∀ i, (w.heap.size ≤ i ∧ i < alO.heap.size ∨ wr.heap.size ≤ i) → i < o0.heap.size → N6.heap[i]? = o0.heap[i]? := λyj t2 i h1 h2 => t2.mod.same i h2 λhf => by
   rcases h1 with ⟨h1, h1'⟩ | h1
   ·rcases hT.sub i hf with q | q
    ·have := h.lt q; omega
    ·omega
   ·have := hS.lt hf; omega
  refine Z.mk (λhb => ?_) (λhb => ?_)
  ·simp only [decide_eq_true_eq] at hb
   obtain ⟨y, hy⟩ := bX (l := L) (i := j) U
   have hy' : (L.map mW)[j]? = some (mW y) := by rw [aW, hy]; rfl
   have htk : L.take (j + 1) = L.take j ++ [y] := by rw [dq, hy]; rfl
   have wk : IntKind.wrap .i64 ((j : Int) + 1) = ((j + 1 : Nat) : Int) := by rw [wI (by unfold cH; omega)]; omega
   refine ⟨Iq.jX (i := (j : Int)) X U hb, _, _, _, _, Iq.y hy', λw86 e86 w87 e87 => ?_⟩
   have x87 : Ext wr w87 := ((Ext.M _).aZ e86).L e87 (ak _)
   have z87 : w87.heap.size = wr.heap.size + 1 := by rw [e87, e86]; simp
   clear e86 e87
   refine (qm (hS.ext x87) y (hLw y (aQ hy)) ((hk.fold (L.take j)).mono (by rw [cS]; omega))).mono ?_
   rintro e w88 ⟨rfl, F2, hS2, hT2⟩
   refine ⟨rfl, nf x87 hT2 _ (.inl U) U, nf x87 hT2 _ (.inl U) U, nf x87 hT2 _ (.inr U) U, n - 1, by omega, rfl, rfl, j + 1, F2, wk, by omega, ?_, (hT.trans (aJ.P x87)).trans hT2⟩
   rw [htk, og]
   exact hS2
  ·simp only [decide_eq_false_iff_not] at hb
   rw [dN U] at hS
   rw [hU, if_neg hHf]
   exact ⟨rfl, F', hS, (aJ.P ahv).trans hT⟩
end
end
section
variable{F F':Nat->Prop}{w w':au}{s o t:Nat}{M M':Sm}{occ:aC}{d':Ce->aX}
def Xq(l:List Ce):Prop:=∀y∈l,Cn y
def qB.upd{n:Nat}(h:qB M n)(d':Ce->aX)(c:Ce):qB (wi d' M c) (n+40):=by
 have h1:=h.l;have h2:=BY M.q c (M.now+1);unfold wi;split
 ·exact ⟨by simp only;omega,by have:=h.c;simp only;omega,h.now,by have:=h.d;simp only;omega⟩
 ·split
  ·have:qB {M with nk:=M.nk++ [fy c]} (n+1):=⟨by simp only;omega,by have:=h.c;simp only;omega,h.now,by have:=h.d;simp only [cj,List.length_singleton];omega⟩;exact (this.change _).mono U
  ·have:=Rg (jc M.T.2) c;exact (h.fold _).mono U
def qB.aao{n:Nat}(d':Ce->aX):∀{M:Sm}(l:List Ce),qB M n->qB (l.foldl (wi d') M) (n+40*l.length)
 |M,[],h=>h
 |M,x::l,h=>(qB.aao d' l (h.upd d' x)).mono a1f
def EZ{q:QS}{now b:Int}(hb:1<=b/\b<=64):(Na q now b).2.length<=64:=by unfold Na iQ;rw[aK,cS];omega
def ZE(h:SF F w s o t M occ)(hO:Oc occ d' F w)(hd:Xq (uO M))(hk:qB M 600000000)(hb:1<=M.dz/\M.dz<=64): Y 85 #[s] w λe w'=>e=S (uO M).length/\ni F w s o t (QT d' M) occ w':=by
 obtain⟨g,sd,hr,ho,-,-,bq⟩:=h.row;apply Mx.B;have ape:=hk.now;have wr:I (M.now+1)=M.now+1:=wI;have en:(if 1099511627776<M.now+1 then 1099511627776 else M.now+1)=qC M:=by unfold qC;split<;>omega
 have⟨p1,p2⟩:=hr.ft (j:=3) (v:=S (qC M)) (by simp[G']) rfl;refine⟨M.now,hr.at 3 rfl,⟨rfl,p1⟩,λw1 e1=>?_⟩;rw[wr,en]at e1;have⟨q1,q2⟩:=p2 w1 e1;have hso:∀b,sd.D=some b->b≠s:=λb hb=>a1B
 have⟨F1,h1,t1⟩:=bq (M':={M with now:=qC M}) (occ':=occ) (sd':=sd) rfl rfl rfl rfl rfl (q2.mono λi _ hi=>.inl hi) q1 (q2.gR ho hso) (λb hb=>.inl hb);have xd:=Ext.K w1;have t1d:=t1.trans (aJ.P xd);have⟨g',m,qs,hq,Ih,⟨sd',hr'⟩,dP,hresq⟩:=(h1.ext xd).queue;refine⟨_,hr'.at 0 rfl,_,hr'.at 3 rfl,_,hr'.at 2 rfl,(Q.aeu hq Ih (qC M) M.dz).mono ?_⟩;rintro e w5 ⟨s6,rfl,qs',lF,hq',ht⟩;have⟨F5,h5,t5⟩:=hresq hq' (Ih.due _ _) ht;have h5:SF F5 w5 s o t (GY M) occ:=h5;have T5:=t1d.trans t5;have hO5:=hO.uZ T5;have gF:=lF.rd (show 0<3 by decide);have hdl:(uO M).length<=64:=EZ hb;have gF:RdK w5 s6 3 ((uO M).map eV):=gF;have lF:ar w1.drew.heap.size rV 3 w5 s6 ((uO M).map eV):=lF;have hk5:qB (GY M) 600000000:=⟨hk.l,hk.c,by show 0<=qC M/\qC M<=_;unfold qC;omega,hk.d⟩;obtain⟨g1,sd1,r1,-,-,f1,-⟩:=(h1.ext xd).row;have hsq:¬Q.gN g' m qs s:=hq.dR hr' X X;have r5:=ht.mod.row r1 hsq;have hsF:∀b,s6.D=some b->¬F5 b:=λb hb=>by
  have⟨cs6,hr6⟩:=aT lF X hb;refine h5.dR hr6 aq8.1 X X X X X (λg sd r2 lk=>?_);have e1:=(r2.at 5 rfl).symm.trans (r5.at 5 rfl);have e2:sd.a=sd1.a:=by injection e1 with e1;injection e1
  have e3:sd.D=sd1.D:=by unfold H.D;rw[e2]
  have q1:=h1.lt (f1 b (e3▸lk));have q2:=(lF.own.lt hb).1;have q3:=nV w1;omega
 unfold QT;generalize uO M=L at*;generalize GY M=M0 at*;have hn6:=gF.n;rw[aK]at hn6;refine⟨s6,rfl,λn x wr=>∃(j:Nat)(F':Nat->Prop),x=j/\j+n=L.length/\SF F' wr s o t ((L.take j).foldl (wi d') M0) occ/\aJ F5 F' w5 wr,⟨L.length,0,F5,rfl,U,h5,aJ.refl _ _⟩,?_⟩;rintro n us x Yi ⟨j,F',rfl,hj,hS,hT⟩;have zr:=hT.mod.size;have Iq:RdK Yi s6 3 (L.map eV):=hT.mod.rdK X gF λ_ b hb hf=>hsF b hb hf
 apply Z.mk<;>intro hb
 ·replace hb:=lM hb;have⟨y,hy⟩:=bX (l:=L) (i:=j) U;have hy':(L.map eV)[j]? =some (eV y):=by rw[aW,hy];rfl
  have xk:L.take (j+1)=L.take j++[y]:=by rw[dq,hy];rfl
  have wk:=nE (j:=j);have hsm:=hd y (aQ hy);refine⟨Iq.jX (i:=(j:Int)) X U hb,_,_,_,Iq.y hy',λbZ CH cP ug=>?_⟩;have dO:Ext Yi cP:=(aU CH).L ug (ak _);have z17:=yL CH ug;refine(Rh (hS.ext dO) ((hO5.uZ hT).ext dO) y hsm ((hk5.aao d' (L.take j)).mono (by rw[cS];omega))).mono ?_;rintro e dA ⟨rfl,F2,hS2,Ii⟩;refine⟨rfl,Ii.mod.same _ U (λhf=>a1N (hS.lt hf)),n-1,U,j+1,F2,wk,U,?_,(hT.trans (aJ.P dO)).trans Ii⟩;rw[xk,og];exact hS2
 ·replace hb:=lW hb;rw[dN U]at hS;exact⟨by rw[hn6],F',hS,T5.trans hT⟩
end
end Go.Proofs.YtjcnjlaelhdjeaaGreatDoor
