import Derived.Test.YtkkkfkopcfdmaaaGreatDoorJ
import Derived.Test.YtkkkfkopcfdmaaaGreatDoorI
set_option linter.all false
namespace Go.Proofs.YtkkkfkopcfdmaaaGreatDoor
open Go Go.Vc Go.RowKit Go.Proofs Go.dm Go.aZ Go.Code Go.fZ Go.fh Go.iU
set_option maxRecDepth 100000
def lO(M:Sm)(L:List (Option dQ))(i:Nat):Bool:=match cC L i with|some y=>o5 M y.1|none=>false
def eS(M:Sm)(L:List (Option dQ)):List Nat:=(List.range 16).filter (lO M L)
def lg(M:Sm)(L:List (Option dQ))(i:Nat):dE:=match cC L i with|some y=>qZ (fx M.T.2) y.1 y.2|none=>EP
def qY(M:Sm)(L:List (Option dQ)):List dE:=qq (fx M.T.2) ((eS M L).map (lg M L))
def uB(L:List (Option dQ))(i:Nat)(b:dE):List (Option dQ):=match cC L i with|some y=>L.set i (some (b,y.2))|none=>L
def zJ(L:List (Option dQ))(l:List (Nat × dE)):List (Option dQ):=l.foldl (λL x=>uB L x.1 x.2) L
def mE(M:Sm)(L:List (Option dQ)):List (Option dQ):=zJ L ((eS M L).zip (qY M L))
def pS(M:Sm)(L:List (Option dQ)):Sm × List (Option dQ):=(FZ (lN (mE M L)) M,mE M L)
abbrev tLp:TypeId:=53
def amW(p:Option Addr):One [.pointer p]:=by intro u hu;simp at hu;subst hu;rfl
def qI{L:List (Option dQ)}{i:Nat}{y:dQ}(h:cC L i=some y):some y ∈ L:=by grind [cC]
def uC{M:Sm}{L:List (Option dQ)}{i:Nat}(h:i ∈ eS M L):i<16/\∃y,cC L i=some y:=by grind [eS,lO]
def acN{L:List (Option dQ)}{i j:Nat}{b:dE}:(cC (uB L i b) j).isSome=(cC L j).isSome:=by grind [uB,cC]
def Jt{j:Nat}:∀(l:List (Nat × dE))(L:List (Option dQ)),(cC (zJ L l) j).isSome=(cC L j).isSome
 | [],L=>rfl
 |x::l,L=>(Jt l (uB L x.1 x.2)).trans acN
def akb{L:List (Option dQ)}{i:Nat}{b:dE}{m:Int}(h:pL m L)(hb:okB m b):pL m (uB L i b):=by
 unfold uB
 cases hq:cC L i with
 |none=>exact h
 |some y=>
  intro z hz;rcases jZ hz with hz|hz
  ·exact h z hz
  ·cases hz
   exact hb
def Et{m:Int}:∀(l:List (Nat × dE)) {L:List (Option dQ)},pL m L->(∀x ∈ l,okB m x.2)->pL m (zJ L l)
 | [],L,h,_=>h
 |x::l,L,h,hl=>Et l (akb h (hl x cj)) λy hy=>hl y (by simp [hy])
def Es(M:Sm)(L:List (Option dQ)):(eS M L).length<=16:=by have:=zf (lO M L) (List.range 16);rw [FM] at this;exact this
def FU{M:Sm}{L:List (Option dQ)}{m:Int}(h:pL m L)(hm:m<=99970000000000):∀b ∈(eS M L).map (lg M L),okB (m+16777216) b:=by intro b hb;obtain ⟨i,hi,rfl⟩:=aY.1 hb;obtain ⟨-,y,hy⟩:=uC hi;unfold lg;rw [hy];exact UY (h y (qI hy)) hm
section
variable {F F':Nat->Prop} {w w':World} {g s o t:Nat} {M M':Sm} {occ:Value} {L:List (Option dQ)}
def EL.asw{av:List (Option Nat)}(he:EL w av L){k b:Nat}(ha:av[k]? =some (some b)){y:dQ}(hy:cC L k=some y)(x:dE){w':World}(hr:Row w' b (L9 (x,y.2)) lZ)(hs:∀a,some a ∈ av->a≠b->w'.heap[a]? =w.heap[a]?):EL w' av (uB L k x):=by
 have e:uB L k x=L.set k (some (x,y.2)):=by unfold uB;rw [hy]
 rw [e];exact he.put ha hr hs
def EL.full{av:List (Option Nat)}(he:EL w av L){k:Nat}{y:dQ}(hk:k<16)(hy:cC L k=some y):∃b,av[k]? =some (some b)/\Row w b (L9 y) lZ:=by
 obtain ⟨a,ha⟩:=bB (l:=av) (i:=k) (by rw [he.n];exact hk)
 cases a with
 |none=>rw [he.at0 ha] at hy;cases hy
 |some b=>
  obtain ⟨z,h1,-,h3⟩:=he.at ha;rw [h1] at hy
  cases hy
  exact ⟨b,ha,h3⟩
def SF.oc{Fs:Nat->Prop}(h2:SF Fs w s o t M occ){p:Value}{av:List (Option Nat)}(h1:Row w g (p::av.map pA) tD)(h3:EL w av L){m:Int}(hL:pL m L):Oc (.func (.func 66) #[g] #[]) (lN L) Fs w:=by
 have ng:¬Fs g:=h2.ka h1 pF.1.1 pF.1.2.1 pF.1.2.2.1 pF.1.2.2.2.1 pF.1.2.2.2.2.1 pF.1.2.2.2.2.2.1 pF.1.2.2.2.2.2.2;have na:∀a,some a ∈ av->¬Fs a:=λa ha=>by obtain ⟨i,hi⟩:=qo ha;obtain ⟨x,-,hr⟩:=h3.s i a hi;exact h2.ka hr pF.2.1.1 pF.2.1.2.1 pF.2.1.2.2.1 pF.2.1.2.2.2.1 pF.2.1.2.2.2.2.1 pF.2.1.2.2.2.2.2.1 pF.2.1.2.2.2.2.2.2
 refine ⟨λi=>i=g\/some i ∈ av,λi hi=> ?_,λw' hk c _=>c9 (by kernel_rfl) rfl (Jq (h1.same (hk _ (.inl rfl))) (h3.same λa ha=>hk a (.inr ha)) hL c)⟩;rcases hi with rfl|hi
 ·exact ⟨h1.lt,ng⟩
 ·exact ⟨h3.lt hi,na i hi⟩
end
section
variable {F F':Nat->Prop} {w w':World} {g s o t:Nat} {M M':Sm} {occ:Value} {L:List (Option dQ)}
abbrev N2(M:Sm)(L:List (Option dQ))(j:Nat):List (Option dQ):=zJ L (((eS M L).zip (qY M L)).take j)
def WW{j:Nat}{i:Nat}{b:dE}(hi:(eS M L)[j]? =some i)(hb:(qY M L)[j]? =some b):N2 M L (j+1)=uB (N2 M L j) i b:=by
 have e:((eS M L).zip (qY M L))[j]? =some (i,b):=by rw [List.getElem?_zip_eq_some];exact ⟨hi,hb⟩
 unfold N2 zJ;rw [dP,e,pk];rfl
def aa5(h:(qY M L).length=(eS M L).length):N2 M L (eS M L).length=mE M L:=by unfold N2 mE;rw [fz (by rw [List.length_zip,h];omega)]
set_option maxHeartbeats 4000000 in
def VZ(h:EF F w g s o t M occ L){m:Int}(hL:pL m L)(hm0:0<=m)(hm:m<=99900000000000)(hd:IP (rL M))(hk:rK M 600000)(alg:1<=M.dp/\M.dp<=64):
  ah 64 #[g] w λe w'=>e=Value.int .i64 (rL M).length/\jH F w g s o t (pS M L).1 (.func (.func 66) #[g] #[]) (pS M L).2 w'/\pL (m+3300000000) (pS M L).2:=by
 apply xJ.vc;obtain ⟨av,dq,jP,hFg,hFa,bu⟩:=h.row;have jR:af w (ae (aB g) 1) 0 (av.map pA):=by rw [bo];exact dq.cg λj hj=>by rw [show 0+1+j=j+1 from by omega,CM]
 obtain ⟨b0,b1,b2,b3,b4,b5,b6,b7,b8,b9,b10,Z0,TV,Hl,b14,VB,hav⟩:=UR jP.n;have fL:∀k:Nat,k<16->∃a:Option Nat,(([b0,b1,b2,b3,b4,b5,b6,b7,b8,b9,b10,Z0,TV,Hl,b14,VB]:List (Option Nat)).map pA)[((k:Nat):Int).toNat*1]? =some (pA a)/\av[k]? =some a:=λk hk=>by obtain ⟨a,ha⟩:=bB (l:=av) (i:=k) (by rw [jP.n];exact hk);exact ⟨a,by rw [<-hav,eC,zc,aV,ha];rfl,ha⟩
 rw [hav] at jR;have atk:∀i:Nat,i ∈ eS M L->∃b y,av[i]? =some (some b)/\cC L i=some y/\Row w b (L9 y) lZ:=λi hi=>by obtain ⟨h1,y,hy⟩:=uC hi;obtain ⟨b,h2,h3⟩:=jP.full h1 hy;exact ⟨b,y,h2,hy,h3⟩
 have hwl:=Es M L
 let ptr:Nat->LV:=λi=> [pA (av.getD i none)]
 have ptr_eq:∀{i:Nat} {a:Option Nat},av[i]? =some a->ptr i=[pA a]:=λ{i a} ha=>by show [pA (av.getD i none)]=_;rw [dY,ha];rfl
 refine ⟨_,_,_,_,_,_,_,_,_,_,_,_,_,_,_,_,jR,λn x sl wr=>∃k:Nat,x=k/\k+n=16/\aF w tLp 1 wr sl (((List.range k).filter (lO M L)).map ptr)/\Ext w wr,⟨16,0,rfl,rfl,aF.nil,Ext.cu _⟩,?_⟩;rintro n us x sl wr ⟨k,rfl,hk',ho,xr⟩;have zr:=xr.size;apply Br.mk<;>intro hb
 ·have hb:=dn hb;obtain ⟨a,ha,ha'⟩:=fL k ab;have wk:=nY (j:=k);have dD:sl.n<=16:=by have h1:=(ho.rd (show 0<1 by decide)).n;have h2:=zf (lO M L) (List.range k);rw [aN] at h1;rw [FM] at h2;omega
  have skip:lO M L k=false->∀{u:World},Ext wr u->∃QL,QL<n/\∃k':Nat,ak ((k:Int)+1)=k'/\k'+QL=16/\aF w tLp 1 u ⟨sl.a,sl.n,sl.c⟩ (((List.range k').filter (lO M L)).map ptr)/\Ext w u:=λhq {u} xu=>by refine ⟨n-1,by omega,k+1,wk,by omega,?_,xr.tr xu⟩;rw [wK,qd,bX,Ji (by rw [hq];decide)];simpa using ho.ext xu
  refine ⟨⟨by omega,by omega⟩,_,ha,?_⟩
  cases a with
  |none=>
   refine fB rfl (skip ?_ (Ext.cu _));unfold lO;rw [jP.at0 ha']
  |some b=>
   obtain ⟨y,hy,eV,Ug⟩:=jP.at ha';refine yes rfl (gT rfl (gT rfl ⟨_,_,_,_,_,_,_,_,_,US (Ug.ext xr),(CN (h.ext xr) y.1).mono ?_⟩));rintro e eP ⟨rfl,eF⟩;have z33:=eF.size;have hwake:lO M L k=o5 M y.1:=by unfold lO;rw [hy]
   refine ⟨_,rfl,Br.mk (λhq=>λki e35=> ?_) (λhq=>skip (by rw [hwake];exact hq) eF)⟩;subst e35;obtain ⟨DU,hres8⟩:=(ho.ext eF).iO (bytes:=8) (news:=[pA (some b)]) (.cells #[pA (some b)] tLp) ab rfl (amW _) ab ab;refine ⟨DU,λs36 iN aup=> ?_⟩;obtain ⟨f8,yM,hn8,x8,Hh,-⟩:=hres8 s36 iN aup;refine ⟨f8,n-1,by omega,k+1,wk,by omega,?_,(Below.trans (xr.tr eF) x8:Below w w iN)⟩;rw [wK,qd,bX,Jh (by rw [hwake];exact hq)];show aF _ _ _ _ _ (_++ [ptr k]);rw [ptr_eq ha'];exact yM
 have hb:=dn hb;have vT:k=16:=by omega
 subst vT;replace ho:aF w tLp 1 wr sl ((eS M L).map ptr):=ho;have tL:sl.n=(eS M L).length:=by rw [(ho.rd (show 0<1 by decide)).n,aN]
 have slk:∀b,sl.bj=some b->w.heap.size<=b/\b<wr.heap.size:=λb hb=>ho.own.lt hb
 refine ⟨λn x s2 iH=>∃j:Nat,x=j/\j+n=(eS M L).length/\aF wr AT 9 iH s2 ((((eS M L).take j).map (lg M L)).map jQ)/\Ext wr iH,⟨(eS M L).length,0,rfl,by omega,aF.nil,Ext.cu _⟩,?_⟩;rintro n2 wg x s2 iH ⟨j,rfl,hj,wi,qw⟩;have z43:=qw.size;apply Br.mk<;>intro hb
 ·have hb:=dn hb;have hjw:j<(eS M L).length:=by omega
  obtain ⟨i,hi⟩:=bB (l:=eS M L) (i:=j) hjw;obtain ⟨b,y,hab,hy,Ug⟩:=atk i (aU hi);have HA:=(ho.ext qw).rd (show 0<1 by decide);have vR:((eS M L).map ptr)[j]? =some [pA (some b)]:=by rw [aV,hi];exact congrArg some (ptr_eq hab)
  have L3:Vc.ld iH (ae sl.a ((j:Int).toNat*1))=some (pA (some b)):=by have:=HA.at vR (j:=0) (v:=pA (some b)) rfl;rw [dC] at this;exact this
  have xd:=Ext.dr iH;have hbdL:∀{u:World},Ext iH u->af u (ae (aB b) 0) 0 (jQ y.1):=λxu=>US (Ug.ext (xr.tr (qw.tr xu)))
  have hinL:∀{u:World},Ext iH u->af u (ae (aB b) 9) 0 [.int .i64 y.2.1,.int .i64 y.2.2.1,.bool y.2.2.2]:=λxu=>amX (Ug.ext (xr.tr (qw.tr xu)))
  refine ⟨HA.iz aG ab ab,_,L3,gT rfl (gT rfl ⟨_,_,_,_,_,_,_,_,_,hbdL xd,gT rfl (gT rfl ⟨_,_,_,hinL xd,(mc (h.ext (xr.tr (qw.tr xd)))).mono ?_⟩)⟩)⟩;rintro e Cj ⟨rfl,aur⟩;subst aur;have oky:=hL y (qI hy);refine ⟨_,rfl,hinL xd,hbdL xd,(FR (h.ext (xr.tr (qw.tr xd))).tl rfl y.1 oky.wdi oky.2.2.2 (oky.Bm ab) ab y.2).mono ?_⟩;rintro e nN ⟨rfl,my⟩;have z60:=my.size;have zd:=mN iH;refine ⟨_,_,_,_,_,_,_,_,_,rfl,λoA e70=> ?_⟩;subst e70;have dD:s2.n<=16:=by have h1:=(wi.rd (show 0<9 by decide)).n;rw [aN,aN,dI] at h1;omega
  obtain ⟨DU,hres8⟩:=(wi.ext (xd.tr my)).iO (bytes:=72) (news:=jQ (qZ (fx M.T.2) y.1 y.2)) (.cells (jQ (qZ (fx M.T.2) y.1 y.2)).toArray AT) ab rfl (xD _) ab ab;refine ⟨DU,λs71 w72 aus=> ?_⟩;obtain ⟨f8,yM,hn8,x8,Hh,-⟩:=hres8 s71 w72 aus;have wk:=nY (j:=j);refine ⟨f8,n2-1,by omega,j+1,wk,by omega,?_,(Below.trans (qw.tr (xd.tr my)) x8:Below wr wr w72)⟩;rw [dP,hi,bX,bX];have e1:lg M L i=qZ (fx M.T.2) y.1 y.2:=by unfold lg;rw [hy]
  show aF _ _ _ _ _ (_++ [jQ (lg M L i)]);rw [e1];exact yM
 have hb:=dn hb;have hjw:j=(eS M L).length:=by omega
 subst hjw;rw [ja] at wi;have h43:=h.ext (xr.tr qw);refine (mc h43).mono ?_;rintro e Qp ⟨rfl,aut⟩;subst aut;refine ⟨_,rfl,(FT h43.tl rfl wi (by rw [aN];exact hwl) (FU hL ab) ab ab).mono ?_⟩;rintro e sN ⟨Iy,rfl,ad2,vY,bq,VI⟩;rw [aN] at VI;replace ad2:aF Qp AT 9 sN Iy ((qY M L).map jQ):=ad2;replace VI:(qY M L).length=(eS M L).length:=VI;replace bq:∀b ∈ qY M L,okB (m+16777216+16*16*12582912) b:=bq;have z75:=vY.size;have s76k:∀b,Iy.bj=some b->Qp.heap.size<=b/\b<sN.heap.size:=λb hb=>ad2.own.lt hb
 have aBD:Iy.n=(eS M L).length:=by rw [(ad2.rd (show 0<9 by decide)).n,aN,VI]
 have ad3:=xr.tr (qw.tr vY);have avlt:∀a,some a ∈ av->a<w.heap.size:=λa ha=>jP.lt ha
 have gy:∀a,some a ∈ av->a≠g:=λa ha q=>by subst q;obtain ⟨i,hi⟩:=qo ha;obtain ⟨x,-,hr⟩:=jP.s i a hi;exact dq.ne hr pF.2.2 rfl
 refine ⟨Iy,rfl,λn x we=>∃j:Nat,x=j/\j+n=(eS M L).length/\EL we av (N2 M L j)/\Mod (λi=>some i ∈ av) sN we,⟨(eS M L).length,0,rfl,by omega,(jP.same λa ha=>ad3.heap (jP.lt ha)),Mod.refl _ _⟩,?_⟩;rintro n3 us3 x we ⟨j,rfl,hj,ag8,m81⟩;have z81:=m81.size;apply Br.mk<;>intro hb
 ·have hb:=dn hb;have hjw:j<(eS M L).length:=by omega
  obtain ⟨i,hi⟩:=bB (l:=eS M L) (i:=j) hjw;obtain ⟨x,hx⟩:=bB (l:=qY M L) (i:=j) ab;obtain ⟨b,y0,hab,hy0,-⟩:=atk i (aU hi);have HB:=(uC (aU hi)).1;obtain ⟨y,hy⟩:∃y,cC (N2 M L j) i=some y:=by
   have:=Jt (j:=i) (((eS M L).zip (qY M L)).take j) L;rw [hy0] at this
   cases hq:cC (N2 M L j) i with
   |none=>rw [hq] at this;cases this
   |some y=>exact ⟨y,rfl⟩
  obtain ⟨b',aoS,Ug⟩:=ag8.full HB hy;rw [hab] at aoS
  cases aoS
  have hrd76:=(m81.iC ad2 λb hb hq=>by have:=s76k b hb;have:=avlt b hq;omega).rd (show 0<9 by decide);have hrx:((qY M L).map jQ)[j]? =some (jQ x):=by rw [aV,hx];rfl
  refine ⟨hrd76.iz aG ab ab,_,_,_,_,_,_,_,_,_,hrd76.cg hrx,λw92 e92 IM e93=> ?_⟩;have yD:Ext we IM:=(aT e92).ag e93 (aD _);have z93:IM.heap.size=we.heap.size+1:=by rw [zR e93,zA e92]
  have xd:=yD.tr (Ext.dr IM);have HA:=(((m81.iC ((ho.ext qw).ext vY) λb hb hq=>by have:=slk b hb;have:=avlt b hq;omega).ext yD).ext (Ext.dr IM)).rd (show 0<1 by decide);have vR:((eS M L).map ptr)[j]? =some [pA (some b)]:=by rw [aV,hi];exact congrArg some (ptr_eq hab)
  have L3:Vc.ld IM.drew (ae sl.a ((j:Int).toNat*1))=some (pA (some b)):=by have:=HA.at vR (j:=0) (v:=pA (some b)) rfl;rw [dC] at this;exact this
  have aBF:=avlt b (aU hab);have hwz:=ad3.size;obtain ⟨p1,p2⟩:=mU (Ug.ext xd) (off:=0) (vs:=jQ x) (by show 0+9<=12;decide) (xD x);refine ⟨HA.iz aG ab ab,_,L3,gT rfl (gT rfl ⟨⟨rfl,p1⟩,?_,λw95 e95=> ?_⟩)⟩
  ·intro q;have q:some b=some we.heap.size:=q;have q:b=we.heap.size:=Option.some.inj q;omega
  obtain ⟨q1,q2⟩:=p2 w95 e95;have q1:Row w95 b (L9 (x,y.2)) lZ:=q1;have wk:=nY (j:=j);refine ⟨n3-1,by omega,j+1,wk,by omega,?_,m81.trans ((Mod.aH xd).trans (q2.mono λi _ hi=>by rw [hi];exact aU hab))⟩;rw [WW hi hx];refine ag8.asw hab hy x q1 λa ha hn=> ?_
  have:=avlt a ha;exact (q2.same a (by have:=xd.size;omega) hn).trans (xd.heap ab)
 have hb:=dn hb;have hjw:j=(eS M L).length:=by omega
 subst hjw;rw [aa5 VI] at ag8;have auu:Mod (λi=>i=g\/some i ∈ av) w we:=(Mod.aH ad3).trans (m81.mono λi _ hi=> .inr hi);obtain ⟨F81,h81,t81⟩:=bu auu (dq.ext ad3|>.same (m81.same _ (by have:=ad3.size;have:=dq.lt;omega) λq=>gy g q rfl)) ag8 λa ha=> .inl ha
 have hok2:pL (m+3300000000) (mE M L):=Et _ (hL.up ab) λx hx=>(bq x.2 (List.of_mem_zip hx).2).up ab
 obtain ⟨Fs,hs,jR,eQ,hresS⟩:=h81.wu;refine ⟨_,jR,(zK hs (.func 66) #[g] #[]).mono ?_⟩;rintro e w97 ⟨rfl,hr,-⟩;refine ⟨rfl,?_⟩;obtain ⟨F97,h97,t97⟩:=hresS hr;obtain ⟨Fs2,Db,hld2,hsub2,hresS2⟩:=h97.wu;obtain ⟨av2,hrow2,hel2,-,-,-⟩:=h97.row;refine ⟨_,hld2,(Ju Db (Db.oc hrow2 hel2 hok2) hd hk alg).mono ?_⟩;rintro e Q6 ⟨rfl,qE⟩;obtain ⟨F99,h99,t99⟩:=hresS2 qE;exact ⟨_,rfl,rfl,⟨F99,h99,t81.trans (t97.trans t99)⟩,hok2⟩
end
structure Ap(B:Nat)(w0:World)(s0:Sl)(w:World)(s:Sl)(b:List Int):Prop where
 own:nA B w s b
 bel:Below B w0 w
 JH:∀j,s0.bj≠some j->j<w0.heap.size->w.heap[j]? =w0.heap[j]?
 bj:∀j,s.bj=some j->s0.bj=some j\/w0.heap.size<=j
 low:B<=w0
def Ap.refl{B:Nat}{w:World}{s:Sl}{b:List Int}(h:nA B w s b)(hB:B<=w):Ap B w s w s b:=⟨h,Below.refl _ _,λ_ _ _=>rfl,λ_ hj=> .inl hj,hB⟩
def Ap.ext{B:Nat}{w0 w u:World}{s0 s:Sl}{b:List Int}(h:Ap B w0 s0 w s b)(x:Ext w u):Ap B w0 s0 u s b:=
 ⟨h.own.ext x,Below.trans h.bel (Below.mono x (gD h.low h.bel.size)),λj hj hl=>(x.heap (kB hl h.bel.size)).trans (h.JH j hj hl),h.bj,h.low⟩
def Ap.n{B:Nat}{w0 w:World}{s0 s:Sl}{b:List Int}(h:Ap B w0 s0 w s b):s.n=b.length:=by rw [(h.own.rd aG).n,aN]
def Ap.app{B:Nat}{w0 w:World}{s0 s:Sl}{b:List Int}(h:Ap B w0 s0 w s b)(news:List Int)(hl:b.length+news.length<=1000000):
  ba 1 1 w s news.length (news.map yv).flatten/\∀s' w',aX iJ 1 w s news.length (news.map yv).flatten s' w'->Ap B w0 s0 w' s' (b++news)/\(∀j,s.bj≠some j->j<w.heap.size->w'.heap[j]? =w.heap[j]?)/\(s'.bj=s.bj\/s'.bj=some w.heap.size)/\w.heap.size<=w'.heap.size:=by
 have hn:=h.n;have hlm:(news.map yv).length=news.length:=aN ..;have hB:B<=w:=gD h.low h.bel.size;obtain ⟨hp,hr⟩:=h.own.HU (bytes:=1) (more:=news.map yv) hB (λr hr=>by obtain ⟨x,-,rfl⟩:=aY.1 hr;rfl) (λr hr=>by obtain ⟨x,-,rfl⟩:=aY.1 hr;exact sW _ _) ab ab;rw [hlm] at hp hr;refine ⟨hp,λs' w' bu=> ?_⟩;obtain ⟨h1,h2,h3,h4,h5⟩:=hr s' w' bu;have hz:=h3.size;have hz0:=h.bel.size;refine ⟨⟨by show aF _ _ _ _ _ ((b++news).map yv);rw [bX];exact h1,Below.trans h.bel h3,λj hj hl=> ?_,λj hj=> ?_,h.low⟩,h4,h5,h3.size⟩
 ·have:s.bj≠some j:=λe=>by
   rcases h.bj j e with q|q
   ·exact hj q
   ·omega
  exact (h4 j this ab).trans (h.JH j hj hl)
 ·rcases h5 with q|q
  ·exact h.bj j (by rw [<-q];exact hj)
  ·rw [q] at hj;injection hj with hj;exact .inr ab
def Ap.ne{B:Nat}{w0 w:World}{s0 s:Sl}{b:List Int}(h:Ap B w0 s0 w s b){j:Nat}(hj:w.heap.size<=j):s.bj≠some j:=λe=>by have:=(h.own.own.lt e).2;omega
def Ap.iO{B:Nat}{w0 w v:World}{s0 s:Sl}{b:List Int}(h:Ap B w0 s0 w s b)(news:List Int)(hl:b.length+news.length<=1000000){o:Obj}(e:v=w.alloc o):
  ba 1 1 v s news.length (news.map yv).flatten/\∀s' w',aX iJ 1 v s news.length (news.map yv).flatten s' w'->Ap B w0 s0 w' s' (b++news)/\w'.heap[w.heap.size]? =v.heap[w.heap.size]?/\(∀j,s.bj≠some j->j<v.heap.size->w'.heap[j]? =v.heap[j]?)/\(s'.bj=s.bj\/s'.bj=some v.heap.size)/\v.heap.size<=w'.heap.size:=by
 obtain ⟨hp,hr⟩:=(h.ext (aT e)).app news hl;have z:=zA e;refine ⟨hp,λs' w' bu=> ?_⟩;obtain ⟨h1,h2,h3,h4⟩:=hr s' w' bu;exact ⟨h1,h2 _ (h.ne (aD _)) ab,h2,h3,h4⟩
def eO{s s':Sl}{n j:Nat}(hb:s'.bj=s.bj\/s'.bj=some n)(h1:s.bj≠some j)(h2:n≠j):s'.bj≠some j:=by grind
def Ap.off{B:Nat}{w0 w:World}{s0 s:Sl}{b:List Int}(h:Ap B w0 s0 w s b){j:Nat}(hj:s0.bj≠some j)(hl:j<w0):s.bj≠some j:=λe=>by
 rcases h.bj j e with q|q
 ·exact hj q
 ·omega
def Ap.trans{B:Nat}{w0 w w':World}{s0 s s':Sl}{b b':List Int}(h:Ap B w0 s0 w s b)(k:Ap B w s w' s' b'):Ap B w0 s0 w' s' b':=
 ⟨k.own,Below.trans h.bel k.bel,λj hj hl=>(k.JH j (h.off hj hl) (kB hl h.bel.size)).trans (h.JH j hj hl),λj hj=>(k.bj j hj).elim (λq=>h.bj j q) λq=> .inr (gD h.bel.size q),h.low⟩
def rdI{w v:World}{l:List Int}{o:TypeId}(e:v=w.alloc (.cells (l.map (Value.int .i64)).toArray o)):RdK v ⟨aB w.heap.size,l.length,l.length⟩ 1 (l.map iv):=by
 have hr:Row v w (l.map (Value.int .i64)) o:=by rw [e];exact Row.new w _ _
 have hf:∀l:List Int,(l.map iv).flatten=l.map (Value.int .i64):=λl=>by
  induction l with
  |nil=>rfl
  |cons a l ih=>rw [fT,kY,ih];rfl
 exact (aF.jG (B:=0) (k:=1) (iI _) hr (by rw [aN];omega) (aD _) (by rw [hf,fz (by rw [aN];omega)]) λr hr=>by obtain ⟨x,-,rfl⟩:=aY.1 hr;rfl).rd aG
def U1(n:Int):Nat->Int
 |0=>n / 1099511627776 % 256
 |1=>n / 4294967296 % 256
 |2=>n / 16777216 % 256
 |3=>n / 65536 % 256
 |4=>n / 256 % 256
 |_=>n % 256
def DC(n:Int):List Int:=(List.range 6).map (U1 n)
def m7(l:List Int):List Int:=(l.map DC).flatten
def uL(n:Int):(DC n).length=6:=rfl
def q9(l:List Int):(m7 l).length=6*l.length:=by
 unfold m7
 induction l with
 |nil=>rfl
 |cons a l ih=>rw [fT,kY,cS,ih,uL,c8];omega
def JI{l:List Int}{k:Nat}{n:Int}(h:l[k]? =some n):m7 (l.take (k+1))=m7 (l.take k)++DC n:=by unfold m7;rw [dP,h,bX,Cz];simp
def abz(n:Int)(q:Nat):0<=U1 n q/\U1 n q<256:=by unfold U1;split<;>omega
def JK{α:Type}(f:Nat->α)(q:Nat):(List.range (q+1)).map f=(List.range q).map f++ [f q]:=by rw [wK,bX];rfl
def afR(n:Int)(q:Nat)(hq:q<6):fi (n.fdiv (2 ^(min (ak (8*(5-(q:Int)))).toNat 64)))=U1 n q:=by
 rw [wrap_u8];have:q=0\/q=1\/q=2\/q=3\/q=4\/q=5:=by omega
 rcases this with rfl|rfl|rfl|rfl|rfl|rfl
 all_goals
  rw [sZ _ aG]
 ·show n / 1099511627776 % 256=_;rfl
 ·show n / 4294967296 % 256=_;rfl
 ·show n / 16777216 % 256=_;rfl
 ·show n / 65536 % 256=_;rfl
 ·show n / 256 % 256=_;rfl
 ·show n / 1 % 256=_;rw [Int.ediv_one];rfl
set_option maxHeartbeats 1000000 in
def re{B:Nat}{w:World}{s:Sl}{b:List Int}(h:nA B w s b)(hB:B<=w){s1:Sl}{l:List Int}(hl:RdK w s1 1 (l.map iv))(gy:l≠ []->∀j,s1.bj=some j->s.bj≠some j)(dD:b.length+6*l.length<=900000):
  ah 81 #[s,s1] w λe w'=>∃s':Sl,e=s'/\Ap B w s w' s' (b++m7 l):=by
 apply Sx.vc;have Mq:s1.n=l.length:=by rw [hl.n,aN]
 refine ⟨λn x sl wr=>∃k:Nat,x=k/\k+n=l.length/\Ap B w s wr sl (b++m7 (l.take k)),⟨l.length,0,rfl,by omega,by rw [CA];show Ap B w s w s (b++ []);rw [qQ];exact Ap.refl h hB⟩,?_⟩;rintro n us x sl wr ⟨k,rfl,hk,ha⟩;apply Br.mk<;>intro hq
 ·have hq:=dn hq;have QM:k<l.length:=by omega
  obtain ⟨y,hy⟩:=bB QM;have au4:l≠ []:=λe=>by rw [e] at QM;exact absurd QM cj
  have jj:RdK wr s1 1 (l.map iv):=hl.ahP λhrn j hj=>ha.JH j (gy au4 j hj) (hl.Su aG hrn hj)
  have hyi:(l.map iv)[k]? =some (iv y):=by rw [aV,hy];rfl
  have jR:=jj.at hyi (j:=0) (v:=.int .i64 y) rfl;rw [dC] at jR;have Uk:(m7 (l.take k)).length=6*k:=by rw [q9,dI];omega
  have wk:=nY (j:=k);refine ⟨jj.iz aG ab hq,y,jR,λn x kh bG=>∃q:Nat,x=5-(q:Int)/\q+n=6/\Ap B w s bG kh (b++m7 (l.take k)++(List.range q).map (U1 y)),⟨6,0,rfl,rfl,by simpa using ha⟩,?_⟩;rintro n9 Zx x kh bG ⟨q,rfl,hq6,hA⟩;apply Br.mk<;>intro hc
  ·have hc:=dn hc;rw [afR y q ab];refine bD.2 ⟨Ei.2 (by rw [wI];omega),λeu pQ=> ?_⟩;obtain ⟨hp,hr⟩:=hA.iO [U1 y q] (by simp only [cS,aN,FM,Uk,c8,m8];omega) pQ;refine ⟨hp,λZ5 cJ h17=> ?_⟩;obtain ⟨h1,h2,-⟩:=hr Z5 cJ h17;refine ⟨h2,n9-1,by omega,q+1,by rw [wI];omega,by omega,?_⟩;rw [JK,<-gV];exact h1
  ·have hc:=dn hc;have:q=6:=by omega
   subst this;refine ⟨n-1,by omega,k+1,wk,by omega,?_⟩;rw [JI hy,<-gV];exact hA
 ·have hq:=dn hq;have:k=l.length:=by omega
  subst this;rw [ja] at ha;exact ⟨sl,rfl,ha⟩
def stB(b:Bool):Int:=if b then 1 else 0
abbrev kQ(b:dE):List Int:=[b.aE.1,b.aE.2.1,b.aE.2.2,b.speed.1,b.speed.2.1,b.speed.2.2,b.wd,b.ht]
def gM(i:Int)(b:dE):List Int:=i::(m7 (kQ b)++ [stB b.iE])
def CL(L:List (Option dQ))(i:Int):List Int:=match cC L i with|some y=>gM i y.1|none=> []
def fJ(L:List (Option dQ))(l:List Int):List Int:=(l.map (CL L)).flatten
def iL(x:fZ.It):List Int:=m7 [x.1,x.2.1,x.2.2.1,x.2.2.2]
def vA(l:List fZ.It):List Int:=[((min l.length 2000:Nat):Int) / 256 % 256,((min l.length 2000:Nat):Int) % 256]++((l.take 2000).map iL).flatten
def dH(now:Int)(n:Nat):List Int:=DC now++ [(n:Int) % 256]
def fG(M:Sm)(L:List (Option dQ)):List Int:=dH M.now (cF L).length++fJ L (cF L)++vA M.q.l
def uf(L:List (Option dQ)):(cF L).length<=16:=by grind [cF]
def Gs{L:List (Option dQ)}{x:Int}(h:x ∈ cF L):∃i:Nat,x=i/\i<16/\∃y,cC L i=some y:=by unfold cF at h;obtain ⟨i,hi,rfl⟩:=aY.1 h;obtain ⟨h1,h2⟩:=kA.1 hi;exact ⟨i,rfl,oO.1 h1,oP.1 h2⟩
def GP(i:Int)(b:dE):(gM i b).length=50:=by unfold gM;rw [c8,cS,q9];rfl
def yh(L:List (Option dQ)):∀l:List Int,(fJ L l).length<=50*l.length
 | []=>aD _
 |x::l=>by
  have:=yh L l
  unfold fJ at this ⊢
  rw [fT,kY,cS,c8]
  have:(CL L x).length<=50:=by
   unfold CL;split
   ·rw [GP];exact aD _
   ·exact iI _
  omega
def C5(x:fZ.It):(iL x).length=24:=by unfold iL;rw [q9];rfl
def vB{α:Type}(f:α->List Int){l:List α}{k:Nat}{x:α}(h:l[k]? =some x):((l.take (k+1)).map f).flatten=((l.take k).map f).flatten++f x:=by rw [dP,h,bX,Cz];simp
def LI:∀l:List fZ.It,(l.map iL).flatten.length=24*l.length
 | []=>rfl
 |x::l=>by rw [fT,kY,cS,C5,LI l,c8];omega
def aj4{B E k:Nat}{w:World}{s:Sl}{xs:LV}(h:Vc.Own B E k w s xs):s.n<=s.c:=by
 cases h with
 |nil=>exact aD _
 |row g n c cs hg hr hc hn=>exact hn
def PM{w:World}{b:Nat}{y:dQ}(hr:Row w b (L9 y) lZ)(j:Nat){v:Value}(h:(L9 y)[j]? =some v):af w (ae (aB b) j) 0 [v]:=by rw [bo,eD];exact nJ hr h
def Av{w:World}{b:Nat}{y:dQ}(hr:Row w b (L9 y) lZ)(j:Nat){v:Value}(h:(L9 y)[j]? =some v):Vc.ld w (ae (aB b) j)=some v:=hr.at j h
section
variable {F F':Nat->Prop} {w w':World} {g s o t:Nat} {M M':Sm} {occ:Value} {L:List (Option dQ)}
def Jr(h:SF F w s o t M occ):ah 68 #[s] w λe w'=>e=(M.now)/\w'=w:=by obtain ⟨g,sd,h1,-⟩:=h.row;apply Nh.vc;exact ⟨_,h1.at 3 rfl,rfl,rfl⟩
set_option maxHeartbeats 4000000 in
def PN(h:EF F w g s o t M occ L):ah 26 #[g] w λe w'=>∃sl:Sl,e=Value.slice sl.a sl.n sl.c/\nA w w' sl (fG M L)/\Ext w w':=by
 apply uV.vc;refine (JO h).mono ?_;rintro e w1 ⟨s1,rfl,ho1,x1⟩;have z1:=x1.size;have h1:=h.ext x1;have Mq:s1.n=(cF L).length:=by rw [(ho1.rd aG).n,aN]
 have hll:=uf L;obtain ⟨Fs,hs,jR,eQ,-⟩:=h1.wu;refine ⟨s1,rfl,_,jR,(Jr hs).mono ?_⟩;rintro e w3 ⟨rfl,Q9⟩;subst Q9;refine ⟨_,rfl,λw5 e5=> ?_⟩;have x5:=aT e5;have z5:=zA e5;have hr5:=rdI (l:=[M.now]) e5;refine (re (B:=w3.heap.size) (s:=⟨none,0,0⟩) (b:=[]) aF.nil x5.size hr5 (λ_ j _ q=>(by cases q)) cj).mono ?_;rintro e w6 ⟨s7,rfl,a6⟩;have e6:([]:List Int)++m7 [M.now]=DC M.now:=by show DC M.now++ []=_;rw [qQ]
 rw [e6] at a6;refine ⟨s7,rfl,λw8 e8=> ?_⟩;have ew:fi ((s1.n:Nat):Int)=((cF L).length:Int) % 256:=by rw [wrap_u8,Mq]
 rw [ew] at e8 ⊢;obtain ⟨DU,hr8⟩:=a6.iO [((cF L).length:Int) % 256] (by rw [uL];simp) e8;have z8:=zA e8;refine ⟨DU,λs9 bN r10=> ?_⟩;obtain ⟨a10,k10,-,b10,Y6⟩:=hr8 s9 bN r10;replace a10:Ap w3 w5 ⟨none,0,0⟩ bN s9 (dH M.now (cF L).length):=a10;have z6:=a6.bel.size;have alL:Ext w3 bN:=x5.trans (Below.mono a10.bel (aD _));have n96:s9.bj≠some w6.heap.size:=eO b10 (a6.ne (aD _)) ab;have ht7:(dH M.now (cF L).length).length=7:=rfl;have A0:Ap w3 bN s9 bN s9 (dH M.now (cF L).length):=Ap.refl a10.own ab;refine ⟨k10,λn x sl wr=>∃k:Nat,x=k/\k+n=(cF L).length/\Ap w3 bN s9 wr sl (dH M.now (cF L).length++fJ L ((cF L).take k)),⟨(cF L).length,rfl,0,rfl,by omega,by rw [CA];show Ap _ _ _ _ _ (_++ []);rw [qQ];exact A0⟩,?_⟩;rintro n us x mA cP ⟨k,rfl,hk,Un⟩;have alN:Ext w3 cP:=alL.trans (Below.mono Un.bel (aD _));have z16:=Un.bel.size;have lL:(dH M.now (cF L).length++fJ L ((cF L).take k)).length<=1000:=by have:=yh L ((cF L).take k);rw [dI] at this;rw [cS,ht7];omega
 apply Br.mk<;>intro hq
 ·have hq:=dn hq;obtain ⟨v,hv⟩:=bB (l:=cF L) (i:=k) ab;obtain ⟨i,rfl,HB,y,hy⟩:=Gs (aU hv);have jj:=(ho1.ext alN).rd (show 0<1 by decide);have hvi:((cF L).map λi=> [Value.int .i64 i])[k]? =some [.int .i64 (i:Int)]:=by rw [aV,hv];rfl
  have apP:=jj.at hvi (j:=0) (v:=.int .i64 i) rfl;rw [dC] at apP;obtain ⟨av,dq,jP,-,-,-⟩:=h1.row;obtain ⟨b,hab,Ug⟩:=jP.full HB hy;have rowU:∀{u:World} {c:Sl} {bs:List Int},Ap w3 bN s9 u c bs->Row u b (L9 y) lZ:=λ{u c bs} ha=>Ug.ext (alL.trans (Below.mono ha.bel (aD _)))
  have awb:=rowU Un;have xd:=Ext.dr cP;have rbd:=awb.ext xd;have zd:=mN cP;have ad:=Un.ext xd;have wk:=nY (j:=k);have ei:fi ((i:Nat):Int)=(i:Int):=by rw [wrap_u8];omega
  refine ⟨jj.iz aG ab hq,_,apP,by omega,by omega,_,KW (dq.ext alN) hab,?_⟩;refine ⟨λc u=>Ap w3 bN s9 u c (dH M.now (cF L).length++fJ L ((cF L).take k)++((i:Int)::m7 (kQ y.1))),?_,?_⟩
  ·refine gT rfl (gT rfl (gT rfl (gT rfl ⟨_,Av rbd 0 rfl,gT rfl (gT rfl (gT rfl (gT rfl ⟨_,Av rbd 1 rfl,gT rfl (gT rfl (gT rfl (gT rfl ⟨_,Av rbd 2 rfl,gT rfl (gT rfl (gT rfl (gT rfl ⟨_,Av rbd 3 rfl,gT rfl (gT rfl (gT rfl (gT rfl ⟨_,Av rbd 4 rfl,gT rfl (gT rfl (gT rfl (gT rfl ⟨_,Av rbd 5 rfl,gT rfl (gT rfl (gT rfl ⟨_,Av rbd 6 rfl,gT rfl (gT rfl (gT rfl ⟨_,Av rbd 7 rfl,?_⟩))⟩))⟩)))⟩)))⟩)))⟩)))⟩)))⟩)));rw [ei];have fin:∀{u u':World} {c c':Sl},Ap w3 bN s9 u c (dH M.now (cF L).length++fJ L ((cF L).take k)++ [(i:Int)])->Ap w3 u c u' c' (dH M.now (cF L).length++fJ L ((cF L).take k)++ [(i:Int)]++m7 (kQ y.1))->Ap w3 bN s9 u' c' (dH M.now (cF L).length++fJ L ((cF L).take k)++((i:Int)::m7 (kQ y.1))):=λh1 h2=>by have:=h1.trans h2;rw [gV,gV] at this;rw [gV];exact this
   have hlen1:((dH M.now (cF L).length++fJ L ((cF L).take k))++ [(i:Int)]).length+6*(kQ y.1).length<=900000:=by rw [cS];show _+1+6*8<=_;omega
   have ZL:mA.bj≠some w6.heap.size:=Un.off n96 ab;refine ⟨λdX Qk=>⟨?_,λki e35=> ?_⟩,λjS TS iR e41=> ?_⟩
   ·obtain ⟨hp,hr⟩:=ad.iO [(i:Int)] (by rw [c8,m8];omega) Qk;have z29:=zA Qk;refine ⟨hp,λtZ gA r31=> ?_⟩;obtain ⟨a31,k31,m31,TU,z31⟩:=hr tZ gA r31;have QN:=rowU a31;refine ⟨m31 _ ZL ab,k31,PM QN 7 rfl,PM QN 6 rfl,PM QN 5 rfl,PM QN 4 rfl,PM QN 3 rfl,PM QN 2 rfl,PM QN 1 rfl,PM QN 0 rfl,λlA Uc=> ?_⟩;have a32:=a31.ext (aT Uc);have z32:=zA Uc;have hrd32:=rdI (l:=kQ y.1) Uc;have nd:tZ.bj≠some cP.drew.heap.size:=eO TU (Un.ne (aD _)) ab;refine (re a32.own (by have:=a32.bel.size;omega) hrd32 (λ_ j hj q=> ?_) hlen1).mono ?_
    ·have hj:j=gA.heap.size:=(Option.some.inj hj).symm;subst hj;exact a31.ne (aD _) q
    rintro e eP ⟨s34,rfl,a33⟩;exact ⟨s34,rfl,a33.JH _ (a31.off n96 ab) ab,a33.JH _ nd ab,rfl,fin a32 a33⟩
   ·have gr:=aT Qk;have z29:=zA Qk;obtain ⟨hp,hr⟩:=(ad.ext gr).iO [(i:Int)] (by rw [c8,m8];omega) e35;have z35:=zA e35;have hrd35:=rdI (l:=kQ y.1) e35;refine ⟨hp,λs36 iN r37=> ?_⟩;obtain ⟨a37,k37,m37,b37,z37⟩:=hr s36 iN r37;have nd:mA.bj≠some cP.drew.heap.size:=Un.ne (aD _);have Z4:s36.bj≠some dX.heap.size:=eO b37 (Un.ne ab) ab;refine ⟨m37 _ ZL ab,m37 _ nd ab,k37,(re a37.own (by have:=a37.bel.size;omega) (hrd35.same λj hj=> ?_) (λ_ j hj q=> ?_) hlen1).mono ?_⟩
    ·have hj:j=dX.heap.size:=(Option.some.inj hj).symm;subst hj;exact k37
    ·have hj:j=dX.heap.size:=(Option.some.inj hj).symm;subst hj;exact Z4 q
    rintro e oL ⟨VD,rfl,a38⟩;exact ⟨VD,rfl,a38.JH _ (a37.off n96 ab) ab,a38.JH _ (eO b37 nd ab) ab,rfl,fin a37 a38⟩
   ·have lu:=aT TS;have z40:=zA TS;have hrd40:=rdI (l:=kQ y.1) TS;obtain ⟨hp,hr⟩:=(ad.ext lu).iO [(i:Int)] (by rw [c8,m8];omega) e41;have z41:=zA e41;have kJ:=aT e41;refine ⟨hp,λs42 iH r43=> ?_⟩;obtain ⟨a43,k43,m43,Qn,z43⟩:=hr s42 iH r43;have nd:mA.bj≠some cP.drew.heap.size:=Un.ne (aD _);have n40:mA.bj≠some jS.heap.size:=Un.ne ab;refine ⟨m43 _ ZL ab,m43 _ nd ab,k43,(re a43.own (by have:=a43.bel.size;omega) ((hrd40.ext kJ).same λj hj=> ?_) (λ_ j hj q=> ?_) hlen1).mono ?_⟩
    ·have hj:j=cP.drew.heap.size:=(Option.some.inj hj).symm;subst hj;exact m43 _ nd ab
    ·have hj:j=cP.drew.heap.size:=(Option.some.inj hj).symm;subst hj;exact eO Qn nd ab q
    rintro e kI ⟨s45,rfl,a44⟩;exact ⟨s45,rfl,a44.JH _ (a43.off n96 ab) ab,a44.JH _ (eO Qn n40 ab) ab,rfl,fin a43 a44⟩
  ·intro apQ EJ gf QO;have awg:=rowU QO;have z48:=QO.bel.size;have awh:(dH M.now (cF L).length++fJ L ((cF L).take k)++((i:Int)::m7 (kQ y.1))).length<=2000:=by rw [cS,c8,q9];show _+(6*8+1)<=_;omega
   have endS:∀(st:Int),st=stB y.1.iE->∀{v:World} {c:Sl},Ap w3 bN s9 v c (dH M.now (cF L).length++fJ L ((cF L).take k)++((i:Int)::m7 (kQ y.1))++ [st])->Ap w3 bN s9 v c (dH M.now (cF L).length++fJ L ((cF L).take (k+1))):=λst g7 {v c} h=>by
    have e:fJ L ((cF L).take (k+1))=fJ L ((cF L).take k)++((i:Int)::(m7 (kQ y.1)++ [st])):=by unfold fJ;rw [vB (CL L) hv];unfold CL gM;rw [hy,g7]
    rw [e,<-gV];rw [gV] at h;exact h
   refine gT rfl (gT rfl (gT rfl ⟨_,Av awg 8 rfl,Br.mk (λhb=>λlR e50=> ?_) (λhb=>λQ8 e53=> ?_)⟩))
   ·obtain ⟨hp,hr⟩:=QO.iO [1] (by rw [c8,m8];omega) e50;have z50:=zA e50;refine ⟨hp,λs51 Q1 r52=> ?_⟩;obtain ⟨a52,k52,m52,b52,z52⟩:=hr s51 Q1 r52;exact ⟨m52 _ (QO.off n96 ab) ab,k52,n-1,by omega,rfl,k+1,wk,by omega,endS 1 (by rw [hb];rfl) a52⟩
   ·obtain ⟨hp,hr⟩:=QO.iO [0] (by rw [c8,m8];omega) e53;have z53:=zA e53;refine ⟨hp,λEE AK r55=> ?_⟩;obtain ⟨a55,k55,m55,b55,z55⟩:=hr EE AK r55;exact ⟨m55 _ (QO.off n96 ab) ab,k55,n-1,by omega,rfl,k+1,wk,by omega,endS 0 (by rw [hb];rfl) a55⟩
 ·have hq:=dn hq;have hk':k=(cF L).length:=by omega
  subst hk';rw [ja] at Un lL;obtain ⟨aDu,apR,hld16,-,-⟩:=(h1.ext alN).wu;refine ⟨_,hld16,(wL apR).mono ?_⟩;rintro e nQ ⟨nu,rfl,Uo,ox⟩;have z57:=ox.size;obtain ⟨gq,mq,qs,-,uZ,-⟩:=apR.queue;have hql:M.q.l.length<=4096:=by have:=uZ.len;have:=uZ.room;omega
  have ahu:nu.n=M.q.l.length:=by rw [(Uo.rd (show 0<4 by decide)).n,aN]
  have awj:=(Uo.rd (show 0<4 by decide));have Ql:nu.n<=nu.c:=aj4 Uo.own;have ZL:mA.bj≠some w6.heap.size:=Un.off n96 ab;have alO:(if 2000<((nu.n:Nat):Int) then 2000 else ((nu.n:Nat):Int))=((min M.q.l.length 2000:Nat):Int):=by rw [ahu];split<;>omega
  refine ⟨nu,rfl,ox.heap ab,?_⟩;rw [alO];refine ⟨by omega,by omega,λyO Z3=> ?_⟩;rw [eo];have a57:=Un.ext ox;have eb1:fi (((((((min M.q.l.length 2000:Nat):Int):Int).toNat-0:Nat):Int)).fdiv (2 ^(min (8:Int).toNat 64)))=((min M.q.l.length 2000:Nat):Int) / 256 % 256:=by rw [wrap_u8,sZ _ aG];rfl
  have eb2:fi ((((((min M.q.l.length 2000:Nat):Int):Int).toNat-0:Nat):Int))=((min M.q.l.length 2000:Nat):Int) % 256:=by rw [wrap_u8];rfl
  rw [eb1,eb2] at Z3 ⊢;obtain ⟨hp,hr⟩:=a57.iO [((min M.q.l.length 2000:Nat):Int) / 256 % 256,((min M.q.l.length 2000:Nat):Int) % 256] (by rw [c8,c8,m8];omega) Z3;have z59:=zA Z3;refine ⟨hp,λUp pG r61=> ?_⟩;obtain ⟨a61,k61,m61,b61,z61⟩:=hr Up pG r61;have qG:=aT Z3;have awm:Up.bj≠some w6.heap.size:=eO b61 ZL ab;have apS:Up.bj≠some nQ.heap.size:=eO b61 (a57.ne (aD _)) ab;have alQ:∀j,nu.bj=some j->cP.heap.size<=j/\j<nQ.heap.size:=λj hj=>Uo.own.lt hj
  have apT:∀j,nu.bj=some j->Up.bj≠some j:=λj hj=>by obtain ⟨q1,q2⟩:=alQ j hj;exact eO b61 (Un.ne q1) ab
  have hrd61:RdK pG nu 4 (M.q.l.map gj):=awj.same λj hj=>by obtain ⟨q1,q2⟩:=alQ j hj;exact (m61 j (Un.ne q1) ab).trans (qG.heap q2)
  let W:=M.q.l.take 2000
  have hW:W.length=min M.q.l.length 2000:=by rw [dI,Nat.min_comm]
  have A61:Ap w3 pG Up pG Up (dH M.now (cF L).length++fJ L (cF L)++ [((min M.q.l.length 2000:Nat):Int) / 256 % 256,((min M.q.l.length 2000:Nat):Int) % 256]):=Ap.refl a61.own (by have:=a61.bel.size;omega);have alu:((((min M.q.l.length 2000:Nat):Int)).toNat-0:Nat)=W.length:=by rw [hW];omega
  rw [alu];refine ⟨m61 _ ZL ab,k61,λn x sl wr=>∃k:Nat,x=k/\k+n=W.length/\Ap w3 pG Up wr sl (dH M.now (cF L).length++fJ L (cF L)++ [((min M.q.l.length 2000:Nat):Int) / 256 % 256,((min M.q.l.length 2000:Nat):Int) % 256]++((W.take k).map iL).flatten),⟨W.length,rfl,rfl,0,rfl,by omega,by rw [CA];show Ap _ _ _ _ _ (_++ []);rw [qQ];exact A61⟩,?_⟩;rintro n2 wg x s66 lC ⟨k,rfl,hk,a67⟩;have z67:=a67.bel.size;apply Br.mk<;>intro hq
  ·have hq:=dn hq;have hkW:k<W.length:=by omega
   obtain ⟨it,Z2⟩:=bB hkW;have ahv:M.q.l[k]? =some it:=by have h2:W[k]? =M.q.l[k]? :=List.getElem?_take_of_lt ab;rw [<-h2];exact Z2
   have dq:(M.q.l.map gj)[k]? =some (gj it):=by rw [aV,ahv];rfl
   have hrd67:RdK lC nu 4 (M.q.l.map gj):=hrd61.same λj hj=>a67.JH j (apT j hj) (by have:=alQ j hj;omega)
   have lr:ez nu.a (k:Int) W.length:=by obtain ⟨q1,q2,q3⟩:=hrd67.iz (i:=(k:Int)) aG ab ab;exact ⟨q1,q2,hq⟩
   refine ⟨lr,_,_,_,_,hrd67.cg dq,λQp e73 nt e74 sN ZB=> ?_⟩;have wh:Ext lC nt:=(aT e73).ag e74 (aD _);have z74:nt.heap.size=lC.heap.size+1:=by rw [zR e74,zA e73]
   have vY:=aT ZB;have z75:=zA ZB;have hrd75:=rdI (l:=[it.1,it.2.1,it.2.2.1,it.2.2.2]) ZB;have a75:=a67.ext (wh.tr vY);have aDx:(dH M.now (cF L).length++fJ L (cF L)++ [((min M.q.l.length 2000:Nat):Int) / 256 % 256,((min M.q.l.length 2000:Nat):Int) % 256]++((W.take k).map iL).flatten).length<=100000:=by rw [cS,cS,LI,dI];show _+2+_<=_;omega
   refine (re a75.own (by have:=a75.bel.size;omega) hrd75 (λ_ j hj q=> ?_) (by show _+6*4<=_;omega)).mono ?_
   ·have hj:j=nt.heap.size:=(Option.some.inj hj).symm;subst hj;exact a67.ne ab q
   rintro e kL ⟨s77,rfl,a76⟩;refine ⟨s77,rfl,a76.JH _ (a67.off awm ab) ab,a76.JH _ (a67.off apS ab) ab,a76.JH _ (a67.ne (aD _)) ab,n2-1,by omega,rfl,rfl,k+1,by rw [wI];omega,by omega,?_⟩;rw [vB iL Z2,<-gV];exact a75.trans a76
  ·have hq:=dn hq;have hk':k=W.length:=by omega
   subst hk';rw [ja] at a67;refine ⟨s66,rfl,?_,?_⟩
   ·have e:fG M L=dH M.now (cF L).length++fJ L (cF L)++ [((min M.q.l.length 2000:Nat):Int) / 256 % 256,((min M.q.l.length 2000:Nat):Int) % 256]++(W.map iL).flatten:=by unfold fG vA;rw [<-gV]
    rw [e];exact aF.low a67.own z1
   ·have b3:Below w3 w3 lC:=Below.trans alL (Below.trans a61.bel a67.bel);exact x1.tr b3
end
def uq:Nat->Int
 |0=>1099511627776
 |1=>4294967296
 |2=>16777216
 |3=>65536
 |4=>256
 |5=>1
 |_=>0
def agt(q:Nat)(hq:q<6):ak (Int.tdiv (uq q) 256)=uq (q+1):=by
 have:q=0\/q=1\/q=2\/q=3\/q=4\/q=5:=by omega
 rcases this with rfl|rfl|rfl|rfl|rfl|rfl<;>decide
def ake{n:Int}(h0:0<=n)(h1:n<=4611686018427387904)(q:Nat)(hq:q<6):fi (Int.tmod (ak (Int.tdiv n (uq q))) 256)=U1 n q:=by
 have hu:0<uq q:=by
  have:q=0\/q=1\/q=2\/q=3\/q=4\/q=5:=by omega
  rcases this with rfl|rfl|rfl|rfl|rfl|rfl<;>decide
 have hd:0<=n / uq q/\n / uq q<=n:=⟨Int.ediv_nonneg h0 (Int.le_of_lt hu),Int.ediv_le_self _ h0⟩;rw [qT h0,wI,CE hd.1,wrap_u8,Int.emod_emod_of_dvd _ (Int.dvd_refl 256)];have:q=0\/q=1\/q=2\/q=3\/q=4\/q=5:=by omega
 rcases this with rfl|rfl|rfl|rfl|rfl|rfl
 ·rfl
 ·rfl
 ·rfl
 ·rfl
 ·rfl
 ·show n / 1 % 256=n % 256;rw [Int.ediv_one]
def acQ(n:Int)(q:Nat)(hq:q<6):U1 (n+281474976710656) q=U1 n q:=by
 have:q=0\/q=1\/q=2\/q=3\/q=4\/q=5:=by omega
 rcases this with rfl|rfl|rfl|rfl|rfl|rfl
 ·show (n+281474976710656) / 1099511627776 % 256=n / 1099511627776 % 256;omega
 ·show (n+281474976710656) / 4294967296 % 256=n / 4294967296 % 256;omega
 ·show (n+281474976710656) / 16777216 % 256=n / 16777216 % 256;omega
 ·show (n+281474976710656) / 65536 % 256=n / 65536 % 256;omega
 ·show (n+281474976710656) / 256 % 256=n / 256 % 256;omega
 ·show (n+281474976710656) % 256=n % 256;omega
abbrev EK(n:Int):Prop:= -281474976710656<=n/\n<=4611686018427387904
def C9(n:Int)(hn:EK n)(w:World):ah 89 #[n] w λe w'=>∃s:Sl,e=s/\nA w w' s (DC n)/\Ext w w':=by
 apply LP.vc;have body:∀(n':Int),0<=n'->n'<=4611686018427387904->(∀q,q<6->U1 n' q=U1 n q)->∃I0:Nat->Int->Sl->Int->World->Prop,
   (∃n1,I0 n1 (0) ⟨none,0,0⟩ (1099511627776) w)/\
   ∀(n1:Nat)(wg:Nat->Value)(x3:Int)(s4:Sl)(x5:Int)(w6:World),I0 n1 x3 s4 x5 w6->
   Br (decide ((x3:Int)<6))
   (aS (L8 x5) (∀w8:World,w8=w6.alloc (.cells #[.int .u8 (fi (Int.tmod (ak (Int.tdiv n' x5)) 256))] iJ)->
   ba 1 1 w8 ⟨s4.a,s4.n,s4.c⟩ 1 [.int .u8 (fi (Int.tmod (ak (Int.tdiv n' x5)) 256))]/\∀(s9:Sl)(bN:World),aX iJ 1 w8 ⟨s4.a,s4.n,s4.c⟩ 1 [.int .u8 (fi (Int.tmod (ak (Int.tdiv n' x5)) 256))] s9 bN->bN.heap[w6.heap.size]? =w8.heap[w6.heap.size]?/\
   ∃n7,n7<n1/\I0 n7 ((ak (x3+1))) ⟨s9.a,s9.n,s9.c⟩ ((ak (Int.tdiv x5 256))) bN))
   (∃s:Sl,Ending.returned s4=s/\nA w w6 s (DC n)/\Ext w w6):=by
  intro n' h0 h1 hq;refine ⟨λm x sl u wr=>∃q:Nat,x=q/\q+m=6/\u=uq q/\Ap w w ⟨none,0,0⟩ wr sl ((List.range q).map (U1 n)),⟨6,0,rfl,rfl,rfl,Ap.refl aF.nil (aD _)⟩,?_⟩;rintro m us x s4 x5 w6 ⟨q,rfl,hm,rfl,ha⟩;apply Br.mk<;>intro hc
  ·have hc:=dn hc;have hq6:q<6:=by omega
   rw [ake h0 h1 q hq6,hq q hq6];refine bD.2 ⟨rM.2 ?_,λw8 e8=> ?_⟩
   ·have:q=0\/q=1\/q=2\/q=3\/q=4\/q=5:=by omega
    rcases this with rfl|rfl|rfl|rfl|rfl|rfl<;>decide
   obtain ⟨hp,hr⟩:=ha.iO [U1 n q] (by simp only [aN,FM,c8,m8];omega) e8;refine ⟨hp,λs9 bN r10=> ?_⟩;obtain ⟨h1,h2,-⟩:=hr s9 bN r10;refine ⟨h2,m-1,by omega,q+1,by rw [wI];omega,by omega,agt q hq6,?_⟩;rw [JK];exact h1
  ·have hc:=dn hc;have:q=6:=by omega
   subst this;exact ⟨s4,rfl,ha.own,ha.bel⟩
 refine Br.mk (λh=> ?_) (λh=>body n (by simp at h;omega) hn.2 λ_ _=>rfl);have h:=dn h;have e:ak (n+281474976710656)=n+281474976710656:=wI;rw [e];exact body _ ab ab λq hq=>acQ n q hq
def AB{w:World}{s1:Sl}{l:List Int}(hl:RdK w s1 1 (l.map iv))(hn:∀x ∈ l,EK x)(dD:l.length<=10000):ah 90 #[s1] w λe w'=>∃s:Sl,e=s/\nA w w' s (m7 l)/\Ext w w':=by
 apply Im.vc;have Mq:s1.n=l.length:=by rw [hl.n,aN]
 refine ⟨λn x sl wr=>∃k:Nat,x=k/\k+n=l.length/\Ap w w ⟨none,0,0⟩ wr sl (m7 (l.take k)),⟨l.length,0,rfl,by omega,Ap.refl aF.nil (aD _)⟩,?_⟩;rintro n us x sl wr ⟨k,rfl,hk,ha⟩;apply Br.mk<;>intro hq
 ·have hq:=dn hq;obtain ⟨y,hy⟩:=bB (l:=l) (i:=k) ab;have jj:RdK wr s1 1 (l.map iv):=hl.ext ha.bel;have hyi:(l.map iv)[k]? =some (iv y):=by rw [aV,hy];rfl
  have jR:=jj.at hyi (j:=0) (v:=.int .i64 y) rfl;rw [dC] at jR;refine ⟨jj.iz aG ab hq,y,jR,(C9 y (hn y (aU hy)) wr).mono ?_⟩;rintro e w8 ⟨s9,rfl,ho9,x8⟩;have hn9:s9.n=(DC y).length:=by rw [(ho9.rd aG).n,aN]
  obtain ⟨hp,hr⟩:=(ha.ext x8).app (DC y) (by rw [q9,dI,uL];omega);refine ⟨s9,rfl,_,(ho9.rd aG).flat aG,by rw [hn9];exact hp,λCb cU r12=> ?_⟩;rw [hn9] at r12;obtain ⟨h1,-⟩:=hr Cb cU r12;refine ⟨n-1,by omega,k+1,by rw [wI];omega,by omega,?_⟩;rw [JI hy];exact h1
 ·have hq:=dn hq;have:k=l.length:=by omega
  subst this;rw [ja] at ha;exact ⟨sl,rfl,ha.own,ha.bel⟩
abbrev Xr:=Int × dE
abbrev xrL(x:Xr):LV:=.int .i64 x.1::jQ x.2
def FL(now:Int)(xs:List Xr)(ws:List fZ.It):List Int:=dH now xs.length++(xs.map λx=>gM x.1 x.2).flatten++vA ws
def l8{w:World}{s:Sl}{k:Nat}{rows:List (LV)}(h:RdK w s k rows){i:Nat}{r:LV}(hi:rows[i]? =some r){off:Nat}{vs:LV}(hv:∀j,j<vs.length->r[off+j]? =vs[j]?):af w (ae (ae s.a (i*k)) off) 0 vs:=
 nh λj hj=>by have e:=hv j hj;have hs:vs[j]? =some vs[j]:=dv hj;rw [hs] at e ⊢;have:=h.at hi (j:=off+j) e;rw [dC,eD];exact this
def ano:∀l:List Xr,(l.map λx=>gM x.1 x.2).flatten.length=50*l.length
 | []=>rfl
 |x::l=>by rw [fT,kY,cS,GP,ano l,c8];omega
set_option maxHeartbeats 4000000 in
def Rl{now:Int}{sx sw:Sl}{xs:List Xr}{ws:List fZ.It}{w:World}(hx:RdK w sx 10 (xs.map xrL))(hw:RdK w sw 4 (ws.map gj))(ahg:EK now)(hxn:xs.length<=16)(hwn:ws.length<=4096)
  (hxb:∀x ∈ xs,(0<=x.1/\x.1<16)/\∀n ∈ kQ x.2,EK n)(hwb:∀x ∈ ws,∀n ∈ [x.1,x.2.1,x.2.2.1,x.2.2.2],EK n):
  ah 34 #[.agg #[now,sx,sw]] w λe w'=>∃sl:Sl,e=Value.slice sl.a sl.n sl.c/\nA w w' sl (FL now xs ws)/\Ext w w':=by
 apply (P5.vc (ao:=sx) (au:=sw));have Eh:sx.n=xs.length:=by rw [hx.n,aN]
 have hnw:sw.n=ws.length:=by rw [hw.n,aN]
 intro w0 e0;have x0:=aT e0;have z0:=zA e0;have r0:∃τ,Row w0 w [now,sx,sw] τ:=⟨_,by rw [e0];exact Row.new w [_,_,_] _⟩;obtain ⟨τ,r0⟩:=r0;refine (C9 now ahg w0).mono ?_;rintro e w1 ⟨s2,rfl,wi,x1⟩;have z1:=x1.size;refine ⟨s2,rfl,x1.heap ab,λw3 e3=> ?_⟩;have ew:fi ((sx.n:Nat):Int)=(xs.length:Int) % 256:=by rw [wrap_u8,Eh]
 rw [ew] at e3 ⊢;have a1:Ap w0 w1 s2 w1 s2 (DC now):=Ap.refl wi x1.size;obtain ⟨hp3,hr3⟩:=a1.iO [(xs.length:Int) % 256] (by rw [uL];simp) e3;have z3:=zA e3;have n2w:s2.bj≠some w.heap.size:=λq=>by have:=(wi.own.lt q).1;omega
 refine ⟨hp3,λs4 w5 r5=> ?_⟩;obtain ⟨a5,k5,m5,b5,z5⟩:=hr3 s4 w5 r5;replace a5:Ap w0 w1 s2 w5 s4 (dH now xs.length):=a5;have QH:Ext w0 w5:=x1.trans a5.bel;have n4w:s4.bj≠some w.heap.size:=eO b5 n2w ab;have n41:s4.bj≠some w1.heap.size:=eO b5 (a1.ne (aD _)) ab;have ht7:(dH now xs.length).length=7:=rfl;have A5:Ap w0 w5 s4 w5 s4 (dH now xs.length):=Ap.refl a5.own ab;refine ⟨m5 _ n2w ab,k5,?_⟩;refine ⟨λn x sl wr=>∃k:Nat,x=k/\k+n=xs.length/\Ap w0 w5 s4 wr sl (dH now xs.length++((xs.take k).map λx=>gM x.1 x.2).flatten),⟨xs.length,rfl,rfl,0,rfl,by omega,by rw [CA];show Ap _ _ _ _ _ (_++ []);rw [qQ];exact A5⟩,?_⟩;rintro n us x yN bc ⟨k,rfl,hk,a11⟩;have z11:=a11.bel.size;have ZO:Ext w0 bc:=QH.trans a11.bel;have lL:(dH now xs.length++((xs.take k).map λx=>gM x.1 x.2).flatten).length<=1000:=by rw [cS,ano,dI,ht7];omega
 have n10w:=a11.off n4w ab;have ahA:=a11.off n41 ab;apply Br.mk<;>intro hq
 ·have hq:=dn hq;obtain ⟨v,hv⟩:=bB (l:=xs) (i:=k) ab;obtain ⟨⟨hv0,aEk⟩,hvb⟩:=hxb v (aU hv);have hvr:(xs.map xrL)[k]? =some (xrL v):=by rw [aV,hv];rfl
  have hrd11:=hx.ext (x0.tr ZO);have eQ:∀j,j<(jQ v.2).length->(xrL v)[1+j]? =(jQ v.2)[j]? :=λj _=>by rw [uk,CM]
  have lr:=hrd11.iz (i:=(k:Int)) aG ab hq;refine ⟨lr,bD.2 ⟨jl.2 (by rw [gZ];exact lr.1),_,_,_,_,_,_,_,_,_,l8 hrd11 hvr eQ,λey HC eR VK=> ?_⟩⟩;have dA:Ext bc eR:=(aT HC).ag VK (aD _);have z23:eR.heap.size=bc.heap.size+1:=by rw [zR VK,zA HC]
  have hrd23:=hrd11.ext dA;have hin2:=hrd23.iz (i:=(k:Int)) aG ab hq;refine ⟨hin2,bD.2 ⟨jl.2 (by rw [gZ];exact hin2.1),_,hrd23.at hvr (j:=0) (v:=.int .i64 v.1) rfl,λcV tV=> ?_⟩⟩;have ei:fi v.1=v.1:=by rw [wrap_u8];omega
  rw [ei] at tV ⊢;obtain ⟨hp,hr⟩:=(a11.ext dA).iO [v.1] (by rw [c8,m8];omega) tV;have z25:=zA tV;refine ⟨hp,λQ7 eB r27=> ?_⟩;obtain ⟨a27,k27,m27,B7,z27⟩:=hr Q7 eB r27;have aiX:yN.bj≠some bc.heap.size:=a11.ne (aD _);have aqr:yN.bj≠some eR.heap.size:=a11.ne ab;refine ⟨m27 _ n10w ab,m27 _ ahA ab,m27 _ aiX ab,k27,λgQ e28=> ?_⟩;have ik:=aT e28;have z28:=zA e28;have hrd28:=rdI (l:=kQ v.2) e28;refine (AB hrd28 hvb (by show 8<=10000;decide)).mono ?_;rintro e dX ⟨tZ,rfl,aqs,gr⟩;have z29:=gr.size;have alS:tZ.n=(m7 (kQ v.2)).length:=by rw [(aqs.rd aG).n,aN]
  have Uk:(m7 (kQ v.2)).length=48:=by rw [q9];rfl
  obtain ⟨hp,hr⟩:=(a27.ext (ik.tr gr)).app (m7 (kQ v.2)) (by rw [cS,Uk,c8,m8];omega);refine ⟨tZ,rfl,gr.heap ab,gr.heap ab,gr.heap ab,gr.heap ab,_,(aqs.rd aG).flat aG,by rw [alS];exact hp,λvZ eP r33=> ?_⟩;rw [alS] at r33;obtain ⟨a33,m33,Zi,z33⟩:=hr vZ eP r33;have n26w:Q7.bj≠some w.heap.size:=eO B7 n10w ab;have al4:Q7.bj≠some w1.heap.size:=eO B7 ahA ab;have aer:Q7.bj≠some bc.heap.size:=eO B7 aiX ab;have aes:Q7.bj≠some eR.heap.size:=eO B7 aqr ab;have aEo:(dH now xs.length++((xs.take k).map λx=>gM x.1 x.2).flatten++ [v.1]++m7 (kQ v.2)).length<=2000:=by rw [cS,Uk,cS,c8,m8];omega
  have wk:=nY (j:=k);have endS:∀(st:Int),st=stB v.2.iE->∀{v':World} {c:Sl},Ap w0 w5 s4 v' c (dH now xs.length++((xs.take k).map λx=>gM x.1 x.2).flatten++ [v.1]++m7 (kQ v.2)++ [st])->Ap w0 w5 s4 v' c (dH now xs.length++((xs.take (k+1)).map λx=>gM x.1 x.2).flatten):=λst g7 {v' c} h=>by rw [vB (λx:Xr=>gM x.1 x.2) hv];unfold gM;rw [g7] at h;simp only [gV,List.cons_append,aaA] at h ⊢;exact h
  have q1:fi 1=1:=by decide
  have q0:fi 0=0:=by decide
  refine ⟨m33 _ n26w ab,m33 _ al4 ab,m33 _ aer ab,m33 _ aes ab,Br.mk (λhb=> ?_) (λhb=> ?_)⟩
  ·rw [q1];intro iq e34;obtain ⟨hp,hr⟩:=a33.iO [1] (by rw [c8,m8];omega) e34;have z34:=zA e34;refine ⟨hp,λMr jN r36=> ?_⟩;obtain ⟨a36,k36,m36,b36,z36⟩:=hr Mr jN r36;exact ⟨m36 _ (eO Zi n26w ab) ab,m36 _ (eO Zi al4 ab) ab,m36 _ (eO Zi aer ab) ab,m36 _ (eO Zi aes ab) ab,k36,n-1,by omega,rfl,rfl,k+1,wk,by omega,endS 1 (by rw [hb];rfl) a36⟩
  ·rw [q0];intro iN ZW;obtain ⟨hp,hr⟩:=a33.iO [0] (by rw [c8,m8];omega) ZW;have z37:=zA ZW;refine ⟨hp,λs38 kP r39=> ?_⟩;obtain ⟨a39,k39,m39,b39,z39⟩:=hr s38 kP r39;exact ⟨m39 _ (eO Zi n26w ab) ab,m39 _ (eO Zi al4 ab) ab,m39 _ (eO Zi aer ab) ab,m39 _ (eO Zi aes ab) ab,k39,n-1,by omega,rfl,rfl,k+1,wk,by omega,endS 0 (by rw [hb];rfl) a39⟩
 ·have hq:=dn hq;have hk':k=xs.length:=by omega
  subst hk';rw [ja] at a11 lL;have alO:(if 2000<((sw.n:Nat):Int) then 2000 else ((sw.n:Nat):Int))=((min ws.length 2000:Nat):Int):=by rw [hnw];split<;>omega
  rw [alO];have eb1:fi (ak (Int.tdiv ((min ws.length 2000:Nat):Int) 256))=((min ws.length 2000:Nat):Int) / 256 % 256:=by rw [qT ab,wI,wrap_u8]
  have eb2:fi (Int.tmod ((min ws.length 2000:Nat):Int) 256)=((min ws.length 2000:Nat):Int) % 256:=by rw [CE ab,wrap_u8];omega
  rw [eb1,eb2];intro jS TS;obtain ⟨hp,hr⟩:=a11.iO [((min ws.length 2000:Nat):Int) / 256 % 256,((min ws.length 2000:Nat):Int) % 256] (by rw [c8,c8,m8];omega) TS;have z40:=zA TS;refine ⟨hp,λMg kO r42=> ?_⟩;obtain ⟨a42,k42,m42,b42,z42⟩:=hr Mg kO r42;have n41w:=eO b42 n10w ab;have axl:=eO b42 ahA ab;have aqt:=eO b42 (a11.ne (aD _)) ab
  let W:=ws.take 2000
  have hW:W.length=min ws.length 2000:=by rw [dI,Nat.min_comm]
  have A42:Ap w0 kO Mg kO Mg (dH now xs.length++(xs.map λx=>gM x.1 x.2).flatten++ [((min ws.length 2000:Nat):Int) / 256 % 256,((min ws.length 2000:Nat):Int) % 256]):=Ap.refl a42.own (by have:=a42.bel.size;omega);have QR:Ext w0 kO:=QH.trans a42.bel;rw [<-hW];rw [<-hW] at A42;refine ⟨m42 _ n10w ab,m42 _ ahA ab,k42,λn x sl wr=>∃k:Nat,x=k/\k+n=W.length/\Ap w0 kO Mg wr sl (dH now xs.length++(xs.map λx=>gM x.1 x.2).flatten++ [((W.length:Nat):Int) / 256 % 256,((W.length:Nat):Int) % 256]++((W.take k).map iL).flatten),⟨W.length,rfl,rfl,rfl,0,rfl,by omega,by rw [CA];show Ap _ _ _ _ _ (_++ []);rw [qQ];exact A42⟩,?_⟩;rintro n2 wg x EJ gf ⟨k,rfl,hk,QO⟩;have z48:=QO.bel.size;have Iv:Ext w0 gf:=QR.trans QO.bel;apply Br.mk<;>intro hq
  ·have hq:=dn hq;have hkW:k<W.length:=by omega
   obtain ⟨it,Z2⟩:=bB hkW;have ahv:ws[k]? =some it:=by have h2:W[k]? =ws[k]? :=List.getElem?_take_of_lt ab;rw [<-h2];exact Z2
   have dq:(ws.map gj)[k]? =some (gj it):=by rw [aV,ahv];rfl
   have hrd48:=hw.ext (x0.tr Iv);have lr:=hrd48.iz (i:=(k:Int)) aG ab ab;refine ⟨lr,bD.2 ⟨jl.2 (by rw [gZ];exact lr.1),_,_,_,l8 hrd48 dq (off:=1) (vs:=[.int .i64 it.2.1,.int .i64 it.2.2.1,.int .i64 it.2.2.2]) (λj _=>by rw [uk,CM]),λQ8 e53 Hs e54=> ?_⟩⟩;have qx:Ext gf Hs.drew:=((aT e53).ag e54 (aD _)).drew;have z54:Hs.drew.heap.size=gf.heap.size+1:=by show Hs.heap.size=_;rw [zR e54,zA e53]
   have hrd54:=hrd48.ext qx;have axn:Ext gf Hs:=(aT e53).ag e54 (aD _);have hin2:=(hrd48.ext axn).iz (i:=(k:Int)) aG ab ab;refine ⟨hin2,bD.2 ⟨jl.2 (by rw [gZ];exact hin2.1),_,hrd54.at dq (j:=0) (v:=.int .i64 it.1) rfl,λqy e56=> ?_⟩⟩;have tk:=aT e56;have z56:=zA e56;have hrd56:=rdI (l:=[it.1,it.2.1,it.2.2.1,it.2.2.2]) e56;refine (AB hrd56 (hwb it (aU ahv)) cj).mono ?_;rintro e nQ ⟨nu,rfl,Uo,ox⟩;have z57:=ox.size;have ahu:nu.n=(iL it).length:=by rw [(Uo.rd aG).n,aN];rfl
   have a57:=QO.ext (qx.tr (tk.tr ox));have awh:(dH now xs.length++(xs.map λx=>gM x.1 x.2).flatten++ [((W.length:Nat):Int) / 256 % 256,((W.length:Nat):Int) % 256]++((W.take k).map iL).flatten).length+24<=100000:=by have QM:(W.take k).length=k:=List.length_take_of_le ab;rw [cS,cS,LI,QM];show _+2+_+24<=_;omega
   obtain ⟨hp,hr⟩:=a57.app (iL it) (by rw [C5];omega);have par:∀{u:World},Ext w0 u->af u (dU w.heap.size 2) 0 [sw]:=λxu=>nJ (r0.ext xu) rfl
   refine ⟨nu,rfl,ox.heap ab,ox.heap ab,ox.heap ab,ox.heap ab,par (Iv.tr (qx.tr (tk.tr ox))),_,(Uo.rd aG).flat aG,by rw [ahu];exact hp,λUp pG r61=> ?_⟩;rw [ahu] at r61;obtain ⟨a61,m61,b61,z61⟩:=hr Up pG r61;refine ⟨m61 _ (QO.off n41w ab) ab,m61 _ (QO.off axl ab) ab,m61 _ (QO.off aqt ab) ab,m61 _ (QO.ne (aD _)) ab,par (QR.trans a61.bel),n2-1,by omega,rfl,rfl,rfl,k+1,by rw [wI];omega,by omega,?_⟩;rw [vB iL Z2,<-gV];exact a61
  ·have hq:=dn hq;have hk':k=W.length:=by omega
   subst hk';rw [ja] at QO;refine ⟨EJ,rfl,?_,x0.tr (QR.trans QO.bel)⟩;have e:FL now xs ws=dH now xs.length++(xs.map λx=>gM x.1 x.2).flatten++ [((W.length:Nat):Int) / 256 % 256,((W.length:Nat):Int) % 256]++(W.map iL).flatten:=by unfold FL vA;rw [<-gV,hW]
   rw [e];exact aF.low QO.own ab
def ji(n:Int)(w:World):ah 141 #[n] w λe w'=>e=Value.int .i64 (dz n)/\w'=w:=by
 apply X9.vc;unfold dz;refine Br.mk (λh=> ?_) (λh=>Br.mk (λh2=> ?_) (λh2=> ?_))
 ·have h:=dn h;exact ⟨by rw [show min (max n (-140737488355328)) 140737488355328=140737488355328 from by omega],rfl⟩
 ·have h2:=dn h2;exact ⟨by rw [show min (max n (-140737488355328)) 140737488355328= -140737488355328 from by omega],rfl⟩
 ·have h:=dn h;have h2:=dn h2;exact ⟨by rw [show min (max n (-140737488355328)) 140737488355328=n from by omega],rfl⟩
def np(n:Int)(w:World):ah 84 #[n] w λe w'=>e=Value.int .i64 (bV n)/\w'=w:=by apply PD.vc;refine (ji n w).mono ?_;rintro e w0 ⟨rfl,rfl⟩;refine ⟨_,rfl,(Fg (dz n) 65536 (by have:=kc n;unfold bT;omega) aG w0).mono ?_⟩;rintro e w2 ⟨rfl,rfl⟩;exact ⟨_,rfl,rfl,rfl⟩
def ach(v:Ce)(w:World):ah 30 #[eg v] w λe w'=>e=(eg (bw v))/\Ext w w':=by apply aci.vc;intro w0 e0 w1 e1;have x0:=aT e0;have z0:=zA e0;have r0:∃τ,Row w0 w (dO v) τ:=⟨_,by rw [e0];exact Row.new w [_,_,_] _⟩;have x1:Ext w0 w1.drew:=(aT e1).drew;obtain ⟨τ,r0⟩:=r0;have r1:=r0.ext x1;refine (np v.1 w1.drew).mono ?_;rintro e w2 ⟨rfl,hw⟩;subst hw;refine ⟨_,rfl,rfl,rfl,nJ r1 rfl,nJ r1 rfl,(np v.2.1 _).mono ?_⟩;rintro e w2 ⟨rfl,hw⟩;subst hw;refine ⟨_,rfl,rfl,rfl,nJ r1 rfl,(np v.2.2 _).mono ?_⟩;rintro e w2 ⟨rfl,hw⟩;subst hw;exact ⟨_,rfl,rfl,rfl,λw8 e8=>⟨rfl,(x0.tr x1).ag e8 ab⟩⟩
def vz(a b:Int)(w:World):ah 142 #[a,b] w λe w'=>e=Value.int .i64 (fI a b)/\w'=w:=by apply Ya.vc;refine (ji a w).mono ?_;rintro e w0 ⟨rfl,rfl⟩;refine ⟨_,rfl,(ji b _).mono ?_⟩;rintro e w0 ⟨rfl,rfl⟩;have ha:=kc a;have hb:=kc b;refine ⟨_,rfl,?_⟩;rw [aM (n:=dz a+dz b) (by unfold bT;omega)];refine (ji _ _).mono ?_;rintro e w0 ⟨rfl,rfl⟩;exact ⟨_,rfl,rfl,rfl⟩
def Yb(a b:Int)(w:World):ah 181 #[a,b] w λe w'=>e=Value.int .i64 (lG a b)/\w'=w:=by apply Yc.vc;refine (ji a w).mono ?_;rintro e w0 ⟨rfl,rfl⟩;refine ⟨_,rfl,(ji b _).mono ?_⟩;rintro e w0 ⟨rfl,rfl⟩;have ha:=kc a;have hb:=kc b;refine ⟨_,rfl,?_⟩;rw [aM (n:=dz a-dz b) (by unfold bT;omega)];refine (ji _ _).mono ?_;rintro e w0 ⟨rfl,rfl⟩;exact ⟨_,rfl,rfl,rfl⟩
def J2(a b:Ce)(w:World):ah 85 #[eg a,eg b] w λe w'=>e=(eg (jK a b))/\Ext w w':=by apply Yd.vc;intro w0 e0 w1 e1 w2 e2;have x0:=aT e0;have z0:=zA e0;have r0:∃τ,Row w0 w (dO a) τ:=⟨_,by rw [e0];exact Row.new w [_,_,_] _⟩;have x1:=aT e1;have z1:=zA e1;have r1:∃τ,Row w1 w0 (dO b) τ:=⟨_,by rw [e1];exact Row.new w0 [_,_,_] _⟩;have x2:Ext w1 w2.drew:=(aT e2).drew;obtain ⟨τ,r0⟩:=r0;obtain ⟨τ',r1⟩:=r1;have ra:=r0.ext (x1.tr x2);have rb:=r1.ext x2;refine (vz a.1 b.1 w2.drew).mono ?_;rintro e w3 ⟨rfl,hw⟩;subst hw;refine ⟨_,rfl,rfl,rfl,rfl,nJ rb rfl,nJ ra rfl,nJ rb rfl,nJ ra rfl,(vz a.2.1 b.2.1 _).mono ?_⟩;rintro e w3 ⟨rfl,hw⟩;subst hw;refine ⟨_,rfl,rfl,rfl,rfl,nJ rb rfl,nJ ra rfl,(vz a.2.2 b.2.2 _).mono ?_⟩;rintro e w3 ⟨rfl,hw⟩;subst hw;exact ⟨_,rfl,rfl,rfl,rfl,λw9 e9=>⟨rfl,(x0.tr (x1.tr x2)).ag e9 ab⟩⟩
def xZ(v:Ce)(i:Int)(w:World):ah 180 #[eg v,i] w λe w'=>e=Value.int .i64 (bZ v i)/\Ext w w':=by
 apply Tm.vc;intro w0 e0;have x0:=aT e0;unfold bZ;refine Br.mk (λh=> ?_) (λh=>Br.mk (λh2=> ?_) (λh2=>Br.mk (λh3=> ?_) (λh3=> ?_)))
 ·rw [if_pos (by simpa using h)];exact ⟨rfl,x0⟩
 ·rw [if_neg (by simpa using h),if_pos (by simpa using h2)];exact ⟨rfl,x0⟩
 ·rw [if_neg (by simpa using h),if_neg (by simpa using h2),if_pos (by simpa using h3)];exact ⟨rfl,x0⟩
 ·rw [if_neg (by simpa using h),if_neg (by simpa using h2),if_neg (by simpa using h3)];exact ⟨rfl,x0⟩
def Tn(a b:Bx):iw a b=(decide (a.1.1<b.2.1) && decide (a.1.2.1<b.2.2.1) && decide (a.1.2.2<b.2.2.2) && decide (b.1.1<a.2.1) && decide (b.1.2.1<a.2.2.1) && decide (b.1.2.2<a.2.2.2)):=by
 unfold iw ovK;have e0:∀v:Ce,bZ v 0=v.1:=λ_=>rfl
 have e1:∀v:Ce,bZ v 1=v.2.1:=λ_=>rfl
 have e2:∀v:Ce,bZ v 2=v.2.2:=λ_=>rfl
 simp only [e0,e1,e2]
 cases decide (a.1.1<b.2.1)<;>cases decide (a.1.2.1<b.2.2.1)<;>cases decide (a.1.2.2<b.2.2.2)<;>cases decide (b.1.1<a.2.1)<;>cases decide (b.1.2.1<a.2.2.1)<;>cases decide (b.1.2.2<a.2.2.2)<;>rfl
def Ii(a b:Bx)(w:World):ah 179 #[qS a,qS b] w λe w'=>e=Value.bool (iw a b)/\Ext w w':=by
 apply Ij.vc;intro w0 e0 w1 e1;have x1:Ext w w1:=(aT e0).bg e1;rw [Tn];apply Br.mk<;>intro h1<;>apply Br.mk<;>intro h2<;>first|(apply Br.mk<;>intro h3)|skip
 all_goals (repeat' (first|(apply Br.mk<;>intro h<;>rw [h])))
 all_goals (first|rw [h1]|skip)
 all_goals (first|rw [h2]|skip)
 all_goals (first|rw [h3]|skip)
 all_goals exact ⟨by simp,x1⟩
def ani(n:Int):lG n 0=dz n:=by unfold lG dz;omega
set_option maxHeartbeats 2000000 in
def PE(aE:Ce)(wd h:Int)(hw:bT wd)(w:World):ah 128 #[eg aE,wd,.int .i64 h] w λe w'=>e=(qS (k8 aE wd h))/\Ext w w':=by
 apply PF.vc;intro w0 e0 w1 e1;have x0:=aT e0;have z0:=zA e0;have r0:∃τ,Row w0 w (dO aE) τ:=⟨_,by rw [e0];exact Row.new w [_,_,_] _⟩;have x1:Ext w0 w1.drew:=(aT e1).drew;obtain ⟨τ,r0⟩:=r0;have r1:=r0.ext x1;have kG:=x0.tr x1;rw [ahH hw,amQ h];have e:qS (k8 aE wd h)=.agg #[(lG aE.1 (max wd 0 / 2)),(dz aE.2.1),(lG aE.2.2 (max wd 0 / 2)),(fI aE.1 (max wd 0 / 2)),.int .i64 (fI aE.2.1 (max h 0)),(fI aE.2.2 (max wd 0 / 2))]:=by rw [<-ani aE.2.1];rfl
 rw [e];have A:∀(a b:Int) {u:World} {R:Ending->World->Prop},R (.returned (.int .i64 (fI a b))) u->ah 142 #[.int .i64 a,.int .i64 b] u R:=λa b u R h=>(vz a b u).mono (by rintro e w' ⟨rfl,rfl⟩;exact h)
 have S:∀(a b:Int) {u:World} {R:Ending->World->Prop},R (.returned (.int .i64 (lG a b))) u->ah 181 #[.int .i64 a,.int .i64 b] u R:=λa b u R h=>(Yb a b u).mono (by rintro e w' ⟨rfl,rfl⟩;exact h)
 have C:∀(a:Int) {u:World} {R:Ending->World->Prop},R (.returned (.int .i64 (dz a))) u->ah 141 #[.int .i64 a] u R:=λa u R h=>(ji a u).mono (by rintro e w' ⟨rfl,rfl⟩;exact h)
 repeat' (first
  |refine A _ _ ?_
  |refine S _ _ ?_
  |refine C _ ?_
  |refine ⟨_,rfl,rfl,rfl,?_⟩
  |refine ⟨nJ r1 rfl,?_⟩
  |exact λw' e'=>⟨rfl,kG.ag e' ab⟩
  |refine ⟨?_,?_⟩)
def BZ(b:dE)(hh: -1000000000<=b.ht/\b.ht<=1000000000)(h0:0<=b.ht)(w:World):ah 31 #[Dp b] w λe w'=>e=(eg (ky b))/\Ext w w':=by
 apply Ye.vc;intro w0 e0 w1 e1;have x0:=aT e0;have z0:=zA e0;have r0:∃τ,Row w0 w (jQ b) τ:=⟨_,by rw [e0];exact Row.new w [_,_,_,_,_,_,_,_,_] _⟩;have x1:Ext w0 w1.drew:=(aT e1).drew;have z1:w1.drew.heap.size=w0.heap.size+1:=by show w1.heap.size=_;exact zA e1
 obtain ⟨τ,r0⟩:=r0;have r1:=r0.ext x1;have kG:=x0.tr x1;have e4:ak (b.ht*4)=b.ht*4:=wI;rw [e4];refine (Fg (b.ht*4) 5 (by unfold bT;omega) aG w1.drew).mono ?_;rintro e w2 ⟨rfl,hw⟩;subst hw;have e5:b.ht*4 / 5=Int.tdiv (b.ht*4) 5:=by rw [qT ab]
 rw [e5];refine ⟨_,rfl,rfl,rfl,nJ r1 rfl,sh r1 rfl rfl rfl,(J2 b.aE (0,Int.tdiv (b.ht*4) 5,0) _).mono ?_⟩;rintro e w4 ⟨rfl,x4⟩;have z4:=x4.size;exact ⟨_,_,_,rfl,x4.heap ab,x4.heap ab,nJ (r1.ext x4) rfl,λw8 e8=>⟨rfl,(kG.tr x4).ag e8 ab⟩⟩
def vl(b:dE)(hw:bT b.wd)(w:World):ah 70 #[Dp b] w λe w'=>e=(qS b.box)/\Ext w w':=by apply Yf.vc;intro w0 e0 w1 e1;have x0:=aT e0;have z0:=zA e0;have x1:=aT e1;have z1:=zA e1;refine (PE b.aE b.wd b.ht hw w1).mono ?_;rintro e w2 ⟨rfl,x2⟩;have z2:=x2.size;exact ⟨_,_,_,_,_,_,rfl,x2.heap ab,x2.heap ab,λw9 e9=>⟨rfl,(x0.tr (x1.tr x2)).ag e9 ab⟩⟩
def PG(a b:Bx)(w:World):ah 125 #[qS a,qS b] w λe w'=>e=Value.bool (iw a b)/\Ext w w':=by apply PH.vc;intro w0 e0 w1 e1;have x0:=aT e0;have z0:=zA e0;have x1:=aT e1;have z1:=zA e1;refine (Ii a b w1).mono ?_;rintro e w2 ⟨rfl,x2⟩;have z2:=x2.size;exact ⟨_,rfl,x2.heap ab,x2.heap ab,rfl,x0.tr (x1.tr x2)⟩
def Ck(c:Ce):Ce:=(3+cM c.1 10,6+cM c.2.1 14,3+cM c.2.2 10)
def Ms(c:Ce):Ce:=(196608+cM c.1 589825,589824+cM c.2.1 589825,196608+cM c.2.2 589825)
def EO(n:Int):Int:=if n<0 then n else acj n
def Rj(c:Ce)(hc:qC c)(w:World):ah 28 #[eg c] w λe w'=>e=(eg (Ck c))/\Ext w w':=by
 apply To.vc;intro w0 e0 w1 e1;have x0:=aT e0;have r0:∃τ,Row w0 w (dO c) τ:=⟨_,by rw [e0];exact Row.new w [_,_,_] _⟩;have z0:=zA e0;have x1:Ext w0 w1.drew:=(aT e1).drew;obtain ⟨τ,r0⟩:=r0;have r1:=r0.ext x1;obtain ⟨h1,h2,h3⟩:=hc;have A:∀(a m:Int) {u:World} {R:Ending->World->Prop},bT a->0<m->bT m->R (.returned (.int .i64 (cM a m))) u->ah 10 #[.int .i64 a,.int .i64 m] u R:=λa m u R ha hm hi h=>(gS a m u ha hm hi).mono (by rintro e w' ⟨rfl,rfl⟩;exact h)
 have b1:=db c.1 10 aG;have b2:=db c.2.1 14 aG;have b3:=db c.2.2 10 aG;refine A _ _ h1 aG (by unfold bT;omega) ⟨_,rfl,rfl,rfl,nJ r1 rfl,nJ r1 rfl,A _ _ h2 aG (by unfold bT;omega) ⟨_,rfl,rfl,rfl,nJ r1 rfl,A _ _ h3 aG (by unfold bT;omega) ⟨_,rfl,rfl,rfl,λw8 e8=>⟨?_,(x0.tr x1).ag e8 ab⟩⟩⟩⟩;rw [aM (n:=3+cM c.1 10) (by unfold bT;omega),aM (n:=6+cM c.2.1 14) (by unfold bT;omega),aM (n:=3+cM c.2.2 10) (by unfold bT;omega)];rfl
def Rg(c:Ce)(hc:qC c)(w:World):ah 52 #[eg c] w λe w'=>e=(eg (Ms c))/\Ext w w':=by
 apply Tp.vc;intro w0 e0 w1 e1;have x0:=aT e0;have r0:∃τ,Row w0 w (dO c) τ:=⟨_,by rw [e0];exact Row.new w [_,_,_] _⟩;have z0:=zA e0;have x1:Ext w0 w1.drew:=(aT e1).drew;obtain ⟨τ,r0⟩:=r0;have r1:=r0.ext x1;obtain ⟨h1,h2,h3⟩:=hc;have A:∀(a m:Int) {u:World} {R:Ending->World->Prop},bT a->0<m->bT m->R (.returned (.int .i64 (cM a m))) u->ah 10 #[.int .i64 a,.int .i64 m] u R:=λa m u R ha hm hi h=>(gS a m u ha hm hi).mono (by rintro e w' ⟨rfl,rfl⟩;exact h)
 have b1:=db c.1 589825 aG;have b2:=db c.2.1 589825 aG;have b3:=db c.2.2 589825 aG;refine A _ _ h1 aG (by unfold bT;omega) ⟨_,rfl,rfl,rfl,nJ r1 rfl,nJ r1 rfl,A _ _ h2 aG (by unfold bT;omega) ⟨_,rfl,rfl,rfl,nJ r1 rfl,A _ _ h3 aG (by unfold bT;omega) ⟨_,rfl,rfl,rfl,λw8 e8=>⟨?_,(x0.tr x1).ag e8 ab⟩⟩⟩⟩;rw [aM (n:=196608+cM c.1 589825) (by unfold bT;omega),aM (n:=589824+cM c.2.1 589825) (by unfold bT;omega),aM (n:=196608+cM c.2.2 589825) (by unfold bT;omega)];rfl
def pR(n:Int)(hn:bT n)(w:World):ah 56 #[n] w λe w'=>e=Value.int .i64 (EO n)/\w'=w:=by
 apply PI.vc;unfold EO;apply Br.mk<;>intro h
 ·rw [if_pos (by simpa using h)];exact ⟨rfl,rfl⟩
 ·rw [if_neg (by simpa using h)];refine (DL n w hn).mono ?_;rintro e w0 ⟨rfl,rfl⟩;exact ⟨_,rfl,rfl,rfl⟩
set_option maxHeartbeats 8000000
set_option linter.unusedVariables false
variable {R:Ending->World->Prop} {w:World} {a0 a1 a2 a3 a4 a5 a6 a7 a8 a9 aw ao au aP aQ aR bM bH bI DV aq ar aA bz bR bQ fe fg eM DW bE bO bC yu yw vV vW yx yy yz DX DY DZ D3 D4 D5 D6 D7 D8 D9:Int}
def zg.vc{a0:Addr}{eM:Bool}(h:
 Aw w #[aq,ar,aA,bz,bR,bQ,fe,fg,eM] 70 λw0=>
 ∃(p1:Option Addr),ld w0.drew (ae (some a0) 0)=some (.pointer p1)/\
 ah 30 #[.agg #[aq,ar,aA]] w0.drew (jo λx3 x4 x5 w2=>Kp w w0.drew w2/\
 af w2 (ae (some a0) 0) 0 [.pointer p1]/\ah 100 #[p1,.agg #[x3,x4,x5]] w2 (Rb λb7 w6=>Kp w w2 w6/\
 R b7 w6))):ah 107 #[a0,.agg #[aq,ar,aA,bz,bR,bQ,fe,fg,eM]] w R:=
 cq bU Tryz.func107 h
def Bc.vc{a0:Addr}(h:
 Aw w #[aq,ar,aA] 41 λw0=>
 ∃I1:Nat->Int->World->Prop,
 (∃n2,aL [aq,ar,aA]/\I1 n2 (0) w0)/\
 ∀(n2:Nat)(us3:Nat->Value)(x4:Int)(w5:World),I1 n2 x4 w5->
 Br (x4<16)
 (∃(s7:Sl),ld w5.drew (ae (some a0) 2)=some (.slice s7.a s7.n s7.c)/\
 ez s7.a x4 s7.n/\aS (dK (ae s7.a ((x4:Int).toNat*13))) (∃(b8:Bool),ld w5.drew (ae (ae s7.a ((x4:Int).toNat*13)) 0)=some (.bool b8)/\
 Br b8
 (∃(s9:Sl),ld w5.drew (ae (some a0) 2)=some (.slice s9.a s9.n s9.c)/\
 ez s9.a x4 s9.n/\aS (dK (ae s9.a ((x4:Int).toNat*13))) (∃(bk bA bS cn bW cD cp cZ:Int)(b18:Bool),af w5.drew (ae (ae s9.a ((x4:Int).toNat*13)) 1) 0 [bk,bA,bS,cn,bW,cD,cp,cZ,b18]/\
 ah 70 #[.agg #[bk,bA,bS,cn,bW,cD,cp,cZ,b18]] w5.drew (wE λcW dh dJ dA eG dT gn=>Kp w w5.drew gn/\
 af gn w 0 [aq,ar,aA]/\af gn (ae (some a0) 2) 0 [s9]/\af gn (ae (ae s7.a ((x4:Int).toNat*13)) 0) 0 [.bool b8]/\af gn (ae (some a0) 2) 0 [s7]/\ah 126 #[.agg #[aq,ar,aA]] gn (wE λfD ik gr iM iB il fb=>Kp w gn fb/\
 af fb (ae (some a0) 2) 0 [s9]/\af fb (ae (ae s7.a ((x4:Int).toNat*13)) 0) 0 [.bool b8]/\af fb (ae (some a0) 2) 0 [s7]/\ah 125 #[.agg #[cW,dh,dJ,dA,eG,dT],.agg #[fD,ik,gr,iM,iB,il]] fb (Rb λZe eP=>Kp w fb eP/\
 af eP (ae (some a0) 2) 0 [s9]/\af eP (ae (ae s7.a ((x4:Int).toNat*13)) 0) 0 [.bool b8]/\af eP (ae (some a0) 2) 0 [s7]/\Br Ze
 (R true eP)
 (∃n6,n6<n2/\aL [aq,ar,aA]/\I1 n6 ((ak (x4+1))) eP))))))
 (∃n6,n6<n2/\aL [aq,ar,aA]/\I1 n6 ((ak (x4+1))) w5.drew)))
 (R false w5)):ah 67 #[a0,.agg #[aq,ar,aA]] w R:=
 cq ⟨[(2,⟨[(5,.int .i64)],[],[]⟩)],[],[]⟩ Tryz.func67 h
def Be.vc{a0:Addr}(h:
 Aw w #[aq,ar,aA] 41 λw0=>
 ah 114 #[a2] w0 (Rb λb2 w1=>Kp w w0 w1/\
 Br b2
 (ah 67 #[a0,.agg #[aq,ar,aA]] w1 (Rb λb4 w3=>Kp w w1 w3/\
 Br b4
 (R (12:Int) w3)
 (∃(p5:Option Addr),ld w3.drew (ae (some a0) 1)=some (.pointer p5)/\
 ah 113 #[p5,.agg #[aq,ar,aA],a2] w3.drew (Ri λx7 w6=>Kp w w3.drew w6/\
 R x7 w6))))
 (∃(p8:Option Addr),ld w1.drew (ae (some a0) 1)=some (.pointer p8)/\
 ah 113 #[p8,.agg #[aq,ar,aA],a2] w1.drew (Ri λbk w9=>Kp w w1.drew w9/\
 R bk w9)))):ah 60 #[a0,.agg #[aq,ar,aA],a2] w R:=
 cq bU Tryz.func60 h
def yZ.vc{a0:Addr}(h:
 Aw w #[aq,ar,aA] 28 λw0=>
 Aw w0 #[aa,aa,aa,aa,aa,aa,aa,aa,false] 75 λw1=>
 Sw w1 w0 #[aq,ar,aA,aa,aa,aa,a2,a3,false] λw2=>
 ah 106 #[.agg #[aq,ar,aA,aa,aa,aa,a2,a3,false]] w2 (Rb λb4 w3=>K2 w w0 w2 w3 (
 Br (!b4)
 (R (Value.tuple #[(-1:Int),(1:Int)]) w3)
 (∃I5:Nat->Int->Int->World->Prop,
 (∃n6,aL [aq,ar,aA]/\aL [aq,ar,aA,aa,aa,aa,a2,a3,false]/\I5 n6 (15) ((-1)) w3)/\
 ∀(n6:Nat)(us7:Nat->Value)(x8 x9:Int)(bN:World),I5 n6 x8 x9 bN->
 Br (x8>=0)
 (∃(kh:Sl),ld bN (ae (some a0) 2)=some (.slice kh.a kh.n kh.c)/\
 ez kh.a x8 kh.n/\aS (dK (ae kh.a ((x8:Int).toNat*13))) (∃(Hl:Bool),ld bN (ae (ae kh.a ((x8:Int).toNat*13)) 0)=some (.bool Hl)/\
 Br (!Hl)
 (∃tj,tj<n6/\aL [aq,ar,aA]/\aL [aq,ar,aA,aa,aa,aa,a2,a3,false]/\I5 tj ((ak (x8-1))) x8 bN)
 (∃tj,tj<n6/\aL [aq,ar,aA]/\aL [aq,ar,aA,aa,aa,aa,a2,a3,false]/\I5 tj ((ak (x8-1))) x9 bN)))
 (Br (x9<0)
 (R (Value.tuple #[(-1:Int),(8:Int)]) bN)
 (ah 107 #[a0,.agg #[aq,ar,aA,aa,aa,aa,a2,a3,false]] bN (Rb λVB bJ=>K2 w w0 bN bJ (
 Br (!VB)
 (R (Value.tuple #[(-1:Int),(11:Int)]) bJ)
 (∃(p16:Option Addr),ld bJ.drew (ae (some a0) 0)=some (.pointer p16)/\
 ah 27 #[p16] bJ.drew (Rv λv18 cJ=>K2 w w0 bJ.drew cJ (
 af cJ (aB w0) 0 [aq,ar,aA,aa,aa,aa,a2,a3,false]/\ah 70 #[.agg #[aq,ar,aA,aa,aa,aa,a2,a3,false]] cJ (wE λcW dh dJ dA eG dT gn=>K2 w w0 cJ gn (
 ah 46 #[v18,.agg #[cW,dh,dJ,dA,eG,dT]] gn (Rb λB7 fb=>K2 w w0 gn fb (
 Br B7
 (R (Value.tuple #[(-1:Int),(12:Int)]) fb)
 (∃(p28:Option Addr),ld fb.drew (ae (some a0) 0)=some (.pointer p28)/\
 ah 27 #[p28] fb.drew (Rv λv30 dX=>K2 w w0 fb.drew dX (
 af dX (aB w0) 0 [aq,ar,aA,aa,aa,aa,a2,a3,false]/\ah 70 #[.agg #[aq,ar,aA,aa,aa,aa,a2,a3,false]] dX (wE λil eF im jT lJ gx gA=>K2 w w0 dX gA (
 ah 49 #[v30,.agg #[il,eF,im,jT,lJ,gx]] gA (Rb λb39 oL=>K2 w w0 gA oL (
 Sw oL w0 #[aq,ar,aA,aa,aa,aa,a2,a3,b39] λjS=>
 ∃(Mg:Sl),ld jS.drew (ae (some a0) 2)=some (.slice Mg.a Mg.n Mg.c)/\
 ez Mg.a x9 Mg.n/\(((ae Mg.a ((x9:Int).toNat*13))).isSome=true/\Wr jS.drew (ae Mg.a ((x9:Int).toNat*13)) 13)/\bt (ae Mg.a ((x9:Int).toNat*13))≠some w.heap.size/\bt (ae Mg.a ((x9:Int).toNat*13))≠some w0.heap.size/\(∀kO,kO=aK jS.drew (ae Mg.a ((x9:Int).toNat*13)) [.bool true,aq,ar,aA,aa,aa,aa,a2,a3,b39,aa,aa,false]->
 R (Value.tuple #[x9,aa]) kO))))))))))))))))))))))):ah 53 #[a0,.agg #[aq,ar,aA],a2,a3] w R:=
 cq ⟨[(6,⟨[(12,.int .i64),(11,.int .i64)],[],[]⟩)],[],[]⟩ Tryz.func53 h
def Bf.vc{a0:Addr}(h:
 Aw w #[bE,bO,bC] 28 λw0=>
 Aw w0 #[aa,aa,aa,aa,aa,aa] 77 λw1=>
 Br (a1<0)
 (Sw w1 w0 #[aa,aa,aa,aa,aa,aa] λw2=>
 R (Value.tuple #[.agg #[aa,aa,aa,aa,aa,aa],(6:Int)]) w2)
 (Br (a1>15)
 (Sw w1 w0 #[aa,aa,aa,aa,aa,aa] λw3=>
 R (Value.tuple #[.agg #[aa,aa,aa,aa,aa,aa],(6:Int)]) w3)
 (∃(s4:Sl),ld w1 (ae (some a0) 2)=some (.slice s4.a s4.n s4.c)/\
 ez s4.a (if 0>(if 15<a1 then 15 else a1) then 0 else (if 15<a1 then 15 else a1)) s4.n/\aS (dK (ae s4.a (((if 0>(if 15<a1 then 15 else a1) then 0 else (if 15<a1 then 15 else a1)):Int).toNat*13))) (∃(b5:Bool),ld w1 (ae (ae s4.a (((if 0>(if 15<a1 then 15 else a1) then 0 else (if 15<a1 then 15 else a1)):Int).toNat*13)) 0)=some (.bool b5)/\
 Br (!b5)
 (Sw w1 w0 #[aa,aa,aa,aa,aa,aa] λw6=>
 R (Value.tuple #[.agg #[aa,aa,aa,aa,aa,aa],(6:Int)]) w6)
 (∃(p7:Option Addr),ld w1.drew (ae (some a0) 0)=some (.pointer p7)/\
 ∃(s8:Sl),ld w1.drew (ae (some a0) 2)=some (.slice s8.a s8.n s8.c)/\
 ez s8.a a1 s8.n/\aS (dK (ae s8.a ((a1:Int).toNat*13))) (∃(x9 bk bA bS cn bW cD cp:Int)(ZX:Bool),af w1.drew (ae (ae s8.a ((a1:Int).toNat*13)) 1) 0 [x9,bk,bA,bS,cn,bW,cD,cp,ZX]/\
 (ah 27 #[p7] w1.drew (Rv λv19 du=>K2 w w0 w1.drew du (
 af du w 0 [bE,bO,bC]/\af du (ae (ae s8.a ((a1:Int).toNat*13)) 1) 0 [x9,bk,bA,bS,cn,bW,cD,cp,ZX]/\af du (ae (some a0) 2) 0 [s8]/\(ah 31 #[.agg #[x9,bk,bA,bS,cn,bW,cD,cp,ZX]] du (jo λdh dJ dA ef=>K2 w w0 du ef (
 af ef w 0 [bE,bO,bC]/\af ef (ae (some a0) 2) 0 [s8]/\(ah 87 #[v19,.agg #[dh,dJ,dA],.agg #[bE,bO,bC],(5:Int)] ef (λe gC=>∃(dT fE fD ik gr iM:Int)(TU:Bool),e=Value.tuple #[.agg #[dT,fE,fD,ik,gr,iM],TU]/\K2 w w0 ef gC (
 af gC (ae (some a0) 2) 0 [s8]/\Aw gC #[aa,aa,aa,aa,aa,aa] 77 λlA=>
 Sw lA gC #[dT,fE,fD,ik,gr,iM] λeP=>
 Br (!TU)
 (Sw eP w0 #[aa,aa,aa,aa,aa,aa] λiq=>
 R (Value.tuple #[.agg #[aa,aa,aa,aa,aa,aa],(13:Int)]) iq)
 (Br (ik==(-1))
 (Sw eP w0 #[aa,aa,aa,aa,aa,aa] λki=>
 R (Value.tuple #[.agg #[aa,aa,aa,aa,aa,aa],(11:Int)]) ki)
 (Sw eP w0 #[dT,fE,fD,ik,gr,iM] λjN=>
 R (Value.tuple #[.agg #[dT,fE,fD,ik,gr,iM],(0:Int)]) jN)))))/\(Aw ef #[aa,aa,aa,aa,aa,aa] 77 λiN=>
 ah 87 #[v19,.agg #[dh,dJ,dA],.agg #[bE,bO,bC],(5:Int)] iN (λe oL=>∃(kH lu kJ ow qw lK:Int)(Qm:Bool),e=Value.tuple #[.agg #[kH,lu,kJ,ow,qw,lK],Qm]/\K3 w w0 ef iN oL (
 af oL (ae (some a0) 2) 0 [s8]/\Sw oL ef #[kH,lu,kJ,ow,qw,lK] λoM=>
 Br (!Qm)
 (Sw oM w0 #[aa,aa,aa,aa,aa,aa] λmw=>
 R (Value.tuple #[.agg #[aa,aa,aa,aa,aa,aa],(13:Int)]) mw)
 (Br (ow==(-1))
 (Sw oM w0 #[aa,aa,aa,aa,aa,aa] λgf=>
 R (Value.tuple #[.agg #[aa,aa,aa,aa,aa,aa],(11:Int)]) gf)
 (Sw oM w0 #[kH,lu,kJ,ow,qw,lK] λmI=>
 R (Value.tuple #[.agg #[kH,lu,kJ,ow,qw,lK],(0:Int)]) mI))))))))/\(Aw du #[aa,aa,aa,aa,aa,aa] 77 λlR=>
 ah 31 #[.agg #[x9,bk,bA,bS,cn,bW,cD,cp,ZX]] lR (jo λmJ iT qx vX=>K3 w w0 du lR vX (
 af vX w 0 [bE,bO,bC]/\af vX (ae (some a0) 2) 0 [s8]/\ah 87 #[v19,.agg #[mJ,iT,qx],.agg #[bE,bO,bC],(5:Int)] vX (λe AK=>∃(tk ox yA qG my vU:Int)(b62:Bool),e=Value.tuple #[.agg #[tk,ox,yA,qG,my,vU],b62]/\K3 w w0 du vX AK (
 af AK (ae (some a0) 2) 0 [s8]/\Sw AK du #[tk,ox,yA,qG,my,vU] λIw=>
 Br (!b62)
 (Sw Iw w0 #[aa,aa,aa,aa,aa,aa] λtX=>
 R (Value.tuple #[.agg #[aa,aa,aa,aa,aa,aa],(13:Int)]) tX)
 (Br (qG==(-1))
 (Sw Iw w0 #[aa,aa,aa,aa,aa,aa] λIx=>
 R (Value.tuple #[.agg #[aa,aa,aa,aa,aa,aa],(11:Int)]) Ix)
 (Sw Iw w0 #[tk,ox,yA,qG,my,vU] λrI=>
 R (Value.tuple #[.agg #[tk,ox,yA,qG,my,vU],(0:Int)]) rI))))))))))/\(Aw w1.drew #[aa,aa,aa,aa,aa,aa] 77 λlC=>
 ah 27 #[p7] lC (Rv λv69 tM=>K2 w w0 lC tM (
 tM.heap[w1.drew.heap.size]? =lC.heap[w1.drew.heap.size]?/\
 af tM w 0 [bE,bO,bC]/\af tM (ae (ae s8.a ((a1:Int).toNat*13)) 1) 0 [x9,bk,bA,bS,cn,bW,cD,cp,ZX]/\af tM (ae (some a0) 2) 0 [s8]/\ah 31 #[.agg #[x9,bk,bA,bS,cn,bW,cD,cp,ZX]] tM (jo λoy oz nO oA=>K2 w w0 tM oA (
 oA.heap[w1.drew.heap.size]? =tM.heap[w1.drew.heap.size]?/\
 af oA w 0 [bE,bO,bC]/\af oA (ae (some a0) 2) 0 [s8]/\ah 87 #[v69,.agg #[oy,oz,nO],.agg #[bE,bO,bC],(5:Int)] oA (λe nt=>∃(vY yB HL Ea AL yC:Int)(b81:Bool),e=Value.tuple #[.agg #[vY,yB,HL,Ea,AL,yC],b81]/\K2 w w0 oA nt (
 nt.heap[w1.drew.heap.size]? =oA.heap[w1.drew.heap.size]?/\
 af nt (ae (some a0) 2) 0 [s8]/\Sw nt w1.drew.heap.size #[vY,yB,HL,Ea,AL,yC] λw82=>
 Br (!b81)
 (Sw w82 w0 #[aa,aa,aa,aa,aa,aa] λw83=>
 R (Value.tuple #[.agg #[aa,aa,aa,aa,aa,aa],(13:Int)]) w83)
 (Br (Ea==(-1))
 (Sw w82 w0 #[aa,aa,aa,aa,aa,aa] λLS=>
 R (Value.tuple #[.agg #[aa,aa,aa,aa,aa,aa],(11:Int)]) LS)
 (Sw w82 w0 #[vY,yB,HL,Ea,AL,yC] λw85=>
 R (Value.tuple #[.agg #[vY,yB,HL,Ea,AL,yC],(0:Int)]) w85))))))))))))))):ah 63 #[a0,a1,.agg #[bE,bO,bC]] w R:=
 cq bU Tryz.func63 h
def zh.vc{a0:Addr}(h:
 Aw w #[bE,bO,bC] 28 λw0=>
 ah 63 #[a0,a1,.agg #[bE,bO,bC]] w0 (λe w1=>∃(x2 x3 x4 x5 x6 x7 x8:Int),e=Value.tuple #[.agg #[x2,x3,x4,x5,x6,x7],x8]/\Kp w w0 w1/\
 Aw w1 #[aa,aa,aa,aa,aa,aa] 77 λw9=>
 Sw w9 w1 #[x2,x3,x4,x5,x6,x7] λbN=>
 Br (x8==6)
 (R x8 bN)
 (ah 111 #[a3] bN (Rb λTV bc=>K2 w w1 bN bc (
 Br (!TV)
 (R (1:Int) bc)
 (Br (a3==0)
 (R (1:Int) bc)
 (Br (x8 !=0)
 (R x8 bc)
 (Br (x6<0)
 (R (12:Int) bc)
 (ah 112 #[.agg #[x2,x3,x4]] bc (λe bG=>∃(bW cD cp cZ cA cr cW dh dJ dA eG dT fE fD ik gr iM iB:Int),e=Value.agg #[bW,cD,cp,cZ,cA,cr,cW,dh,dJ,dA,eG,dT,fE,fD,ik,gr,iM,iB]/\K2 w w1 bc bG (
 Aw bG #[aa,aa,aa,aa,aa,aa,aa,aa,aa,aa,aa,aa,aa,aa,aa,aa,aa,aa] 186 λlA=>
 Wt lA ⟨bG,0,none⟩ 18/\Nb bG w/\Nb bG w1/\(∀eP,eP=aK lA (aB bG) [bW,cD,cp,cZ,cA,cr,cW,dh,dJ,dA,eG,dT,fE,fD,ik,gr,iM,iB]->
 (0:Int)<=x6/\x6<((6:Nat):Int)/\∃(im jT lJ:Int),af eP (ae (aB bG) ((x6:Int).toNat*3)) 0 [im,jT,lJ]/\
 ah 60 #[a0,.agg #[im,jT,lJ],a3] eP (Ri λgd iN=>K2 w w1 eP iN (
 R gd iN)))))))))))))):ah 57 #[a0,a1,.agg #[bE,bO,bC],a3] w R:=
 cq bU Tryz.func57 h
def Bg.vc{a0:Addr}(h:
 Aw w #[bE,bO,bC] 28 λw0=>
 ah 63 #[a0,a1,.agg #[bE,bO,bC]] w0 (λe w1=>∃(x2 x3 x4 x5 x6 x7 x8:Int),e=Value.tuple #[.agg #[x2,x3,x4,x5,x6,x7],x8]/\Kp w w0 w1/\
 Aw w1 #[aa,aa,aa,aa,aa,aa] 77 λw9=>
 Sw w9 w1 #[x2,x3,x4,x5,x6,x7] λbN=>
 Br (x8 !=0)
 (R (Value.tuple #[aa,x8]) bN)
 (ah 60 #[a0,.agg #[x2,x3,x4],(0:Int)] bN (Ri λbS bc=>K2 w w1 bN bc (
 Br (bS !=0)
 (R (Value.tuple #[aa,bS]) bc)
 (R (Value.tuple #[x5,aa]) bc)))))):ah 58 #[a0,a1,.agg #[bE,bO,bC]] w R:=
 cq bU Tryz.func58 h
def xm.vc{c0:Addr}(h:
 Aw w #[aw,ao,au] 41 λw0=>
 ∃(p1:Option Addr),ld w0 (some c0)=some (.pointer p1)/\
 ah 67 #[p1,.agg #[aw,ao,au]] w0 (Rb λb3 w2=>Kp w w0 w2/\
 R b3 w2)):ah 120 #[.agg #[aw,ao,au],c0] w R:=
 cq bU Tryz.func120 h
def Bh.vc{a0:Addr}(h:
 Aw w #[a0] 23 λw0=>
 ∃I1:Nat->Int->Sl->World->Prop,
 (∃n2,aL [.pointer (some a0)]/\I1 n2 (0) ⟨none,0,0⟩ w0)/\
 ∀(n2:Nat)(us3:Nat->Value)(x4:Int)(s5:Sl)(w6:World),I1 n2 x4 s5 w6->
 Br (x4<16)
 (∃(s8:Sl),ld w6.drew (ae (some a0) 2)=some (.slice s8.a s8.n s8.c)/\
 ez s8.a x4 s8.n/\aS (dK (ae s8.a ((x4:Int).toNat*13))) (∃(b9:Bool),ld w6.drew (ae (ae s8.a ((x4:Int).toNat*13)) 0)=some (.bool b9)/\
 Br b9
 (∃(yN:Sl),ld w6.drew (ae (some a0) 2)=some (.slice yN.a yN.n yN.c)/\
 ez yN.a x4 yN.n/\aS (dK (ae yN.a ((x4:Int).toNat*13))) (∃(bA bS cn bW cD cp cZ cA:Int)(b19:Bool),af w6.drew (ae (ae yN.a ((x4:Int).toNat*13)) 1) 0 [bA,bS,cn,bW,cD,cp,cZ,cA,b19]/\
 ah 107 #[a0,.agg #[bA,bS,cn,bW,cD,cp,cZ,cA,b19]] w6.drew (Rb λMh ef=>Kp w w6.drew ef/\
 af ef (ae (some a0) 2) 0 [yN]/\af ef w 0 [.pointer (some a0)]/\af ef (ae (ae s8.a ((x4:Int).toNat*13)) 0) 0 [.bool b9]/\af ef (ae (some a0) 2) 0 [s8]/\af ef w 0 [.pointer (some a0)]/\Br Mh
 (Aw ef #[x4] 3 λey=>
 ba 8 1 ey s5 1 [x4]/\∀(s23:Sl)(gC:World),aX 3 1 ey s5 1 [x4] s23 gC->K2 w ef ey gC (
 ∃n7,n7<n2/\aL [.pointer (some a0)]/\I1 n7 ((ak (x4+1))) s23 gC))
 (∃n7,n7<n2/\aL [.pointer (some a0)]/\I1 n7 ((ak (x4+1))) s5 ef))))
 (∃n7,n7<n2/\aL [.pointer (some a0)]/\I1 n7 ((ak (x4+1))) s5 w6.drew)))
 (∃I25:Nat->Int->Sl->World->Prop,
 (∃n26,aL [.pointer (some a0)]/\I25 n26 (0) ⟨none,0,0⟩ w6)/\
 ∀(n26:Nat)(aA9:Nat->Value)(ik:Int)(s29:Sl)(fw:World),I25 n26 ik s29 fw->
 Br (decide (ik<((s5.n:Nat):Int)))
 (∃(vZ:Sl),ld fw.drew (ae (some a0) 2)=some (.slice vZ.a vZ.n vZ.c)/\
 ez s5.a ik s5.n/\∃(eF:Int),ld fw.drew (ae s5.a ((ik:Int).toNat*1))=some (.int .i64 eF)/\
 ez vZ.a eF vZ.n/\∃(Ze:Bool)(jT lJ gx gd kH lu kJ ow:Int)(Qn:Bool)(lK pH:Int)(b46:Bool),af fw.drew (ae vZ.a ((eF:Int).toNat*13)) 0 [.bool Ze,jT,lJ,gx,gd,kH,lu,kJ,ow,Qn,lK,pH,b46]/\
 Aw fw.drew #[false,aa,aa,aa,aa,aa,aa,aa,aa,false,aa,aa,false] 117 λmw=>
 Sw mw fw.drew.heap.size #[Ze,jT,lJ,gx,gd,kH,lu,kJ,ow,Qn,lK,pH,b46] λgf=>
 ∃(p49:Option Addr),ld gf.drew (ae (some a0) 0)=some (.pointer p49)/\
 ah 27 #[p49] gf.drew (Rv λv51 lR=>Kp w gf.drew lR/\lR.heap[fw.drew.heap.size]? =gf.drew.heap[fw.drew.heap.size]?/\
 af lR (dU fw.drew.heap.size 10) 0 [lK,pH,b46]/\af lR w 0 [.pointer (some a0)]/\af lR (dU fw.drew.heap.size 1) 0 [jT,lJ,gx,gd,kH,lu,kJ,ow,Qn]/\ah 116 #[.agg #[jT,lJ,gx,gd,kH,lu,kJ,ow,Qn],v51,.agg #[lK,pH,b46]] lR (λe Q1=>∃(iT qx mz tk ox yA qG my:Int)(b61:Bool),e=Value.agg #[iT,qx,mz,tk,ox,yA,qG,my,b61]/\Kp w lR Q1/\Q1.heap[fw.drew.heap.size]? =lR.heap[fw.drew.heap.size]?/\
 af Q1 w 0 [.pointer (some a0)]/\Aw Q1 #[iT,qx,mz,tk,ox,yA,qG,my,b61] 70 λjk=>
 ba 72 9 jk s29 1 [iT,qx,mz,tk,ox,yA,qG,my,b61]/\∀(s63:Sl)(tX:World),aX 70 9 jk s29 1 [iT,qx,mz,tk,ox,yA,qG,my,b61] s63 tX->Kp w jk tX/\tX.heap[fw.drew.heap.size]? =jk.heap[fw.drew.heap.size]?/\Kp Q1 jk tX/\
 af tX w 0 [.pointer (some a0)]/\∃VC,VC<n26/\aL [.pointer (some a0)]/\I25 VC ((ak (ik+1))) s63 tX)))
 (∃(p65:Option Addr),ld fw (ae (some a0) 0)=some (.pointer p65)/\
 ah 27 #[p65] fw (Rv λv67 rI=>Kp w fw rI/\
 ah 117 #[v67,s29] rI (Rs λs69 tM=>Kp w rI tM/\
 ∃I70:Nat->Int->World->Prop,
 (∃n71,aL [.pointer (some a0)]/\I70 n71 (0) tM)/\
 ∀(n71:Nat)(atm:Nat->Value)(nO:Int)(nt:World),I70 n71 nO nt->
 Br (decide (nO<((s5.n:Nat):Int)))
 (Br (decide (nO<((s69.n:Nat):Int)))
 (∃(Iy:Sl),ld nt.drew (ae (some a0) 2)=some (.slice Iy.a Iy.n Iy.c)/\
 ez s5.a nO s5.n/\∃(HL:Int),ld nt.drew (ae s5.a ((nO:Int).toNat*1))=some (.int .i64 HL)/\
 ez s69.a nO s69.n/\∃(Ea AL yC vF tN v5 B8 B9:Int)(b86:Bool),af nt.drew (ae s69.a ((nO:Int).toNat*9)) 0 [Ea,AL,yC,vF,tN,v5,B8,B9,b86]/\
 ez Iy.a HL Iy.n/\aS (dK (ae Iy.a ((HL:Int).toNat*13))) ((((ae (ae Iy.a ((HL:Int).toNat*13)) 1)).isSome=true/\Wr nt.drew (ae (ae Iy.a ((HL:Int).toNat*13)) 1) 9)/\bt (ae (ae Iy.a ((HL:Int).toNat*13)) 1)≠some w.heap.size/\(∀Ca,Ca=aK nt.drew (ae (ae Iy.a ((HL:Int).toNat*13)) 1) [Ea,AL,yC,vF,tN,v5,B8,B9,b86]->
 ∃n75,n75<n71/\aL [.pointer (some a0)]/\I70 n75 ((ak (nO+1))) Ca)))
 (∃(p88:Option Addr),ld nt (ae (some a0) 1)=some (.pointer p88)/\
 ah 118 #[p88,.func (.func 120) #[] #[w]] nt (λe pC=>e=ug/\
 ∃(p90:Option Addr),ld pC (aB w)=some (.pointer p90)/\
 aS (dK p90) (aS (dK p90) (∃(p91:Option Addr),ld pC (ae p90 1)=some (.pointer p91)/\
 ah 119 #[p91] pC (λe w92=>∃(yD:Int),e=yD/\
 R yD w92))))))
 (∃(p94:Option Addr),ld nt (ae (some a0) 1)=some (.pointer p94)/\
 ah 118 #[p94,.func (.func 120) #[] #[w]] nt (λe w95=>e=ug/\
 ∃(p96:Option Addr),ld w95 (aB w)=some (.pointer p96)/\
 aS (dK p96) (aS (dK p96) (∃(p97:Option Addr),ld w95 (ae p96 1)=some (.pointer p97)/\
 ah 119 #[p97] w95 (λe Zf=>∃(Kl:Int),e=Kl/\
 R Kl Zf)))))))))):ah 65 #[a0] w R:=
 cq ⟨[(15,⟨[(9,.int .i64)],[],[]⟩),(9,⟨[(6,.int .i64),(4,.slice)],[],[]⟩),(4,⟨[(5,.int .i64),(3,.slice)],[],[]⟩)],[],[]⟩ Tryz.func65 h
def xp.vc{a0:Addr}(h:
 Aw w #[aa,.slice none 0 0,.slice none 0 0] 86 λw0=>
 ∃(p1:Option Addr),ld w0 (ae (some a0) 1)=some (.pointer p1)/\
 ah 68 #[p1] w0 (Ri λx3 w2=>Kp w w0 w2/\
 Aw w2 #[aa,.slice none 0 0,.slice none 0 0] 86 λw4=>
 Sw w4 w2 #[x3,.slice none 0 0,.slice none 0 0] λw5=>
 ∃I6:Nat->Int->Int->Sl->Sl->World->Prop,
 (∃n7,aL [aa,.slice none 0 0,.slice none 0 0]/\I6 n7 (0) x3 ⟨none,0,0⟩ ⟨none,0,0⟩ w5)/\
 ∀(n7:Nat)(us8:Nat->Value)(x9 bk:Int)(Cb kh:Sl)(bG:World),I6 n7 x9 bk Cb kh bG->
 Br (x9<16)
 (∃(mA:Sl),ld bG (ae (some a0) 2)=some (.slice mA.a mA.n mA.c)/\
 ez mA.a x9 mA.n/\aS (dK (ae mA.a ((x9:Int).toNat*13))) (∃(b16:Bool),ld bG (ae (ae mA.a ((x9:Int).toNat*13)) 0)=some (.bool b16)/\
 Br b16
 (∃(AX:Sl),ld bG.drew (ae (some a0) 2)=some (.slice AX.a AX.n AX.c)/\
 ez AX.a x9 AX.n/\aS (dK (ae AX.a ((x9:Int).toNat*13))) (∃(cA cr cW dh dJ dA eG dT:Int)(Hm:Bool),af bG.drew (ae (ae AX.a ((x9:Int).toNat*13)) 1) 0 [cA,cr,cW,dh,dJ,dA,eG,dT,Hm]/\
 Aw bG.drew #[x9,cA,cr,cW,dh,dJ,dA,eG,dT,Hm] 164 λeB=>
 ba 80 10 eB Cb 1 [x9,cA,cr,cW,dh,dJ,dA,eG,dT,Hm]/\∀(Q2:Sl)(dX:World),aX 164 10 eB Cb 1 [x9,cA,cr,cW,dh,dJ,dA,eG,dT,Hm] Q2 dX->K2 w w2 eB dX (
 dX.heap[bG.drew.heap.size]? =eB.heap[bG.drew.heap.size]?/\
 af dX (ae (some a0) 2) 0 [AX]/\Sw dX w2 #[bk,Q2,kh] λfw=>
 ∃Cc,Cc<n7/\aL [aa,.slice none 0 0,.slice none 0 0]/\I6 Cc ((ak (x9+1))) bk Q2 kh fw)))
 (∃Cc,Cc<n7/\aL [aa,.slice none 0 0,.slice none 0 0]/\I6 Cc ((ak (x9+1))) bk Cb kh bG)))
 (∃(p31:Option Addr),ld bG (ae (some a0) 1)=some (.pointer p31)/\
 ah 82 #[p31] bG (Rs λMi lA=>K2 w w2 bG lA (
 ∃I34:Nat->Int->Int->Sl->Sl->World->Prop,
 (∃Mj,aL [aa,.slice none 0 0,.slice none 0 0]/\I34 Mj (0) bk Cb kh lA)/\
 ∀(Mj:Nat)(aBc:Nat->Value)(gx gd:Int)(VD ZY:Sl)(iR:World),I34 Mj gx gd VD ZY iR->
 Br (decide (gx<((Mi.n:Nat):Int)))
 (ez Mi.a gx Mi.n/\aS (dK (ae Mi.a ((gx:Int).toNat*4))) (∃(qw:Int),ld iR.drew (ae (ae Mi.a ((gx:Int).toNat*4)) 0)=some (.int .i64 qw)/\
 ez Mi.a gx Mi.n/\aS (dK (ae Mi.a ((gx:Int).toNat*4))) (∃(lK pH g8:Int),af iR.drew (ae (ae Mi.a ((gx:Int).toNat*4)) 1) 0 [lK,pH,g8]/\
 Aw iR.drew #[qw,lK,pH,g8] 166 λmw=>
 ba 32 4 mw ZY 1 [qw,lK,pH,g8]/\∀(TW:Sl)(mI:World),aX 166 4 mw ZY 1 [qw,lK,pH,g8] TW mI->K2 w w2 mw mI (
 mI.heap[iR.drew.heap.size]? =mw.heap[iR.drew.heap.size]?/\
 Sw mI w2 #[gd,VD,TW] λlR=>
 ∃n42,n42<Mj/\aL [aa,.slice none 0 0,.slice none 0 0]/\I34 n42 ((ak (gx+1))) gd VD TW lR))))
 (Sw iR w #[gd,VD,ZY] λvX=>
 R (Value.agg #[gd,VD,ZY]) vX)))))):ah 62 #[a0] w R:=
 cq ⟨[(9,⟨[(6,.int .i64)],[(1,[.int .i64,.slice,.slice])],[]⟩),(3,⟨[(4,.int .i64)],[(1,[.int .i64,.slice,.slice])],[]⟩)],[],[]⟩ Tryz.func62 h
def uY(n:Int):Int:=min (max n (-2147483648)) 2147483648
def TL(n:Int):(if 2147483648<(if (-2147483648)>n then (-2147483648) else n) then 2147483648 else (if (-2147483648)>n then (-2147483648) else n))=uY n:=by
 unfold uY
 repeat' split
 all_goals omega
def G9{n:Int}(h: -2147483648<=n/\n<=2147483648):uY n=n:=by unfold uY;omega
def Ha(c:Ce)(w:World):ah 160 #[eg c] w λe w'=>e=(eg (uY c.1,uY c.2.1,uY c.2.2))/\Ext w w':=by apply YN.vc;intro w0 e0 w1 e1 w2 e2;rw [TL,TL,TL] at*;have x0:=aT e0;have z0:=zA e0;have x1:=aT e1;exact ⟨rfl,(x0.tr x1).ag e2 ab⟩
def P7{c:Ce}(h:(-2147483648<=c.1/\c.1<=2147483648)/\(-2147483648<=c.2.1/\c.2.1<=2147483648)/\-2147483648<=c.2.2/\c.2.2<=2147483648)(w:World):ah 160 #[eg c] w λe w'=>e=(eg c)/\Ext w w':=by have:=Ha c w;rw [G9 h.1,G9 h.2.1,G9 h.2.2] at this;exact this
def TM(c:Ce)(w:World):ah 126 #[eg c] w λe w'=>e=(qS (sY c))/\Ext w w':=by
 apply YO.vc;intro w0 e0 w1 e1;have x0:=aT e0;have z0:=zA e0;have x1:=aT e1;have z1:=zA e1;refine (Ha c w1).mono ?_;rintro e w2 ⟨rfl,x2⟩;have z2:=x2.size;refine ⟨_,_,_,rfl,x2.heap ab,x2.heap ab,λw6 e6 w7 e7 w8 e8 w9 e9=> ?_⟩;have x7:Ext w2 w7:=(aT e6).ag e7 (aD _);have z7:w7.heap.size=w2.heap.size+1:=by rw [zR e7,zA e6]
 have hb:∀n,-2147483648<=uY n/\uY n<=2147483648:=λn=>by unfold uY;omega
 have hof:∀n,ak (uY n*65536)=nL n:=λn=>by have:=hb n;rw [wI];rfl
 have x9:Ext w7 w9.drew:=((aT e8).ag e9 (aD _)).drew;have z9:w9.drew.heap.size=w7.heap.size+1:=by show w9.heap.size=_;rw [zR e9,zA e8]
 rw [hof,hof,hof] at e9 ⊢;have r9:∃τ,Row w9.drew w7 (dO (nL c.1,nL c.2.1,nL c.2.2)) τ:=⟨_,by rw [e9,e8];exact (Row.set (Row.new w7 [_,_,_] _) [_,_,_]).ext (Ext.dr _)⟩;obtain ⟨τ,r9⟩:=r9;refine (J2 (nL c.1,nL c.2.1,nL c.2.2) (65536,65536,65536) w9.drew).mono ?_;rintro e bN ⟨rfl,bk⟩;have Y6:=bk.size;exact ⟨_,_,_,rfl,bk.heap ab,bk.heap ab,bk.heap ab,bk.heap ab,Lo.wv (r9.ext bk),λbJ vE=>⟨rfl,(x0.tr (x1.tr (x2.tr (x7.tr (x9.tr bk))))).ag vE ab⟩⟩
def Hb(m:Int):Prop:= -2000000000<=m/\m<=2000000000
def Io(c:Ce)(k:Nat):LV:=((List.range 6).map λj=>if j<k then dO ((sa c).getD j (0,0,0)) else dO (0,0,0)).flatten
set_option maxHeartbeats 4000000 in
def Se(c:Ce)(hc:eW c)(w:World):ah 112 #[eg c] w λe w'=>e=Value.agg (Dw c).toArray/\Ext w w':=by
 apply TK.vc;intro w0 e0 w1 e1 w2 e2;have x0:=aT e0;have z0:=zA e0;have x1:=aT e1;have z1:=zA e1;have r1:∃τ,Row w1 w0 (Io c 0) τ:=⟨_,by rw [e1];exact Row.new w0 (Io c 0) _⟩;have x2:=aT e2;have z2:=zA e2;have r2:∃τ,Row w2 w1 (Io c 0) τ:=⟨_,by rw [e2];exact Row.new w1 (Io c 0) _⟩;obtain ⟨τ,r1⟩:=r1;obtain ⟨τ',r2⟩:=r2;have hw:=hc;unfold eW at hw;refine ⟨λn x wr=>∃k:Nat,x=k/\k+n=6/\Row wr w1 (Io c k) τ'/\Row wr w0 (Io c 0) τ/\Ext w wr/\w2.heap.size<=wr,⟨6,rfl,0,rfl,rfl,r2,r1.ext x2,x0.tr (x1.tr x2),aD _⟩,?_⟩;rintro n us x w7 ⟨k,rfl,hk,rk,rz,x7,z7⟩;apply Br.mk<;>intro hq
 ·have hq:=dn hq;refine (P7 (c:=c) ab w7).mono ?_;rintro e w9 ⟨rfl,x9⟩;have z9:=x9.size;refine ⟨_,_,_,rfl,x9.heap ab,λbG DT bJ vE=> ?_⟩;have bW:Ext w9 bJ:=(aT DT).ag vE (aD _);have Y9:bJ.heap.size=w9.heap.size+1:=by rw [zR vE,zA DT]
  have last:∀{u:World} (d:Ce),d=(sa c).getD k (0,0,0)->((-2147483648<=d.1/\d.1<=2147483648)/\(-2147483648<=d.2.1/\d.2.1<=2147483648)/\-2147483648<=d.2.2/\d.2.2<=2147483648)->Ext w9 u->w9.heap.size+1=u.heap.size->
    ah 160 #[eg d] u λe v=>∃a b f:Int,e=Value.agg #[a,b,f]/\v.heap[w.heap.size]? =u.heap[w.heap.size]?/\v.heap[w9.heap.size]? =u.heap[w9.heap.size]?/\
     (0:Int)<=(k:Int)/\(k:Int)<((6:Nat):Int)/\(true=true/\Wr v (ae (aB w1.heap.size) ((k:Int).toNat*3)) 3)/\bt (ae (aB w1.heap.size) ((k:Int).toNat*3))≠some w.heap.size/\bt (ae (aB w1.heap.size) ((k:Int).toNat*3))≠some w9.heap.size/\
     ∀eB:World,eB=Vc.aK v (ae (aB w1.heap.size) ((k:Int).toNat*3)) [a,b,f]->∃n8,n8<n/\aL [c.1,c.2.1,c.2.2]/\
      ∃k':Nat,ak ((k:Int)+1)=k'/\k'+n8=6/\Row eB w1 (Io c k') τ'/\Row eB w0 (Io c 0) τ/\Ext w eB/\w2.heap.size<=eB:=by
   intro u d hd hdb xu zu;refine (P7 hdb u).mono ?_;rintro e v ⟨rfl,xv⟩;have zv:=xv.size;have rv:=rk.ext (x9.tr (xu.tr xv));rw [eC];obtain ⟨p1,p2⟩:=mU rv (off:=k*3) (vs:=dO d) (by
    have:k=0\/k=1\/k=2\/k=3\/k=4\/k=5:=by omega
    rcases this with rfl|rfl|rfl|rfl|rfl|rfl<;>(show _+3<=18;decide)) (B0 d)
   have hpb:bt (ae (aB w1.heap.size) (k*3))=some w1.heap.size:=by rw [bo];rfl
   refine ⟨_,_,_,rfl,xv.heap ab,xv.heap ab,by omega,by omega,⟨rfl,p1⟩,by rw [hpb];intro q;injection q with q;omega,by rw [hpb];intro q;injection q with q;omega,λeB e27=> ?_⟩;obtain ⟨q1,q2⟩:=p2 eB e27;have zq:=q2.size;refine ⟨n-1,by omega,rfl,k+1,by rw [wI];omega,by omega,?_,(rz.ext (x9.tr (xu.tr xv))).same (q2.same _ ab ab),q2.ext (x7.tr (x9.tr (xu.tr xv))) (λi hi=>by omega),by omega⟩;have:aW (Io c k) (k*3) (dO d)=Io c (k+1):=by
    rw [hd];have:k=0\/k=1\/k=2\/k=3\/k=4\/k=5:=by omega
    rcases this with rfl|rfl|rfl|rfl|rfl|rfl<;>rfl
   rw [<-this];exact q1
  have m1:∀m:Int,Hb m->ak (m+(-1))=m-1:=λm hm=>by rw [aM (by unfold Hb at hm;unfold bT;omega)];omega
  have p1:∀m:Int,Hb m->ak (m+1)=m+1:=λm hm=>by rw [aM (by unfold Hb at hm;unfold bT;omega)]
  have hx:Hb c.1:=hc.1;have hy:Hb c.2.1:=hc.2.1;have hz:Hb c.2.2:=hc.2.2;have by0:ak (ak (2*Int.tmod 0 2)-1)= -1:=by decide
  have by1:ak (ak (2*Int.tmod 1 2)-1)=1:=by decide
  have hk6:k=0\/k=1\/k=2\/k=3\/k=4\/k=5:=by omega
  rcases hk6 with rfl|rfl|rfl|rfl|rfl|rfl
  ·refine yes aG λeu pQ=>fB aG (fB aG ?_)
   have hb:ak (c.1+ak (ak (2*Int.tmod ((0:Nat):Int) 2)-1))=c.1-1:=by rw [show ak (ak (2*Int.tmod ((0:Nat):Int) 2)-1)= -1 from by decide];exact m1 _ hx
   rw [hb] at pQ ⊢;exact last (c.1-1,c.2.1,c.2.2) rfl (by simp only;omega) (bW.ag pQ (aD _)) (by rw [zR pQ];omega)
  ·refine yes aG λeu pQ=>fB aG (fB aG ?_)
   have hb:ak (c.1+ak (ak (2*Int.tmod ((1:Nat):Int) 2)-1))=c.1+1:=by rw [show ak (ak (2*Int.tmod ((1:Nat):Int) 2)-1)=1 from by decide];exact p1 _ hx
   rw [hb] at pQ ⊢;exact last (c.1+1,c.2.1,c.2.2) rfl (by simp only;omega) (bW.ag pQ (aD _)) (by rw [zR pQ];omega)
  ·refine fB aG (yes aG λeu pQ=>fB aG ?_);have hb:ak (c.2.1+ak (ak (2*Int.tmod ((2:Nat):Int) 2)-1))=c.2.1-1:=by rw [show ak (ak (2*Int.tmod ((2:Nat):Int) 2)-1)= -1 from by decide];exact m1 _ hy
   rw [hb] at pQ ⊢;exact last (c.1,c.2.1-1,c.2.2) rfl (by simp only;omega) (bW.ag pQ (aD _)) (by rw [zR pQ];omega)
  ·refine fB aG (yes aG λeu pQ=>fB aG ?_);have hb:ak (c.2.1+ak (ak (2*Int.tmod ((3:Nat):Int) 2)-1))=c.2.1+1:=by rw [show ak (ak (2*Int.tmod ((3:Nat):Int) 2)-1)=1 from by decide];exact p1 _ hy
   rw [hb] at pQ ⊢;exact last (c.1,c.2.1+1,c.2.2) rfl (by simp only;omega) (bW.ag pQ (aD _)) (by rw [zR pQ];omega)
  ·refine fB aG (fB aG (yes aG λeu pQ=> ?_));have hb:ak (c.2.2+ak (ak (2*Int.tmod ((4:Nat):Int) 2)-1))=c.2.2-1:=by rw [show ak (ak (2*Int.tmod ((4:Nat):Int) 2)-1)= -1 from by decide];exact m1 _ hz
   rw [hb] at pQ ⊢;exact last (c.1,c.2.1,c.2.2-1) rfl (by simp only;omega) (bW.ag pQ (aD _)) (by rw [zR pQ];omega)
  ·refine fB aG (fB aG (yes aG λeu pQ=> ?_));have hb:ak (c.2.2+ak (ak (2*Int.tmod ((5:Nat):Int) 2)-1))=c.2.2+1:=by rw [show ak (ak (2*Int.tmod ((5:Nat):Int) 2)-1)=1 from by decide];exact p1 _ hz
   rw [hb] at pQ ⊢;exact last (c.1,c.2.1,c.2.2+1) rfl (by simp only;omega) (bW.ag pQ (aD _)) (by rw [zR pQ];omega)
 ·have hq:=dn hq;have:k=6:=by omega
  subst this;have rk:Row w7 w1 (Dw c) τ':=rk;have vS:One (Dw c):=FQ c;obtain ⟨p1,p2⟩:=mU rz (off:=0) (vs:=Dw c) (by show 0+18<=18;decide) vS;refine ⟨_,_,_,_,_,_,_,_,_,_,_,_,_,_,_,_,_,_,Lo.wv rk,⟨rfl,p1⟩,?_,λvG e80=> ?_⟩
  ·intro q;have q:some w0.heap.size=some w.heap.size:=q;injection q with q;omega
  obtain ⟨q1,q2⟩:=p2 vG e80;have q1:Row vG w0 (Dw c) τ:=q1;exact ⟨_,_,_,_,_,_,_,_,_,_,_,_,_,_,_,_,_,_,Lo.wv q1,rfl,q2.ext x7 λi hi=>by omega⟩
abbrev iV:=Bool × dQ
abbrev kj(r:iV):LV:=[.bool r.1,.int .i64 r.2.1.aE.1,.int .i64 r.2.1.aE.2.1,.int .i64 r.2.1.aE.2.2,.int .i64 r.2.1.speed.1,.int .i64 r.2.1.speed.2.1,.int .i64 r.2.1.speed.2.2,.int .i64 r.2.1.wd,.int .i64 r.2.1.ht,.bool r.2.1.iE,.int .i64 r.2.2.1,.int .i64 r.2.2.2.1,.bool r.2.2.2.2]
def aj(r:iV):Option dQ:=if r.1 then some r.2 else none
def MF(F:Nat->Prop)(w:World)(m s o t:Nat)(M:Sm)(occ:Value)(rows:List iV):Prop:=
 ∃(Fs:Nat->Prop)(b:Nat),Row w m [o,s,.slice (aB b) 16 16] ux/\SF Fs w s o t M occ/\Row w b (rows.map kj).flatten CC/\rows.length=16/\F=λi=>i=m\/i=b\/Fs i
abbrev lF(F:Nat->Prop)(w:World)(m s o t:Nat)(M:Sm)(occ:Value)(rows:List iV)(w':World):Prop:=∃F',MF F' w' m s o t M occ rows/\aO F F' w w'
def Wx{w:World}{p:Option Addr}{v:Value}(h:Vc.ld w p=some v):af w p 0 [v]:=nh λj hj=>by
 have:j=0:=by simpa using hj
 subst this;have e:ae p (0+0)=p:=by
  cases p with
  |none=>rfl
  |some a=>obtain ⟨b,o,k⟩:=a;cases k<;>simp [ae,Addr.add]
 rw [e];exact h
def nI:(E4 ux/\ux≠rR/\ux≠kW/\ux≠Bi/\ux≠Q.kq/\ux≠Q.cQ/\ux≠qD)/\(E4 CC/\CC≠rR/\CC≠kW/\CC≠Bi/\CC≠Q.kq/\CC≠Q.cQ/\CC≠qD)/\ux≠CC:=by decide
def ajp(r:iV):One (kj r):=by intro u hu;simp at hu;rcases hu with rfl|rfl|rfl|rfl|rfl|rfl|rfl|rfl|rfl|rfl|rfl|rfl|rfl<;>rfl
def ue{w:World}{b:Nat}{rows:List iV}(hr:Row w b (rows.map kj).flatten CC)(hn:rows.length=16):RdK w ⟨aB b,16,16⟩ 13 (rows.map kj):=by
 have hl:(rows.map kj).flatten.length=16*13:=by
  have:=bK (k:=13) (rows:=rows.map kj) λr hr=>by obtain ⟨x,-,rfl⟩:=aY.1 hr;rfl
  rw [this,aN,hn]
 exact (aF.jG (B:=0) (k:=13) (n:=16) (c:=16) (iI _) hr ab (aD _) (by rw [fz ab]) λr hr=>by obtain ⟨x,-,rfl⟩:=aY.1 hr;rfl).rd aG
section
variable {F F':Nat->Prop} {w w':World} {m s o t:Nat} {M M':Sm} {occ:Value} {rows:List iV}
def MF.lt(h:MF F w m s o t M occ rows){i:Nat}(hi:F i):i<w:=by
 obtain ⟨Fs,b,h1,h2,h3,-,rfl⟩:=h;rcases hi with rfl|rfl|hi
 ·exact h1.lt
 ·exact h3.lt
 ·exact h2.lt hi
def MF.same(h:MF F w m s o t M occ rows)(hk:∀i,F i->w'.heap[i]? =w.heap[i]?):MF F w' m s o t M occ rows:=by obtain ⟨Fs,b,h1,h2,h3,h4,rfl⟩:=h;exact ⟨Fs,b,h1.same (hk _ (.inl rfl)),h2.same λi hi=>hk i (.inr (.inr hi)),h3.same (hk _ (.inr (.inl rfl))),h4,rfl⟩
def MF.ext(h:MF F w m s o t M occ rows)(x:Ext w w'):MF F w' m s o t M occ rows:=h.same λ_ hi=>x.heap (h.lt hi)
def MF.res(h:MF F w m s o t M occ rows)(x:Ext w w'):lF F w m s o t M occ rows w':=⟨F,h.ext x,aO.aH x⟩
def lF.aH{w0:World}(x:Ext w w0)(h:lF F w0 m s o t M occ rows w'):lF F w m s o t M occ rows w':=by obtain ⟨F',h1,h2⟩:=h;exact ⟨F',h1,(aO.aH x).trans h2⟩
def MF.wu(h:MF F w m s o t M occ rows):∃Fs,SF Fs w s o t M occ/\Vc.ld w (ae (aB m) 1)=some (.pointer (aB s))/\Vc.ld w (ae (aB m) 0)=some (.pointer (aB o))/\(∀i,Fs i->F i)/\∀{w':World} {M':Sm} {occ':Value},mW Fs w s o t M' occ' w'->lF F w m s o t M' occ' rows w':=by
 obtain ⟨Fs,b,h1,h2,h3,h4,rfl⟩:=h;refine ⟨Fs,h2,h1.at 1 rfl,h1.at 0 rfl,λi hi=> .inr (.inr hi),?_⟩;rintro w' M' occ' ⟨F',h',ht⟩;have nm:¬Fs m:=h2.ka h1 nI.1.1 nI.1.2.1 nI.1.2.2.1 nI.1.2.2.2.1 nI.1.2.2.2.2.1 nI.1.2.2.2.2.2.1 nI.1.2.2.2.2.2.2;have nb:¬Fs b:=h2.ka h3 nI.2.1.1 nI.2.1.2.1 nI.2.1.2.2.1 nI.2.1.2.2.2.1 nI.2.1.2.2.2.2.1 nI.2.1.2.2.2.2.2.1 nI.2.1.2.2.2.2.2.2;refine ⟨_,⟨F',b,ht.mod.row h1 nm,h',ht.mod.row h3 nb,h4,rfl⟩,ht.mod.mono λi _ hi=> .inr (.inr hi),λi hi=> ?_⟩;rcases hi with hi|hi|hi
 ·exact .inl (.inl hi)
 ·exact .inl (.inr (.inl hi))
 ·exact (ht.sub i hi).imp (λq=> .inr (.inr q)) id
def MF.Kq(h:MF F w m s o t M occ rows):∃b,Row w m [o,s,.slice (aB b) 16 16] ux/\Row w b (rows.map kj).flatten CC/\rows.length=16/\F m/\F b/\m≠b/\∀{w':World} {rows':List iV},Mod (λi=>i=b) w w'->Row w' b (rows'.map kj).flatten CC->rows'.length=16->lF F w m s o t M occ rows' w':=by obtain ⟨Fs,b,h1,h2,h3,h4,rfl⟩:=h;have hmb:m≠b:=h1.ne h3 nI.2.2;refine ⟨b,h1,h3,h4,.inl rfl,.inr (.inl rfl),hmb,?_⟩;intro w' rows' hm hr hn;have nb:¬Fs b:=h2.ka h3 nI.2.1.1 nI.2.1.2.1 nI.2.1.2.2.1 nI.2.1.2.2.2.1 nI.2.1.2.2.2.2.1 nI.2.1.2.2.2.2.2.1 nI.2.1.2.2.2.2.2.2;exact ⟨_,⟨Fs,b,hm.row h1 hmb,h2.same λi hi=>hm.same i (h2.lt hi) λq=>nb (q▸hi),hr,hn,rfl⟩,hm.mono λi _ hi=> .inr (.inl hi),λi hi=> .inl hi⟩
def MF.tl(h:MF F w m s o t M occ rows):Tl (.func (.func 83) #[t] #[]) (fx M.T.2) w:=by obtain ⟨Fs,h1,-⟩:=h.wu;exact h1.tl
def mlA(r:iV):(kj r)[0]? =some (.bool r.1):=rfl
def mlB(r:iV):∀j,j<(jQ r.2.1).length->(kj r)[1+j]? =(jQ r.2.1)[j]? :=λj hj=>by
 have hj:j<9:=hj
 have:j=0\/j=1\/j=2\/j=3\/j=4\/j=5\/j=6\/j=7\/j=8:=by omega
 rcases this with rfl|rfl|rfl|rfl|rfl|rfl|rfl|rfl|rfl<;>rfl
def Cw(h:MF F w m s o t M occ rows)(b:dE):ah 107 #[m,Dp b] w λe w'=>e=Value.bool (o5 M b)/\Ext w w':=by
 apply zg.vc;intro w0 e0;have x0:Ext w w0.drew:=(aT e0).drew;have z0:w0.drew.heap.size=w.heap.size+1:=by show w0.heap.size=_;exact zA e0
 obtain ⟨Fs,h1,-,h2,-⟩:=(h.ext x0).wu;refine ⟨_,h2,(ach b.aE w0.drew).mono ?_⟩;rintro e w2 ⟨rfl,x2⟩;have z2:=x2.size;obtain ⟨Fs,h1,-,h2,-⟩:=(h.ext (x0.tr x2)).wu;obtain ⟨Fw,hW,-,-⟩:=h1.world;refine ⟨_,_,_,rfl,x2.heap ab,Wx h2,(uo hW (bw b.aE) (zI _).1 (zI _).2).mono ?_⟩;rintro e w6 ⟨rfl,x6⟩;exact ⟨_,rfl,x6.heap ab,rfl,x0.tr (x2.tr x6)⟩
set_option maxHeartbeats 1000000 in
def O4{b:Nat}(hm:Row w m [o,s,.slice (aB b) 16 16] ux)(hr:Row w b (rows.map kj).flatten CC)(hn:rows.length=16){n:Int}(hL:pL n (rows.map aj))(c:Ce):
  ah 67 #[m,eg c] w λe w'=>e=Value.bool (lN (rows.map aj) c)/\Ext w w':=by
 apply Bc.vc;intro w0 e0;have x0:=aT e0;have z0:=zA e0;have r0:∃τ,Row w0 w (dO c) τ:=⟨_,by rw [e0];exact Row.new w [_,_,_] _⟩;obtain ⟨τ,r0⟩:=r0;refine ⟨λn x wr=>∃k:Nat,x=k/\k+n=16/\Ext w0 wr/\∀j,j<k->∀y,(rows.map aj)[j]? =some y->FE c y=false,⟨16,rfl,0,rfl,rfl,Ext.cu _,λj hj=>by omega⟩,?_⟩;rintro n1 us x w5 ⟨k,rfl,hk,x5,lq⟩;apply Br.mk<;>intro hq
 ·have hq:=dn hq;obtain ⟨r,Mf⟩:=bB (l:=rows) (i:=k) ab;have hi:(rows.map kj)[k]? =some (kj r):=by rw [aV,Mf];rfl
  have hl:(rows.map aj)[k]? =some (aj r):=by rw [aV,Mf];rfl
  have xd:=x0.tr (x5.tr (Ext.dr w5));have ldm:∀{u:World},Ext w u->Vc.ld u (ae (aB m) 2)=some (.slice (aB b) 16 16):=λxu=>(hm.ext xu).at 2 rfl
  have rk:∀{u:World},Ext w u->RdK u ⟨aB b,16,16⟩ 13 (rows.map kj):=λxu=>ue (hr.ext xu) hn
  have z5:=x5.size;have wk:=nY (j:=k);have next:FE c (aj r)=false->∀{u:World},Ext w0 u->∃n6,n6<n1/\aL [c.1,c.2.1,c.2.2]/\∃k':Nat,ak ((k:Int)+1)=k'/\k'+n6=16/\Ext w0 u/\∀j,j<k'->∀y,(rows.map aj)[j]? =some y->FE c y=false:=λhm {u} xu=>by
   refine ⟨n1-1,by omega,rfl,k+1,wk,by omega,xu,λj hj z hz=> ?_⟩;by_cases q:j<k
   ·exact lq j q z hz
   ·rw [show j=k from by omega,hl] at hz;rw [<-Option.some.inj hz];exact hm
  refine ⟨⟨aB b,16,16⟩,ldm xd,(rk xd).iz (i:=(k:Int)) aG ab (by show (k:Int)<((16:Nat):Int);omega),gT rfl ⟨r.1,(rk xd).at hi (mlA r),Br.mk (λhb=> ?_) (λhb=>next (by unfold aj;rw [hb];rfl) (x5.tr (Ext.dr w5)))⟩⟩;have AU:aj r=some r.2:=by unfold aj;rw [if_pos hb]
  have okr:=hL r.2 (by rw [<-AU];exact aU hl);refine ⟨⟨aB b,16,16⟩,ldm xd,(rk xd).iz (i:=(k:Int)) aG ab (by show (k:Int)<((16:Nat):Int);omega),gT rfl ⟨_,_,_,_,_,_,_,_,_,l8 (rk xd) hi (mlB r),(vl r.2.1 okr.wdi w5.drew).mono ?_⟩⟩;rintro e gn ⟨rfl,cr⟩;have z19:=cr.size;have zd:=mN w5;have HH:=xd.tr cr;have bl:∀{u:World},Ext w u->af u (ae (ae (aB b) ((k:Int).toNat*13)) 0) 0 [.bool r.1]:=λxu=>Wx ((rk xu).at hi (mlA r))
  refine ⟨_,_,_,_,_,_,rfl,cr.heap ab,Lo.wv (r0.ext (x5.tr ((Ext.dr w5).tr cr))),Wx (ldm HH),bl HH,Wx (ldm HH),(TM c gn).mono ?_⟩;rintro e fb ⟨rfl,fE⟩;have z26:=fE.size;have Is:=HH.tr fE;refine ⟨_,_,_,_,_,_,rfl,fE.heap ab,Wx (ldm Is),bl Is,Wx (ldm Is),(PG r.2.1.box (sY c) fb).mono ?_⟩;rintro e eP ⟨rfl,eF⟩;have L2:=Is.tr eF;have hme:FE c (aj r)=iw r.2.1.box (sY c):=by rw [AU];rfl
  refine ⟨_,rfl,eF.heap ab,Wx (ldm L2),bl L2,Wx (ldm L2),Br.mk (λhm=>⟨?_,L2⟩) (λhm=>next (by rw [hme];exact hm) (x5.tr ((Ext.dr w5).tr (cr.tr (fE.tr eF)))))⟩;have:lN (rows.map aj) c=true:=List.any_eq_true.2 ⟨_,aU hl,by rw [hme];exact hm⟩;rw [this]
 ·have hq:=dn hq;refine ⟨?_,x0.tr x5⟩;have:lN (rows.map aj) c=false:=List.any_eq_false.2 λy hy=>by obtain ⟨j,hj⟩:=Jj.1 hy;have:=(cK.1 hj).1;rw [aN] at this;rw [lq j ab y hj];decide
  rw [this]
end
def Gr(v:Ce)(m:Int):within v m=(List.range 3).all λi=>decide (-m<=bZ v i) && decide (bZ v i<=m):=by
 have e0:bZ v ((0:Nat):Int)=v.1:=rfl;have e1:bZ v ((1:Nat):Int)=v.2.1:=rfl;have e2:bZ v ((2:Nat):Int)=v.2.2:=rfl;have:(List.range 3).all (λi=>decide (-m<=bZ v i) && decide (bZ v i<=m))=((decide (-m<=v.1) && decide (v.1<=m)) &&((decide (-m<=v.2.1) && decide (v.2.1<=m)) &&(decide (-m<=v.2.2) && decide (v.2.2<=m)))):=by rw [<-e0,<-e1,<-e2];simp [wK]
 rw [this];unfold within;rw [Bool.eq_iff_iff];simp only [fy,cX];omega
def wQ(v:Ce)(m:Int)(hm:0<=m/\m<=140737488355328)(w:World):ah 157 #[eg v,m] w λe w'=>e=Value.bool (within v m)/\Ext w w':=by
 apply Ln.vc;intro w0 e0;have x0:=aT e0;have z0:=zA e0;have hw:ak (0-m)= -m:=by rw [wI];omega
 refine ⟨λn x wr=>∃k:Nat,x=k/\k+n=3/\Ext w0 wr/\∀j,j<k-> -m<=bZ v (j:Nat)/\bZ v (j:Nat)<=m,⟨3,rfl,0,rfl,rfl,Ext.cu _,λj hj=>by omega⟩,?_⟩;rintro n us x w5 ⟨k,rfl,hk,x5,mu⟩;have z5:=x5.size;apply Br.mk<;>intro hq
 ·have hq:=dn hq;refine (xZ v k w5).mono ?_;rintro e w7 ⟨rfl,x7⟩;have bad:¬(-m<=bZ v (k:Nat)/\bZ v (k:Nat)<=m)->within v m=false:=λh=>by rw [Gr];refine List.all_eq_false.2 ⟨k,oO.2 ab,?_⟩;simp only [fy,cX];exact h
  refine ⟨_,rfl,x7.heap ab,?_⟩;rw [hw];refine Br.mk (λh=> ?_) (λh=>Br.mk (λh2=> ?_) (λh2=> ?_))
  ·rw [bad (by
    have h:=dn h;omega)]
   exact ⟨rfl,x0.tr (x5.tr x7)⟩
  ·rw [bad (by
    have h2:=dn h2;omega)]
   exact ⟨rfl,x0.tr (x5.tr x7)⟩
  ·have h:=dn h;have h2:=dn h2;refine ⟨n-1,by omega,rfl,k+1,by rw [wI];omega,by omega,x5.tr x7,λj hj=> ?_⟩;by_cases q:j<k
   ·exact mu j q
   ·rw [show j=k from by omega];omega
 ·have hq:=dn hq;have:within v m=true:=by
   rw [Gr];refine E6.2 λj hj=> ?_
   have:=mu j (by have:=oO.1 hj;omega);simp only [fy,cX];exact this
  rw [this];exact ⟨rfl,x0.tr x5⟩
def Wa(b:dE)(w:World):ah 106 #[Dp b] w λe w'=>e=Value.bool b.may/\Ext w w':=by
 apply XB.vc;intro w0 e0;have x0:=aT e0;have z0:=zA e0;refine (wQ b.aE _ aG w0).mono ?_;rintro e w1 ⟨rfl,x1⟩;have z1:=x1.size;refine ⟨_,rfl,x1.heap ab,(wQ b.speed _ aG w1).mono ?_⟩;rintro e w3 ⟨rfl,x3⟩;have B5:=x0.tr (x1.tr x3);refine ⟨_,rfl,x3.heap ab,?_⟩;unfold dE.may;generalize within b.aE 70368744177664=p;generalize within b.speed 262144=q;refine Br.mk (λh1=>Br.mk (λh2=>Br.mk (λh3=>Br.mk (λh4=>Br.mk (λh5=> ?_) (λh5=> ?_)) (λh4=> ?_)) (λh3=> ?_)) (λh2=> ?_)) (λh1=> ?_)
 ·have h3:=dn h3;have h4:=dn h4;have h5:=dn h5;rw [h1,h2,decide_eq_true (show 2<=b.wd from h3),decide_eq_true h4,decide_eq_true (show 1<=b.ht from h5)];exact ⟨by simp,B5⟩
 ·have h5:=dn h5;rw [decide_eq_false (show ¬1<=b.ht from h5)];exact ⟨by simp,B5⟩
 ·have h4:=dn h4;rw [decide_eq_false h4];exact ⟨by simp,B5⟩
 ·have h3:=dn h3;rw [decide_eq_false (show ¬2<=b.wd from h3)];exact ⟨by simp,B5⟩
 ·rw [h2];exact ⟨by simp,B5⟩
 ·rw [h1];exact ⟨by simp,B5⟩
section
variable {F F':Nat->Prop} {w w':World} {m s o t:Nat} {M M':Sm} {occ:Value} {rows:List iV}
def lF.dc{k:Nat}{w0:World}(x:Ext w w0)(hk:w.heap.size<=k)(ZV:k<w0)(h0:∀i,F i->i<w.heap.size){M':Sm}{occ':Value}{r':List iV}(r:lF F w0 m s o t M' occ' r' w'):w'.heap[k]? =w0.heap[k]? :=by obtain ⟨F',-,h2⟩:=r;exact h2.mod.same _ ZV λq=>by have:=h0 _ q;omega
def xc(h:MF F w m s o t M occ rows){n:Int}(hL:pL n (rows.map aj))(c:Ce)(hc:eW c)(b:Int)(hk:rK M 800000):ah 60 #[m,eg c,b] w λe w'=>e=Value.int .i64 (eZ M (rows.map aj) c b).1/\lF F w m s o t (eZ M (rows.map aj) c b).2 occ rows w':=by
 apply Be.vc;intro w0 e0;have x0:=aT e0;have z0:=zA e0;have inner:∀{u:World},Ext w0 u->¬(aC b=true/\lN (rows.map aj) c=true)->∃p:Option Addr,Vc.ld u (ae (aB m) 1)=some (.pointer p)/\
   ah 113 #[p,eg c,b] u λe w6=>∃x7:Int,e=x7/\w6.heap[w.heap.size]? =u.heap[w.heap.size]?/\Ending.returned x7=Value.int .i64 (eZ M (rows.map aj) c b).1/\lF F w m s o t (eZ M (rows.map aj) c b).2 occ rows w6:=by
  intro u xu hn;have hu:=h.ext (x0.tr xu);have zu:=xu.size;obtain ⟨Fs,hs,jR,-,eQ,bu⟩:=hu.wu;refine ⟨_,jR,(ya hs c hc b hk).mono ?_⟩;rintro e w6 ⟨rfl,hr⟩;have hk6:w6.heap[w.heap.size]? =u.heap[w.heap.size]? :=by obtain ⟨F6,-,t6⟩:=hr;exact t6.mod.same _ ab λq=>by have:=h.lt (eQ _ q);omega
  unfold eZ;rw [if_neg hn];exact ⟨_,rfl,hk6,rfl,lF.aH (x0.tr xu) (bu hr)⟩
 refine (rj b w0).mono ?_;rintro e w1 ⟨rfl,Ui⟩;subst Ui;refine ⟨_,rfl,rfl,Br.mk (λhb=> ?_) (λhb=>inner (Ext.dr _) λq=>by rw [hb] at q;cases q.1)⟩;obtain ⟨b',hm,hr,hn,-⟩:=(h.ext x0).Kq;refine (O4 hm hr hn hL c).mono ?_;rintro e w3 ⟨rfl,x3⟩;have z3:=x3.size;refine ⟨_,rfl,x3.heap ab,Br.mk (λhq=> ?_) (λhq=> ?_)⟩
 ·unfold eZ;rw [if_pos ⟨hb,hq⟩];exact ⟨rfl,h.res (x0.tr x3)⟩
 ·exact inner (x3.tr (Ext.dr _)) λq=>by rw [hq] at q;cases q.2
def mM{n:Int}{k:Nat}(e:n=k){r:iV}(h:rows[k]? =some r):cC (rows.map aj) n=aj r:=by subst e;unfold cC;rw [if_pos ab,eC,aV,h];rfl
end
section
variable {F F':Nat->Prop} {w w':World} {m s o t:Nat} {M M':Sm} {occ:Value} {rows:List iV}
def P2(hn:rows.length=16){n:Int}(h:¬(0<=n/\n<16)):cC (rows.map aj) n=none:=rf (by rw [aN];exact hn) h
set_option maxHeartbeats 4000000 in
def xf(h:MF F w m s o t M occ rows){n:Int}(hL:pL n (rows.map aj))(hn:n<=99970000000000)(i:Int)(dW:Ce):
  ah 63 #[m,i,eg dW] w λe w'=>e=Value.tuple #[X6 (cY M (rows.map aj) i dW).1,.int .i64 (cY M (rows.map aj) i dW).2]/\Ext w w':=by
 apply Bf.vc;intro w0 e0 w1 e1;have x0:=aT e0;have z0:=zA e0;have r0:∃τ,Row w0 w (dO dW) τ:=⟨_,by rw [e0];exact Row.new w [_,_,_] _⟩;have x1:=aT e1;have z1:=zA e1;obtain ⟨τ,r0⟩:=r0;have r1:=r0.ext x1;have kG:=x0.tr x1;obtain ⟨b,hm,hr,AV,-⟩:=h.Kq;have ldm:∀{u:World},Ext w u->Vc.ld u (ae (some ⟨m,0,none⟩) 2)=some (.slice (some ⟨b,0,none⟩) 16 16):=λxu=>(hm.ext xu).at 2 rfl
 have rk:∀{u:World},Ext w u->RdK u ⟨some ⟨b,0,none⟩,16,16⟩ 13 (rows.map kj):=λxu=>ue (hr.ext xu) AV
 have none6:cC (rows.map aj) i=none->∀w4:World,w4=w1.setRow w0 #[aa,aa,aa,aa,aa,aa]->Ending.returned (.tuple #[.agg #[aa,aa,aa,aa,aa,aa],(6:Int)])=Value.tuple #[X6 (cY M (rows.map aj) i dW).1,.int .i64 (cY M (rows.map aj) i dW).2]/\Ext w w4:=λhq w4 e4=>by refine ⟨?_,kG.ag e4 ab⟩;unfold cY;rw [hq];rfl
 refine Br.mk (λh1=> ?_) (λh1=>Br.mk (λh2=> ?_) (λh2=> ?_))
 ·have h1:i<0:=by simpa using h1
  exact none6 (P2 AV ab)
 ·have h2:i>15:=by simpa using h2
  exact none6 (P2 AV ab)
 have h1:¬i<0:=by simpa using h1
 have h2:¬i>15:=by simpa using h2
 have ei:(if 0>(if 15<i then 15 else i) then 0 else (if 15<i then 15 else i))=i:=by rw [if_neg (show ¬15<i from by omega),if_neg ab]
 rw [ei];obtain ⟨k,rfl⟩:∃k:Nat,i=k:=⟨i.toNat,by omega⟩;obtain ⟨r,Mf⟩:=bB (l:=rows) (i:=k) ab;have hi:(rows.map kj)[k]? =some (kj r):=by rw [aV,Mf];rfl
 have AU:=mM (rows:=rows) (n:=k) rfl Mf;have inb:∀{u:World},Ext w u->ez (some ⟨b,0,none⟩) (k:Int) 16:=λxu=>(rk xu).iz (i:=(k:Int)) aG ab (by show (k:Int)<((16:Nat):Int);omega)
 refine ⟨⟨some ⟨b,0,none⟩,16,16⟩,ldm kG,inb kG,gT rfl ⟨r.1,(rk kG).at hi (mlA r),Br.mk (λhb=> ?_) (λhb=> ?_)⟩⟩
 ·refine none6 ?_;rw [AU];unfold aj;rw [if_neg (by simpa using hb)]
 have hb:r.1=true:=by simpa using hb
 have Qi:aj r=some r.2:=by unfold aj;rw [if_pos hb]
 rw [Qi] at AU;have oky:=hL r.2 (qI AU);have xd:=Ext.dr w1;have hd:=mN w1;have eyn:=G1 oky hn;have hhb: -1000000000<=r.2.1.ht/\r.2.1.ht<=1000000000:=by have:=oky.2.2.1;omega
 have hh0:0<=r.2.1.ht:=oky.2.2.1.1;have rG:cY M (rows.map aj) k dW=if (iK (fx M.T.2) (ky r.2.1) dW 5).2=false then (TI,13) else if (iK (fx M.T.2) (ky r.2.1) dW 5).1.2.1= -1 then (TI,11) else ((iK (fx M.T.2) (ky r.2.1) dW 5).1,0):=by unfold cY;rw [AU]
 have castS:∀{u:World},Ext w1.drew u->ah 87 #[.func (.func 83) #[t] #[],eg (ky r.2.1),eg dW,(5:Int)] u λe w'=>e=Value.tuple #[X6 (iK (fx M.T.2) (ky r.2.1) dW 5).1,.bool (iK (fx M.T.2) (ky r.2.1) dW 5).2]/\Ext u w':=λ{u} xu=>
  Kg (h.ext (kG.tr (xd.tr xu))).tl rfl (ky r.2.1) dW 5 ⟨by omega,by omega,by omega⟩ (PZ (by rw [afw];decide) eyn)
 generalize iK (fx M.T.2) (ky r.2.1) dW 5=ck at rG castS;obtain ⟨⟨⟨cx,cy,cz⟩,cb,cf,ct⟩,cq⟩:=ck;have fin:∀{u:World},Ext w1.drew u->Br (!cq)
   (∀fw:World,fw=u.setRow w0 #[aa,aa,aa,aa,aa,aa]->Ending.returned (.tuple #[.agg #[aa,aa,aa,aa,aa,aa],(13:Int)])=Value.tuple #[X6 (cY M (rows.map aj) k dW).1,.int .i64 (cY M (rows.map aj) k dW).2]/\Ext w fw)
   (Br (cb==(-1))
    (∀fw:World,fw=u.setRow w0 #[aa,aa,aa,aa,aa,aa]->Ending.returned (.tuple #[.agg #[aa,aa,aa,aa,aa,aa],(11:Int)])=Value.tuple #[X6 (cY M (rows.map aj) k dW).1,.int .i64 (cY M (rows.map aj) k dW).2]/\Ext w fw)
    (∀fw:World,fw=u.setRow w0 #[cx,cy,cz,cb,cf,ct]->Ending.returned (.tuple #[.agg #[cx,cy,cz,cb,cf,ct],(0:Int)])=Value.tuple #[X6 (cY M (rows.map aj) k dW).1,.int .i64 (cY M (rows.map aj) k dW).2]/\Ext w fw)):=by
  intro u xu;have xx:=kG.tr (xd.tr xu);rw [rG];refine Br.mk (λhb=>λfw Mc=>⟨?_,xx.ag Mc ab⟩) (λhb=>Br.mk (λj8=>λfw Mc=>⟨?_,xx.ag Mc ab⟩) (λj8=>λfw Mc=>⟨?_,xx.ag Mc ab⟩))
  ·have hb:cq=false:=by simpa using hb
   rw [if_pos hb];rfl
  ·have hb:cq=true:=by simpa using hb
   have j8:cb= -1:=by simpa using j8
   rw [if_neg (by simp [hb]),if_pos j8];rfl
  ·have hb:cq=true:=by simpa using hb
   have j8:¬cb= -1:=by simpa using j8
   rw [if_neg (by simp [hb]),if_neg j8]
 have wayL:∀{u:World},Ext w1.drew u->af u (some ⟨w.heap.size,0,none⟩) 0 (dO dW):=λxu=>Lo.wv (r1.ext (xd.tr xu))
 have bdyL:∀{u:World},Ext w1.drew u->af u (ae (ae (some ⟨b,0,none⟩) ((k:Int).toNat*13)) 1) 0 (jQ r.2.1):=λxu=>l8 (rk (kG.tr (xd.tr xu))) hi (mlB r)
 have sliL:∀{u:World},Ext w1.drew u->af u (ae (some ⟨m,0,none⟩) 2) 0 [.slice (some ⟨b,0,none⟩) 16 16]:=λxu=>Wx (ldm (kG.tr (xd.tr xu)))
 have viewS:∀{u:World},Ext w1.drew u->Vc.ld u (ae (some ⟨m,0,none⟩) 0)=some (.pointer (some ⟨o,0,none⟩))/\ah 27 #[o] u λe w'=>e=Value.func (.func 83) #[t] #[]/\w'=u:=λxu=>by obtain ⟨Fs,hs,-,jR,-⟩:=(h.ext (kG.tr (xd.tr xu))).wu;obtain ⟨Fw,hW,-,-⟩:=hs.world;exact ⟨jR,gw hW⟩
 refine ⟨_,(viewS (Ext.cu _)).1,⟨some ⟨b,0,none⟩,16,16⟩,ldm (kG.tr xd),inb (kG.tr xd),gT rfl ⟨_,_,_,_,_,_,_,_,_,bdyL (Ext.cu _),?_,λlC e67=> ?_⟩⟩
 ·refine (viewS (Ext.cu _)).2.mono ?_;rintro e du ⟨rfl,ael⟩;subst ael;refine ⟨_,rfl,rfl,rfl,wayL (Ext.cu _),bdyL (Ext.cu _),sliL (Ext.cu _),?_,λlR e50=> ?_⟩
  ·refine (BZ r.2.1 hhb hh0 w1.drew).mono ?_;rintro e ef ⟨rfl,cW⟩;have z20:=cW.size;refine ⟨_,_,_,rfl,cW.heap ab,cW.heap ab,wayL cW,sliL cW,?_,λiN ZW=> ?_⟩
   ·refine (castS cW).mono ?_;rintro e gC ⟨rfl,eG⟩;have z24:=eG.size;refine ⟨_,_,_,_,_,_,_,rfl,eG.heap ab,eG.heap ab,sliL (cW.tr eG),λlA Uc eP Zd=> ?_⟩;exact fin ((cW.tr eG).tr ((aT Uc).ag Zd (aD _)))
   ·have gx:=aT ZW;have z37:=zA ZW;refine (castS (cW.tr gx)).mono ?_;rintro e oL ⟨rfl,gd⟩;have z38:=gd.size;refine ⟨_,_,_,_,_,_,_,rfl,gd.heap ab,gd.heap ab,gd.heap ab,sliL ((cW.tr gx).tr gd),λoM e46=> ?_⟩;exact fin (((cW.tr gx).tr gd).ag e46 ab)
  ·have vh:=aT e50;have z50:=zA e50;refine (BZ r.2.1 hhb hh0 lR).mono ?_;rintro e vX ⟨rfl,nE⟩;have z51:=nE.size;refine ⟨_,_,_,rfl,nE.heap ab,nE.heap ab,nE.heap ab,wayL (vh.tr nE),sliL (vh.tr nE),(castS (vh.tr nE)).mono ?_⟩;rintro e AK ⟨rfl,mz⟩;have z55:=mz.size;refine ⟨_,_,_,_,_,_,_,rfl,mz.heap ab,mz.heap ab,mz.heap ab,sliL ((vh.tr nE).tr mz),λIw e63=> ?_⟩;exact fin (((vh.tr nE).tr mz).ag e63 ab)
 ·have pB:=aT e67;have z67:=zA e67;refine (viewS pB).2.mono ?_;rintro e tM ⟨rfl,awC⟩;subst awC;refine ⟨_,rfl,rfl,rfl,rfl,wayL pB,bdyL pB,sliL pB,(BZ r.2.1 hhb hh0 tM).mono ?_⟩;rintro e oA ⟨rfl,pP⟩;have z70:=pP.size;refine ⟨_,_,_,rfl,pP.heap ab,pP.heap ab,pP.heap ab,wayL (pB.tr pP),sliL (pB.tr pP),(castS (pB.tr pP)).mono ?_⟩;rintro e nt ⟨rfl,wh⟩;have z74:=wh.size;refine ⟨_,_,_,_,_,_,_,rfl,wh.heap ab,wh.heap ab,wh.heap ab,sliL ((pB.tr pP).tr wh),λw82 e82=> ?_⟩;exact fin (((pB.tr pP).tr wh).ag e82 ab)
end
section
variable {F F':Nat->Prop} {w w':World} {m s o t:Nat} {M M':Sm} {occ:Value} {rows:List iV}
def amU(c:Ce){k:Nat}(hk:k<6):∃d:Ce,(sa c).getD k (0,0,0)=d/\∀{w:World} {g:Nat} {τ:TypeId},Row w g (Dw c) τ->af w (ae (aB g) ((k:Int).toNat*3)) 0 (dO d):=by
 refine ⟨_,rfl,λ{w g τ} hr=> ?_⟩;rw [bo,eD,eC];refine hr.cg λj hj=> ?_
 have hj:j<3:=hj;have h1:j=0\/j=1\/j=2:=by omega
 have h2:k=0\/k=1\/k=2\/k=3\/k=4\/k=5:=by omega
 rcases h2 with rfl|rfl|rfl|rfl|rfl|rfl<;>rcases h1 with rfl|rfl|rfl<;>rfl
set_option maxHeartbeats 2000000 in
def Mv(h:MF F w m s o t M occ rows){n:Int}(hL:pL n (rows.map aj))(hn:n<=99970000000000)(i:Int)(dW:Ce)(b:Int)(hk:rK M 800000):
  ah 57 #[m,.int .i64 i,eg dW,b] w λe w'=>e=Value.int .i64 (lS M (rows.map aj) i dW b).1/\lF F w m s o t (lS M (rows.map aj) i dW b).2 occ rows w':=by
 apply zh.vc;intro w0 e0;have x0:=aT e0;have z0:=zA e0;refine (xf (h.ext x0) hL hn i dW).mono ?_;rintro e w1 ⟨rfl,x1⟩;have z1:=x1.size;refine ⟨_,_,_,_,_,_,_,rfl,x1.heap ab,λw9 e9 bN AY=> ?_⟩;have bk:Ext w1 bN:=(aT e9).ag AY (aD _);have Y6:bN.heap.size=w1.heap.size+1:=by rw [zR AY,zA e9]
 have pE:=x0.tr (x1.tr bk);unfold lS;refine Br.mk (λh6=> ?_) (λh6=>(FP b bN).mono ?_)
 ·rw [if_pos (by simpa using h6)];have h6:(cY M (rows.map aj) i dW).2=6:=by simpa using h6
  rw [h6];exact ⟨rfl,h.res pE⟩
 rw [if_neg (by simpa using h6)];rintro e bc ⟨rfl,Uf⟩;subst Uf;refine ⟨_,rfl,rfl,rfl,Br.mk (λhb=> ?_) (λhb=>Br.mk (λVH=> ?_) (λVH=>Br.mk (λL1=> ?_) (λL1=> ?_)))⟩
 ·rw [if_pos (by simpa using hb)];exact ⟨rfl,h.res pE⟩
 ·rw [if_neg (by simpa using hb),if_pos (by simpa using VH)];exact ⟨rfl,h.res pE⟩
 ·rw [if_neg (by simpa using hb),if_neg (by simpa using VH),if_pos (by simpa using L1)];exact ⟨rfl,h.res pE⟩
 rw [if_neg (by simpa using hb),if_neg (by simpa using VH),if_neg (by simpa using L1)];have L1:(cY M (rows.map aj) i dW).2=0:=by simpa using L1
 obtain ⟨Mq,QZ⟩:=vv hL hn L1;obtain ⟨y,-,-,hcast,-⟩:=Nz L1;have hface:=(NI (by rw [afw];decide) hcast).2.2.2.2;generalize (cY M (rows.map aj) i dW).1=ht at Mq QZ hface ⊢;obtain ⟨c,bb,f,tt⟩:=ht;simp only at hface Mq QZ;apply Br.mk<;>intro hf
 ·have hf:f<0:=by simpa using hf
  have alf:(Dx (c,bb,f,tt)).2=false:=by unfold Dx;rw [if_neg (by simp only;omega)]
  rw [if_pos alf];exact ⟨rfl,h.res pE⟩
 have hf:¬f<0:=by simpa using hf
 have hf6:0<=f/\f<6:=by omega
 obtain ⟨k,rfl⟩:∃k:Nat,f=k:=⟨f.toNat,by omega⟩;obtain ⟨d,hd,jR⟩:=amU c (k:=k) ab;have alf:Dx (c,bb,((k:Nat):Int),tt)=(d,true):=by unfold Dx;rw [if_pos hf6,<-hd];rfl
 rw [alf] at QZ ⊢;rw [if_neg cj];refine (Se c (Mq.wide aG) bc).mono ?_;rintro e bG ⟨rfl,cn⟩;have z13:=cn.size;refine ⟨_,_,_,_,_,_,_,_,_,_,_,_,_,_,_,_,_,_,rfl,cn.heap ab,cn.heap ab,λlA Uc=> ?_⟩;have il:=aT Uc;have z32:=zA Uc;have r32:∃cs τ,Row lA bG cs τ/\cs.length=18/\aW cs 0 (Dw c)=Dw c:=⟨[_,_,_,_,_,_,_,_,_,_,_,_,_,_,_,_,_,_],_,by rw [Uc];exact Row.new bG [_,_,_,_,_,_,_,_,_,_,_,_,_,_,_,_,_,_] _,rfl,rfl⟩;obtain ⟨cs,τ,r32,Y2,hpc⟩:=r32;obtain ⟨p1,p2⟩:=mU r32 (off:=0) (vs:=Dw c) (by rw [Y2];show 0+18<=18;decide) (FQ c);refine ⟨⟨rfl,p1⟩,?_,?_,λeP Zd=> ?_⟩
 ·intro q;have q:some bG.heap.size=some w.heap.size:=q;injection q with q;omega
 ·intro q;have q:some bG.heap.size=some w1.heap.size:=q;injection q with q;omega
 obtain ⟨q1,q2⟩:=p2 eP Zd;rw [hpc] at q1;have eF:Ext bG eP:=q2.ext il λi hi=>by omega
 have z33:=q2.size;have L2:=pE.tr (cn.tr eF);refine ⟨hf6.1,hf6.2,_,_,_,jR q1,(xc (h.ext L2) hL d (QZ.wide aG) b hk).mono ?_⟩;rintro e iN ⟨rfl,r⟩;have hh:∀i,F i->i<w.heap.size:=λi=>h.lt
 exact ⟨_,rfl,lF.dc L2 ab ab hh r,lF.dc L2 ab ab hh r,rfl,lF.aH L2 r⟩
set_option maxHeartbeats 1000000 in
def Rh(h:MF F w m s o t M occ rows){n:Int}(hL:pL n (rows.map aj))(hn:n<=99970000000000)(i:Int)(dW:Ce)(hk:rK M 800000):
  ah 58 #[m,.int .i64 i,eg dW] w λe w'=>e=Value.tuple #[.int .i64 (kl M (rows.map aj) i dW).1.1,.int .i64 (kl M (rows.map aj) i dW).1.2]/\lF F w m s o t (kl M (rows.map aj) i dW).2 occ rows w':=by
 apply Bg.vc;intro w0 e0;have x0:=aT e0;have z0:=zA e0;refine (xf (h.ext x0) hL hn i dW).mono ?_;rintro e w1 ⟨rfl,x1⟩;have z1:=x1.size;refine ⟨_,_,_,_,_,_,_,rfl,x1.heap ab,λw9 e9 bN AY=> ?_⟩;have bk:Ext w1 bN:=(aT e9).ag AY (aD _);have Y6:bN.heap.size=w1.heap.size+1:=by rw [zR AY,zA e9]
 have pE:=x0.tr (x1.tr bk);unfold kl;apply Br.mk<;>intro h0
 ·rw [if_pos (by simpa using h0)];exact ⟨rfl,h.res pE⟩
 have L1:=dn h0;rw [if_neg (by simp [L1])];obtain ⟨Mq,-⟩:=vv hL hn L1;refine (xc (h.ext pE) hL (cY M (rows.map aj) i dW).1.1 (Mq.wide aG) 0 hk).mono ?_;rintro e bc ⟨rfl,r⟩;have hh:∀i,F i->i<w.heap.size:=λi=>h.lt
 refine ⟨_,rfl,lF.dc pE ab ab hh r,lF.dc pE ab ab hh r,Br.mk (λhq=> ?_) (λhq=> ?_)⟩
 ·rw [if_pos (by simpa using hq)];exact ⟨rfl,lF.aH pE r⟩
 ·rw [if_neg (by simpa using hq)];exact ⟨rfl,lF.aH pE r⟩
def Wb(hn:rows.length=16){x:Int}(hx:(x= -1/\∀(i:Nat)(r:iV),rows[i]? =some r->r.1=true)\/(∃i:Nat,x=i/\i<16/\(∃r:iV,rows[i]? =some r/\r.1=false)/\∀(j:Nat)(r:iV),j<i->rows[j]? =some r->r.1=true)):qc (rows.map aj)=x:=by
 rcases hx with ⟨rfl,mu⟩|⟨i,rfl,hi,⟨r,hr,hb⟩,iS⟩
 ·refine jc λy hy=> ?_
  obtain ⟨r,hr,rfl⟩:=aY.1 hy;obtain ⟨i,hi⟩:=Jj.1 hr;unfold aj;rw [if_pos (mu i r hi)];rfl
 ·refine oF (x:=aj r) (by rw [aV,hr];rfl) (by unfold aj;rw [hb];rfl) λj hj y hy=> ?_
  rw [aV] at hy;obtain ⟨r',h1,rfl⟩:=CJ.1 hy;unfold aj;rw [if_pos (iS j r' hj h1)];rfl
def NJ{K:Nat}{v:LV}:∀{l:List (LV)} {k:Nat},(∀r ∈ l,r.length=K)->k<l.length->v.length=K->aW l.flatten (k*K) v=(l.set k v).flatten
 | [],k,_,hk,_=>absurd hk cj
 |a::l,0,hl,_,hv=>by
  have ha:=hl a cj
  have h0:=dw v (a++l.flatten) 0 (by rw [cS];omega)
  rw [kY,List.set_cons_zero,kY,Nat.zero_mul,h0,eD,hv,<-ha,List.drop_left]
  rfl
 |a::l,k+1,hl,hk,hv=>by
  have ha:=hl a cj
  rw [kY,aa3,kY,show (k+1)*K=a.length+k*K from by rw [ha,oX,Nat.one_mul,uk],kZ,NJ (λr hr=>hl r (by simp [hr])) (by simpa using hk) hv]
def aab(hn:rows.length=16){b:Nat}{w:World}(hr:Row w b (rows.map kj).flatten CC){k:Nat}(hk:k<16)(r:iV):(ae (aB b) ((k:Int).toNat*13)).isSome=true/\Wr w (ae (aB b) ((k:Int).toNat*13)) 13/\
  ∀w',w'=Vc.aK w (ae (aB b) ((k:Int).toNat*13)) (kj r)->Row w' b ((rows.set k r).map kj).flatten CC/\Mod (λi=>i=b) w w':=by
 have Hk:∀l:List iV,(l.map kj).flatten.length=l.length*13:=λl=>by
  have:=bK (k:=13) (rows:=l.map kj) λr hr=>by obtain ⟨x,-,rfl⟩:=aY.1 hr;rfl
  rw [this,aN]
 rw [eC];obtain ⟨p1,p2⟩:=mU hr (off:=k*13) (vs:=kj r) (by rw [Hk,hn];show _+13<=_;omega) (ajp r);refine ⟨rfl,p1,λw' e=> ?_⟩;obtain ⟨q1,q2⟩:=p2 w' e;refine ⟨?_,q2⟩;have:aW (rows.map kj).flatten (k*13) (kj r)=((rows.set k r).map kj).flatten:=by rw [jV];exact NJ (λr hr=>by obtain ⟨x,-,rfl⟩:=aY.1 hr;rfl) (by rw [aN];omega) rfl
 rw [<-this];exact q1
end
section
variable {F F':Nat->Prop} {w w':World} {m s o t:Nat} {M M':Sm} {occ:Value} {rows:List iV}
def rW(M:Sm)(rows:List iV)(b:dE):List iV:=
 if (dj M (rows.map aj) b).2.1=0 then rows.set (qc (rows.map aj)).toNat (true,({b with iE:=g9 (fx M.T.2) (iZ b.box) aC},(0,0,false))) else rows
def ud{b:dE}:(rW M rows b).map aj=(dj M (rows.map aj) b).2.2:=by
 unfold rW;by_cases h1:b.may=false
 ·have e:dj M (rows.map aj) b=(-1,1,rows.map aj):=by unfold dj;rw [if_pos h1]
  rw [e,if_neg cj]
 by_cases h2:qc (rows.map aj)<0
 ·have e:dj M (rows.map aj) b=(-1,8,rows.map aj):=by unfold dj;rw [if_neg h1,if_pos h2]
  rw [e,if_neg cj]
 by_cases h3:o5 M b=false
 ·have e:dj M (rows.map aj) b=(-1,11,rows.map aj):=by unfold dj;rw [if_neg h1,if_neg h2,if_pos h3]
  rw [e,if_neg cj]
 by_cases h4:g9 (fx M.T.2) b.box aC=true
 ·have e:dj M (rows.map aj) b=(-1,12,rows.map aj):=by unfold dj;rw [if_neg h1,if_neg h2,if_neg h3,if_pos h4]
  rw [e,if_neg cj]
 have e:dj M (rows.map aj) b=(qc (rows.map aj),0,(rows.map aj).set (qc (rows.map aj)).toNat (some ({b with iE:=g9 (fx M.T.2) (iZ b.box) aC},(0,0,false)))):=by unfold dj;rw [if_neg h1,if_neg h2,if_neg h3,if_neg h4]
 rw [e,if_pos rfl,jV];rfl
set_option maxHeartbeats 4000000 in
def Mt(h:MF F w m s o t M occ rows)(aE:Ce)(wd ht:Int)(hw:bT wd):ah 53 #[m,eg aE,wd,ht] w λe w'=>
  e=Value.tuple #[.int .i64 (dj M (rows.map aj) (fq aE wd ht)).1,.int .i64 (dj M (rows.map aj) (fq aE wd ht)).2.1]/\lF F w m s o t M occ (rW M rows (fq aE wd ht)) w':=by
 apply yZ.vc;intro w0 e0 w1 e1 w2 e2;have x0:=aT e0;have z0:=zA e0;have x2:Ext w0 w2:=(aT e1).ag e2 (aD _);have z2:w2.heap.size=w0.heap.size+1:=by rw [zR e2,zA e1]
 have r2:∃τ,Row w2 w0 (jQ (fq aE wd ht)) τ:=⟨_,by rw [e2,e1];exact Row.set (Row.new w0 [_,_,_,_,_,_,_,_,_] _) [_,_,_,_,_,_,_,_,_]⟩;obtain ⟨τ,r2⟩:=r2;have AI:=x0.tr x2;obtain ⟨b,hm,hr,hn,-,hFb,-,bu⟩:=h.Kq;have ldm:∀{u:World},Ext w u->Vc.ld u (ae (some ⟨m,0,none⟩) 2)=some (.slice (some ⟨b,0,none⟩) 16 16):=λxu=>(hm.ext xu).at 2 rfl
 have rk:∀{u:World},Ext w u->RdK u ⟨some ⟨b,0,none⟩,16,16⟩ 13 (rows.map kj):=λxu=>ue (hr.ext xu) hn
 have inb:∀{u:World},Ext w u->∀k:Nat,k<16->ez (some ⟨b,0,none⟩) (k:Int) 16:=λxu k hk=>(rk xu).iz (i:=(k:Int)) aG ab (by show (k:Int)<((16:Nat):Int);omega)
 refine (Wa (fq aE wd ht) w2).mono ?_;rintro e w3 ⟨rfl,x3⟩;have z3:=x3.size;have B5:=AI.tr x3;have same:∀{n q:Int},dj M (rows.map aj) (fq aE wd ht)=(n,q,rows.map aj)->q≠0->∀{u:World},Ext w u->Ending.returned (.tuple #[.int .i64 n,.int .i64 q])=Value.tuple #[.int .i64 (dj M (rows.map aj) (fq aE wd ht)).1,.int .i64 (dj M (rows.map aj) (fq aE wd ht)).2.1]/\lF F w m s o t M occ (rW M rows (fq aE wd ht)) u:=λ{n q} he hq {u} xu=>by unfold rW;rw [he];rw [if_neg hq];exact ⟨rfl,h.res xu⟩
 refine ⟨_,rfl,x3.heap ab,x3.heap ab,Br.mk (λq=> ?_) (λq=> ?_)⟩
 ·have q:(fq aE wd ht).may=false:=by simpa using q
  exact same (by unfold dj;rw [if_pos q]) aG B5
 have q:¬(fq aE wd ht).may=false:=by simpa using q
 refine ⟨λn x y wr=>∃j:Nat,x=(j:Int)-1/\j=n/\j<=16/\wr=w3/\((y= -1/\∀(i:Nat)(r:iV),j<=i->rows[i]? =some r->r.1=true)\/(∃i:Nat,y=i/\j<=i/\i<16/\(∃r:iV,rows[i]? =some r/\r.1=false)/\∀(k:Nat)(r:iV),j<=k->k<i->rows[k]? =some r->r.1=true)),⟨16,rfl,rfl,16,rfl,rfl,aD _,rfl,.inl ⟨rfl,λi r hi hr=>by have:=(cK.1 hr).1;omega⟩⟩,?_⟩;rintro n6 us x y bN ⟨j,rfl,rfl,aAN,rfl,hy⟩;apply Br.mk<;>intro hc
 ·have hc:(j:Int)-1>=0:=by simpa using hc
  obtain ⟨i,rfl⟩:∃i,j=i+1:=⟨j-1,by omega⟩;have e1:((i+1:Nat):Int)-1=(i:Int):=by omega
  rw [e1];obtain ⟨r,vR⟩:=bB (l:=rows) (i:=i) ab;have hi:(rows.map kj)[i]? =some (kj r):=by rw [aV,vR];rfl
  have wk:ak ((i:Int)-1)=(i:Int)-1:=wI;refine ⟨⟨some ⟨b,0,none⟩,16,16⟩,ldm B5,inb B5 i ab,gT rfl ⟨r.1,(rk B5).at hi (mlA r),Br.mk (λhb=> ?_) (λhb=> ?_)⟩⟩
  ·have hb:r.1=false:=by simpa using hb
   refine ⟨i,by omega,rfl,rfl,i,wk,rfl,by omega,rfl,.inr ⟨i,rfl,aD _,by omega,⟨r,vR,hb⟩,λk r hk Hf=>by omega⟩⟩
  ·have hb:r.1=true:=by simpa using hb
   refine ⟨i,by omega,rfl,rfl,i,wk,rfl,by omega,rfl,?_⟩;rcases hy with ⟨hy1,mu⟩|⟨i',hy1,h1,h2,h3,h4⟩
   ·refine .inl ⟨hy1,λk r' hk hr'=> ?_⟩;by_cases hki:k=i
    ·subst hki;rw [vR] at hr';rw [<-Option.some.inj hr'];exact hb
    ·exact mu k r' ab hr'
   ·refine .inr ⟨i',hy1,by omega,h2,h3,λk r' hk Hf hr'=> ?_⟩;by_cases hki:k=i
    ·subst hki;rw [vR] at hr';rw [<-Option.some.inj hr'];exact hb
    ·exact h4 k r' ab Hf hr'
 have hc:¬(j:Int)-1>=0:=by simpa using hc
 have hj0:j=0:=by omega
 subst hj0;have hfree:qc (rows.map aj)=y:=Wb hn (by
  rcases hy with ⟨h1,h2⟩|⟨i,h1,h2,h3,h4,h5⟩
  ·exact .inl ⟨h1,λi r hr=>h2 i r (Nat.zero_le _) hr⟩
  ·exact .inr ⟨i,h1,h3,h4,λk r hk hr=>h5 k r (Nat.zero_le _) hk hr⟩)
 apply Br.mk<;>intro q2
 ·have q2:y<0:=by simpa using q2
  exact same (by unfold dj;rw [if_neg q,hfree,if_pos q2]) aG B5
 have q2:¬y<0:=by simpa using q2
 obtain ⟨k,hyk,vT⟩:∃k:Nat,y=k/\k<16:=by
  rcases hy with ⟨h1,-⟩|⟨i,h1,-,h3,-⟩
  ·omega
  ·exact ⟨i,h1,h3⟩
 subst hyk;refine (Cw (h.ext B5) (fq aE wd ht)).mono ?_;rintro e bJ ⟨rfl,bW⟩;have Y9:=bW.size;have aAQ:=mN bJ;have acU:=B5.tr bW;refine ⟨_,rfl,bW.heap ab,bW.heap ab,Br.mk (λq3=> ?_) (λq3=> ?_)⟩
 ·have q3:o5 M (fq aE wd ht)=false:=by simpa using q3
  exact same (by unfold dj;rw [if_neg q,hfree,if_neg q2,if_pos q3]) aG acU
 have q3:¬o5 M (fq aE wd ht)=false:=by simpa using q3
 have viewS:∀{u:World},Ext w u->Vc.ld u (ae (some ⟨m,0,none⟩) 0)=some (.pointer (some ⟨o,0,none⟩))/\ah 27 #[o] u λe w'=>e=Value.func (.func 83) #[t] #[]/\w'=u:=λxu=>by obtain ⟨Fs,hs,-,jR,-⟩:=(h.ext xu).wu;obtain ⟨Fw,hW,-,-⟩:=hs.world;exact ⟨jR,gw hW⟩
 have parL:∀{u:World},Ext w2 u->af u (some ⟨w0.heap.size,0,none⟩) 0 (jQ (fq aE wd ht)):=λxu=>Lo.wv (r2.ext xu)
 refine ⟨_,(viewS acU.drew).1,(viewS acU.drew).2.mono ?_⟩;rintro e cJ ⟨rfl,as5⟩;subst as5;refine ⟨_,rfl,rfl,rfl,parL ((x3.tr bW).drew),(vl (fq aE wd ht) hw bJ.drew).mono ?_⟩;rintro e gn ⟨rfl,cr⟩;have z19:=cr.size;refine ⟨_,_,_,_,_,_,rfl,cr.heap ab,cr.heap ab,?_⟩
 try refine ⟨parL (((x3.tr bW).drew).tr cr),?_⟩
 refine (od (h.ext (acU.drew.tr cr)).tl rfl (fq aE wd ht).box).mono ?_;rintro e fb ⟨rfl,fE⟩;have z26:=fE.size;have aAR:=mN fb;have Is:=(acU.drew.tr cr).tr fE;have anF:=(((x3.tr bW).drew).tr cr).tr fE;refine ⟨_,rfl,fE.heap ab,fE.heap ab,Br.mk (λq4=> ?_) (λq4=> ?_)⟩
 ·exact same (by unfold dj;rw [if_neg q,hfree,if_neg q2,if_neg q3,if_pos q4]) aG Is
 refine ⟨_,(viewS Is.drew).1,(viewS Is.drew).2.mono ?_⟩;rintro e dX ⟨rfl,as6⟩;subst as6;refine ⟨_,rfl,rfl,rfl,parL anF.drew,(vl (fq aE wd ht) hw fb.drew).mono ?_⟩;rintro e gA ⟨rfl,iB⟩;have z31:=iB.size;refine ⟨_,_,_,_,_,_,rfl,iB.heap ab,iB.heap ab,?_⟩
 try refine ⟨parL (anF.drew.tr iB),?_⟩
 refine (mT (h.ext (Is.drew.tr iB)).tl rfl (fq aE wd ht).box).mono ?_;rintro e oL ⟨rfl,gd⟩;have z38:=gd.size;have as7:=(Is.drew.tr iB).tr gd;refine ⟨_,rfl,gd.heap ab,gd.heap ab,λjS TS=> ?_⟩;have lu:Ext w jS.drew:=(as7.ag TS ab).drew;have z40:jS.drew.heap.size=oL.heap.size:=by show jS.heap.size=_;exact zR TS
 have hspawn:dj M (rows.map aj) (fq aE wd ht)=((k:Int),0,(rows.map aj).set k (some ({fq aE wd ht with iE:=g9 (fx M.T.2) (iZ (fq aE wd ht).box) aC},(0,0,false)))):=by unfold dj;rw [if_neg q,hfree,if_neg q2,if_neg q3,if_neg (by rw [q4];decide)];rfl
 have hsr:rW M rows (fq aE wd ht)=rows.set k (true,({fq aE wd ht with iE:=g9 (fx M.T.2) (iZ (fq aE wd ht).box) aC},(0,0,false))):=by unfold rW;rw [hspawn,if_pos rfl,hfree];rfl
 rw [hspawn,hsr];obtain ⟨p0,p1,p2⟩:=aab hn (hr.ext lu) vT (true,({fq aE wd ht with iE:=g9 (fx M.T.2) (iZ (fq aE wd ht).box) aC},(0,0,false)));have hpb:bt (ae (some ⟨b,0,none⟩) ((k:Int).toNat*13))=some b:=by rw [bo];rfl
 have hbw:=h.lt hFb;refine ⟨⟨some ⟨b,0,none⟩,16,16⟩,ldm lu,inb lu k vT,⟨p0,p1⟩,by rw [hpb];intro q;injection q with q;omega,by rw [hpb];intro q;injection q with q;omega,λkO Za=>⟨rfl,?_⟩⟩;obtain ⟨q1,q2⟩:=p2 kO Za;have as8:Mod (λi=>i=b) w kO:=(Mod.aH lu).trans q2;exact bu as8 q1 (by rw [jU];exact hn)
end
def DM(rows:List iV)(i:Nat)(b:dE):List iV:=match rows[i]? with|some r=>rows.set i (r.1,(b,r.2.2))|none=>rows
def J7(rows:List iV)(l:List (Nat × dE)):List iV:=l.foldl (λL x=>DM L x.1 x.2) rows
def nS(M:Sm)(rows:List iV):List iV:=J7 rows ((eS M (rows.map aj)).zip (qY M (rows.map aj)))
def acp{rows:List iV}{i:Nat}{b:dE}:(DM rows i b).length=rows.length:=by
 unfold DM;split
 ·rw [jU]
 ·rfl
def Yh{rows:List iV}{i:Nat}{b:dE}:(DM rows i b).map aj=uB (rows.map aj) i b:=by
 unfold DM uB
 cases hq:rows[i]? with
 |none=>
  have:cC (rows.map aj) ((i:Nat):Int)=none:=by unfold cC;rw [if_pos ab,eC,aV,hq];rfl
  rw [this]
 |some r=>
  rw [mM (rows:=rows) (n:=(i:Nat)) rfl hq];obtain ⟨th,bd,vj⟩:=r
  cases th with
  |false=>
   show ((rows.set i (false,(b,vj))).map aj)=rows.map aj;rw [jV];have hi:=(cK.1 hq).1;refine jB λj=> ?_
   by_cases e:i=j
   ·subst e;rw [oS (by rw [aN];exact hi),aV,hq];rfl
   ·rw [zT e]
  |true=>
   show ((rows.set i (true,(b,vj))).map aj)=(rows.map aj).set i (some (b,vj));rw [jV];rfl
def GN:∀(l:List (Nat × dE))(rows:List iV),(J7 rows l).map aj=zJ (rows.map aj) l
 | [],rows=>rfl
 |x::l,rows=>by
  show (J7 (DM rows x.1 x.2) l).map aj=zJ (uB (rows.map aj) x.1 x.2) l
  rw [GN l,Yh]
def J8:∀(l:List (Nat × dE))(rows:List iV),(J7 rows l).length=rows.length
 | [],rows=>rfl
 |x::l,rows=>(J8 l (DM rows x.1 x.2)).trans acp
def kR(M:Sm)(rows:List iV):(nS M rows).map aj=mE M (rows.map aj):=GN _ _
abbrev GO(M:Sm)(rows:List iV)(j:Nat):List iV:=J7 rows (((eS M (rows.map aj)).zip (qY M (rows.map aj))).take j)
def Tt{M:Sm}{rows:List iV}{j:Nat}{i:Nat}{b:dE}(hi:(eS M (rows.map aj))[j]? =some i)(hb:(qY M (rows.map aj))[j]? =some b):GO M rows (j+1)=DM (GO M rows j) i b:=by
 have e:((eS M (rows.map aj)).zip (qY M (rows.map aj)))[j]? =some (i,b):=by rw [List.getElem?_zip_eq_some];exact ⟨hi,hb⟩
 unfold GO J7;rw [dP,e,pk];rfl
def Fe{K:Nat}{v r:LV}{off:Nat}:∀{l:List (LV)} {k:Nat} {r':LV},(∀r ∈ l,r.length=K)->l[k]? =some r->off+v.length<=K->aW r off v=r'->aW l.flatten (k*K+off) v=(l.set k r').flatten
 | [],k,_,_,hk,_,_=>absurd hk cj
 |a::l,0,r',hl,hk,hv,e=>by
  have ha:=hl a cj
  have hk:a=r:=by simpa using hk
  subst hk;subst e;rw [kY,List.set_cons_zero,kY,Nat.zero_mul,eD,dw v (a++l.flatten) off (by rw [cS];omega),dw v a off ab,C1 ab,List.drop_append_of_le_length ab,gV,gV,gV]
 |a::l,k+1,r',hl,hk,hv,e=>by have ha:=hl a cj;rw [kY,aa3,kY,show (k+1)*K+off=a.length+(k*K+off) from by rw [ha,oX,Nat.one_mul];omega,kZ,Fe (λr hr=>hl r (by simp [hr])) (by simpa using hk) hv e]
def af8{rows:List iV}(hn:rows.length=16){b:Nat}{w:World}(hr:Row w b (rows.map kj).flatten CC){k:Nat}(hk:k<16)(x:dE):(ae (ae (aB b) ((k:Int).toNat*13)) 1).isSome=true/\Wr w (ae (ae (aB b) ((k:Int).toNat*13)) 1) 9/\bt (ae (ae (aB b) ((k:Int).toNat*13)) 1)=some b/\
  ∀w',w'=Vc.aK w (ae (ae (aB b) ((k:Int).toNat*13)) 1) (jQ x)->Row w' b ((DM rows k x).map kj).flatten CC/\Mod (λi=>i=b) w w':=by
 obtain ⟨r,Mf⟩:=bB (l:=rows) (i:=k) ab;have Hk:(rows.map kj).flatten.length=16*13:=by
  have:=bK (k:=13) (rows:=rows.map kj) λr hr=>by obtain ⟨x,-,rfl⟩:=aY.1 hr;rfl
  rw [this,aN,hn]
 rw [dC,eC];obtain ⟨p1,p2⟩:=mU hr (off:=k*13+1) (vs:=jQ x) (by rw [Hk];show _+9<=_;omega) (xD x);refine ⟨rfl,p1,by rw [bo];rfl,λw' e=> ?_⟩;obtain ⟨q1,q2⟩:=p2 w' e;refine ⟨?_,q2⟩;have ou:DM rows k x=rows.set k (r.1,(x,r.2.2)):=by unfold DM;rw [Mf]
 have dq:(rows.map kj)[k]? =some (kj r):=by rw [aV,Mf];rfl
 have:aW (rows.map kj).flatten (k*13+1) (jQ x)=((DM rows k x).map kj).flatten:=by rw [ou,jV];exact Fe (λr hr=>by obtain ⟨y,-,rfl⟩:=aY.1 hr;rfl) dq (by show 1+9<=13;decide) rfl
 rw [<-this];exact q1
section
variable {F F':Nat->Prop} {w w':World} {m s o t:Nat} {M M':Sm} {occ:Value} {rows:List iV}
abbrev aj3(g:Nat):Value:=.func (.func 120) #[] #[g]
def mOc{g:Nat}{τ:TypeId}(h:MF F w m s o t M occ rows){n:Int}(hL:pL n (rows.map aj))(hg:Row w g [m] τ)(hgF:¬F g):∃Fs,SF Fs w s o t M occ/\Oc (aj3 g) (lN (rows.map aj)) Fs w/\Vc.ld w (ae (aB m) 1)=some (.pointer (aB s))/\∀{w':World} {M':Sm} {occ':Value},mW Fs w s o t M' occ' w'->lF F w m s o t M' occ' rows w':=by
 obtain ⟨Fs,h1,h2,-,h3,h4⟩:=h.wu;obtain ⟨b,hm,hr,hn,-⟩:=h.Kq;have nm:¬Fs m:=h1.ka hm nI.1.1 nI.1.2.1 nI.1.2.2.1 nI.1.2.2.2.1 nI.1.2.2.2.2.1 nI.1.2.2.2.2.2.1 nI.1.2.2.2.2.2.2;have nb:¬Fs b:=h1.ka hr nI.2.1.1 nI.2.1.2.1 nI.2.1.2.2.1 nI.2.1.2.2.2.1 nI.2.1.2.2.2.2.1 nI.2.1.2.2.2.2.2.1 nI.2.1.2.2.2.2.2.2;refine ⟨Fs,h1,⟨λi=>i=m\/i=b\/i=g,λi hi=> ?_,λw' hk c _=>c9 (by kernel_rfl) rfl ?_⟩,h2,h4⟩
 ·rcases hi with rfl|rfl|rfl
  ·exact ⟨hm.lt,nm⟩
  ·exact ⟨hr.lt,nb⟩
  ·exact ⟨hg.lt,λq=>hgF (h3 _ q)⟩
 ·have hm':=hm.same (hk _ (.inl rfl));have hr':=hr.same (hk _ (.inr (.inl rfl)));have hg':=hg.same (hk _ (.inr (.inr rfl)));apply (xm.vc (c0:=⟨g,0,none⟩));intro w0 e0;have x0:=aT e0;have z0:=zA e0;have hl0:Vc.ld w0 (aB g)=some (.pointer (aB m)):=by rw [(hg'.ext x0).ld];rfl
  refine ⟨aB m,hl0,(O4 (hm'.ext x0) (hr'.ext x0) hn hL c).mono ?_⟩;rintro e w2 ⟨rfl,x2⟩;exact ⟨_,rfl,x2.heap ab,rfl,x0.tr x2⟩
end
section
variable {F F':Nat->Prop} {w w':World} {m s o t:Nat} {M M':Sm} {occ:Value} {rows:List iV}
set_option maxHeartbeats 6000000 in
def Rm(h:MF F w m s o t M occ rows){n:Int}(hL:pL n (rows.map aj))(L1:0<=n)(hn:n<=99900000000000)(hd:IP (rL M))(hk:rK M 600000)(alg:1<=M.dp/\M.dp<=64):
  ah 65 #[m] w λe w'=>e=Value.int .i64 (rL M).length/\lF F w m s o t (pS M (rows.map aj)).1 (aj3 w) (nS M rows) w':=by
 apply Bh.vc;intro w0 e0;have x0:=aT e0;have z0:=zA e0;have r0:∃τ,Row w0 w [m] τ:=⟨_,by rw [e0];exact Row.new w [_] _⟩;obtain ⟨τ,r0⟩:=r0;have h0:=h.ext x0;have hwF:¬F w:=λq=>by have:=h.lt q;omega
 obtain ⟨b,hm,hr,AV,-,hFb,hmb,bu⟩:=h0.Kq;have hbw:=h.lt hFb;have hwl:=Es M (rows.map aj);have ldm:∀{u:World},Ext w0 u->Vc.ld u (ae (aB m) 2)=some (.slice (aB b) 16 16):=λxu=>(hm.ext xu).at 2 rfl
 have rk:∀{u:World},Ext w0 u->RdK u ⟨aB b,16,16⟩ 13 (rows.map kj):=λxu=>ue (hr.ext xu) AV
 have inb:∀k:Nat,k<16->ez (aB b) (k:Int) 16:=λk hk=>(rk (Ext.cu _)).iz (i:=(k:Int)) aG ab (by show (k:Int)<((16:Nat):Int);omega)
 have parL:∀{u:World},Ext w0 u->af u (aB w.heap.size) 0 [m]:=λxu=>Lo.wv (r0.ext xu)
 have atk:∀i:Nat,i ∈ eS M (rows.map aj)->∃r,rows[i]? =some r/\i<16/\cC (rows.map aj) ((i:Nat):Int)=some r.2:=λi hi=>by
  obtain ⟨h1,y,hy⟩:=uC hi;obtain ⟨r,vR⟩:=bB (l:=rows) (i:=i) ab;refine ⟨r,vR,h1,?_⟩;rw [mM (rows:=rows) (n:=(i:Nat)) rfl vR] at hy ⊢;unfold aj at hy ⊢;split at hy
  ·rename_i hb;rw [if_pos hb]
  ·cases hy
 let num:Nat->LV:=λi=> [.int .i64 (i:Int)]
 refine ⟨λn x sl wr=>∃k:Nat,x=k/\k+n=16/\aF w0 3 1 wr sl (((List.range k).filter (lO M (rows.map aj))).map num)/\Ext w0 wr,⟨16,rfl,0,rfl,rfl,aF.nil,Ext.cu _⟩,?_⟩;rintro n1 us x sl wr ⟨k,rfl,hk',ho,xr⟩;have zr:=xr.size;apply Br.mk<;>intro hb
 ·have hb:(k:Int)<16:=by simpa using hb
  obtain ⟨r,Mf⟩:=bB (l:=rows) (i:=k) ab;have hi:(rows.map kj)[k]? =some (kj r):=by rw [aV,Mf];rfl
  have AU:=mM (rows:=rows) (n:=k) rfl Mf;have wk:=nY (j:=k);have dD:sl.n<=16:=by have h1:=(ho.rd (show 0<1 by decide)).n;have h2:=zf (lO M (rows.map aj)) (List.range k);rw [aN] at h1;rw [FM] at h2;omega
  have skip:lO M (rows.map aj) k=false->∀{u:World},Ext wr u->∃n7,n7<n1/\aL [m]/\∃k':Nat,ak ((k:Int)+1)=k'/\k'+n7=16/\aF w0 3 1 u ⟨sl.a,sl.n,sl.c⟩ (((List.range k').filter (lO M (rows.map aj))).map num)/\Ext w0 u:=λhq {u} xu=>by refine ⟨n1-1,by omega,rfl,k+1,wk,by omega,?_,xr.tr xu⟩;rw [wK,qd,bX,Ji (by rw [hq];decide)];simpa using ho.ext xu
  have xd:=Ext.dr wr;have zd:=mN wr;refine ⟨⟨aB b,16,16⟩,ldm (xr.tr xd),inb k ab,gT rfl ⟨r.1,(rk (xr.tr xd)).at hi (mlA r),Br.mk (λhb=> ?_) (λhb=>skip ?_ xd)⟩⟩
  ·have Qi:aj r=some r.2:=by unfold aj;rw [if_pos hb]
   rw [Qi] at AU;have hwake:lO M (rows.map aj) k=o5 M r.2.1:=by unfold lO;rw [AU]
   refine ⟨⟨aB b,16,16⟩,ldm (xr.tr xd),inb k ab,gT rfl ⟨_,_,_,_,_,_,_,_,_,l8 (rk (xr.tr xd)) hi (mlB r),(Cw (h0.ext (xr.tr xd)) r.2.1).mono ?_⟩⟩;rintro e ef ⟨rfl,cW⟩;have z20:=cW.size;have ZN:=(xr.tr xd).tr cW;refine ⟨_,rfl,cW.heap ab,Wx (ldm ZN),parL ZN,Wx ((rk ZN).at hi (mlA r)),Wx (ldm ZN),parL ZN,Br.mk (λhq=>λey HC=> ?_) (λhq=>skip (by rw [hwake];exact hq) (xd.tr cW))⟩;subst HC;obtain ⟨DU,hres8⟩:=(ho.ext (xd.tr cW)).iO (bytes:=8) (news:=[.int .i64 (k:Int)]) (.cells #[.int .i64 (k:Int)] 3) ab rfl (sW _ _) ab ab;refine ⟨DU,λs23 gC awG=> ?_⟩;obtain ⟨f8,yM,hn8,x8,Hh,-⟩:=hres8 s23 gC awG;have xa:Ext ef (ef.alloc (.cells #[.int .i64 (k:Int)] 3)):=(aT rfl);have hparam:gC.heap[w.heap.size]? =(ef.alloc (.cells #[.int .i64 (k:Int)] 3)).heap[w.heap.size]? :=(x8.block _ ab).trans (xa.heap ab).symm;refine ⟨hparam,f8,n1-1,by omega,rfl,k+1,wk,by omega,?_,Below.trans ZN x8⟩;rw [wK,qd,bX,Jh (by rw [hwake];exact hq)];exact yM
  ·have hb:r.1=false:=by simpa using hb
   have Qi:aj r=none:=by unfold aj;rw [if_neg (by rw [hb];decide)]
   rw [Qi] at AU;unfold lO;rw [AU]
 have hb:¬(k:Int)<16:=by simpa using hb
 have vT:k=16:=by omega
 subst vT;replace ho:aF w0 3 1 wr sl ((eS M (rows.map aj)).map num):=ho;have tL:sl.n=(eS M (rows.map aj)).length:=by rw [(ho.rd (show 0<1 by decide)).n,aN]
 have slk:∀b,sl.bj=some b->w0.heap.size<=b/\b<wr.heap.size:=λb hb=>ho.own.lt hb
 have viewS:∀{u:World},Ext w0 u->Vc.ld u (ae (aB m) 0)=some (.pointer (aB o))/\ah 27 #[o] u λe w'=>e=Value.func (.func 83) #[t] #[]/\w'=u:=λxu=>by obtain ⟨Fs,hs,-,jR,-⟩:=(h0.ext xu).wu;obtain ⟨Fw,hW,-,-⟩:=hs.world;exact ⟨jR,gw hW⟩
 refine ⟨λn x s2 fw=>∃j:Nat,x=j/\j+n=(eS M (rows.map aj)).length/\aF wr AT 9 fw s2 ((((eS M (rows.map aj)).take j).map (lg M (rows.map aj))).map jQ)/\Ext wr fw,⟨(eS M (rows.map aj)).length,rfl,0,rfl,by omega,aF.nil,Ext.cu _⟩,?_⟩;rintro n2 wg x s2 fw ⟨j,rfl,hj,wi,iM⟩;have z30:=iM.size;apply Br.mk<;>intro hb
 ·have hb:(j:Int)<sl.n:=by simpa using hb
  obtain ⟨i,hi⟩:=bB (l:=eS M (rows.map aj)) (i:=j) ab;obtain ⟨r,vR,HB,AU⟩:=atk i (aU hi);have xd:=Ext.dr fw;have zd:=mN fw;have QP:=xr.tr (iM.tr xd);have HA:=(ho.ext (iM.tr xd)).rd (show 0<1 by decide);have hri2:((eS M (rows.map aj)).map num)[j]? =some [.int .i64 (i:Int)]:=by rw [aV,hi];rfl
  have L3:=HA.at hri2 (j:=0) (v:=.int .i64 (i:Int)) rfl;rw [dC] at L3;have hii:(rows.map kj)[i]? =some (kj r):=by rw [aV,vR];rfl
  refine ⟨⟨aB b,16,16⟩,ldm QP,HA.iz aG ab ab,_,L3,inb i HB,_,_,_,_,_,_,_,_,_,_,_,_,_,(rk QP).cg hii,λmw e47 gf e48=> ?_⟩;have yL:Ext fw.drew gf.drew:=((aT e47).ag e48 (aD _)).drew;have z48:gf.drew.heap.size=fw.drew.heap.size+1:=by show gf.heap.size=_;rw [zR e48,zA e47]
  have r48:∃τ,Row gf.drew fw.drew.heap.size (kj r) τ:=⟨_,by rw [e48,e47];exact (Row.set (Row.new fw.drew [_,_,_,_,_,_,_,_,_,_,_,_,_] _) (kj r)).ext (Ext.dr _)⟩;obtain ⟨τ',r48⟩:=r48;have Iv:=QP.tr yL;refine ⟨_,(viewS Iv).1,(viewS Iv).2.mono ?_⟩;rintro e lR ⟨rfl,awH⟩;subst awH;have oky:=hL r.2 (qI AU);have lin:af gf.drew (dU fw.drew.heap.size 10) 0 [.int .i64 r.2.2.1,.int .i64 r.2.2.2.1,.bool r.2.2.2.2]:=sh r48 rfl rfl rfl;have lbd:af gf.drew (dU fw.drew.heap.size 1) 0 (jQ r.2.1):=r48.cg (o:=1) λj hj=>by have:=mlB r j hj;rw [<-this]
  refine ⟨_,rfl,rfl,rfl,lin,parL Iv,lbd,(FR (h0.ext Iv).tl rfl r.2.1 oky.wdi oky.2.2.2 (oky.Bm ab) ab r.2.2).mono ?_⟩;rintro e Q1 ⟨rfl,mJ⟩;have z52:=mJ.size;have awI:=Iv.tr mJ;refine ⟨_,_,_,_,_,_,_,_,_,rfl,mJ.heap ab,mJ.heap ab,parL awI,λjk e62=> ?_⟩;have ov:=aT e62;subst e62;have dD:s2.n<=16:=by have h1:=(wi.rd (show 0<9 by decide)).n;rw [aN,aN,dI] at h1;omega
  have Db:∀g,s2.bj=some g->wr.heap.size<=g/\g<fw.heap.size:=λg hg=>wi.own.lt hg
  obtain ⟨DU,hres8⟩:=(wi.ext (xd.tr (yL.tr mJ))).iO (bytes:=72) (news:=jQ (qZ (fx M.T.2) r.2.1 r.2.2)) (.cells (jQ (qZ (fx M.T.2) r.2.1 r.2.2)).toArray AT) ab rfl (xD _) ab ab;refine ⟨DU,λs63 tX awJ=> ?_⟩;obtain ⟨f8,yM,hn8,x8,Hh,-⟩:=hres8 s63 tX awJ;have wk:=nY (j:=j);have awK:Ext w0 tX:=xr.tr (Below.trans (iM.tr (xd.tr (yL.tr mJ))) x8);have k1:=(x8.block w ab).trans (ov.heap ab).symm;have k2:=(Hh fw.drew.heap.size (λq=>by have:=Db _ q;omega) ab).trans (ov.heap ab).symm;refine ⟨k1,k2,f8,parL awK,n2-1,by omega,rfl,j+1,wk,by omega,?_,Below.trans (iM.tr (xd.tr (yL.tr mJ))) x8⟩;rw [dP,hi,bX,bX];have e1:lg M (rows.map aj) i=qZ (fx M.T.2) r.2.1 r.2.2:=by unfold lg;rw [AU]
  show aF _ _ _ _ _ (_++ [jQ (lg M (rows.map aj) i)]);rw [e1];exact yM
 have hb:¬(j:Int)<sl.n:=by simpa using hb
 have hjw:j=(eS M (rows.map aj)).length:=by omega
 subst hjw;rw [ja] at wi;have QP:=xr.tr iM;refine ⟨_,(viewS QP).1,(viewS QP).2.mono ?_⟩;rintro e rI ⟨rfl,awL⟩;subst awL;refine ⟨_,rfl,rfl,(FT (h0.ext QP).tl rfl wi (by rw [aN];exact hwl) (FU hL ab) ab ab).mono ?_⟩;rintro e tM ⟨s69,rfl,aem,oN,bq,VI⟩;rw [aN] at VI;replace aem:aF rI AT 9 tM s69 ((qY M (rows.map aj)).map jQ):=aem;replace VI:(qY M (rows.map aj)).length=(eS M (rows.map aj)).length:=VI;replace bq:∀b ∈ qY M (rows.map aj),okB (n+16777216+16*16*12582912) b:=bq;have z68:=oN.size;have s69k:∀b,s69.bj=some b->rI.heap.size<=b/\b<tM.heap.size:=λb hb=>aem.own.lt hb
 have awM:s69.n=(eS M (rows.map aj)).length:=by rw [(aem.rd (show 0<9 by decide)).n,aN,VI]
 have aen:=QP.tr oN;have hmw:=hm.lt;refine ⟨s69,rfl,oN.heap ab,λn x nt=>∃j:Nat,x=j/\j+n=(eS M (rows.map aj)).length/\Row nt b ((GO M rows j).map kj).flatten CC/\Mod (λi=>i=b) tM nt,⟨(eS M (rows.map aj)).length,rfl,0,rfl,by omega,hr.ext aen,Mod.refl _ _⟩,?_⟩;rintro n3 us3 x nt ⟨j,rfl,hj,alY,m74⟩;have z74:=m74.size;have zz:=aen.size;have hlu:(GO M rows j).length=16:=(J8 _ _).trans AV;have wbox:nt.heap[w.heap.size]? =tM.heap[w.heap.size]? :=m74.same _ ab ab;have last:j=(eS M (rows.map aj)).length->∃p88:Option Addr,Vc.ld nt (ae (aB m) 1)=some (.pointer p88)/\
   ah 118 #[p88,.func (.func 120) #[] #[w]] nt λe pC=>e=ug/\
    ∃p90:Option Addr,Vc.ld pC (aB w.heap.size)=some (.pointer p90)/\aS (dK p90) (aS (dK p90) (∃p91:Option Addr,Vc.ld pC (ae p90 1)=some (.pointer p91)/\
     ah 119 #[p91] pC λe w92=>∃yD:Int,e=yD/\Ending.returned yD=Value.int .i64 (rL M).length/\lF F w m s o t (pS M (rows.map aj)).1 (aj3 w) (nS M rows) w92)):=by
  intro hjw;subst hjw;have hup:GO M rows (eS M (rows.map aj)).length=nS M rows:=by unfold GO nS;rw [fz (by rw [List.length_zip,VI];omega)]
  rw [hup] at alY hlu;obtain ⟨F74,h74,t74⟩:=bu ((Mod.aH aen).trans m74) alY hlu;have aqa:¬F74 w:=λq=>by
   rcases t74.sub _ q with q|q
   ·exact hwF q
   ·omega
  have hr74b:Row nt w [m] τ:=(r0.ext aen).same wbox;obtain ⟨Fs,hs,jR,-,-,hresS⟩:=h74.wu;refine ⟨_,jR,(zK hs (.func 120) #[] #[w]).mono ?_⟩;rintro e pC ⟨rfl,awO,-⟩;refine ⟨rfl,?_⟩;obtain ⟨F89,h89,t89⟩:=hresS awO;have awP:¬F89 w:=λq=>by
   rcases t89.sub _ q with q|q
   ·exact aqa q
   ·omega
  have hr89b:=t89.mod.row hr74b aqa;have awQ:pL (n+3300000000) ((nS M rows).map aj):=by rw [kR];exact Et _ (hL.up ab) λx hx=>(bq x.2 (List.of_mem_zip hx).2).up ab
  obtain ⟨Fs2,Db,hO,hld2,hres2⟩:=mOc h89 awQ hr89b awP;rw [kR] at hO;refine ⟨_,by rw [hr89b.ld];rfl,gT rfl (gT rfl ⟨_,hld2,(Ju Db hO hd hk alg).mono ?_⟩)⟩;rintro e w92 ⟨rfl,awR⟩;obtain ⟨F92,h92,t92⟩:=hres2 awR;exact ⟨_,rfl,rfl,F92,h92,(aO.aH x0).trans (t74.trans (t89.trans t92))⟩
 apply Br.mk<;>intro hb
 ·have hb:(j:Int)<sl.n:=by simpa using hb
  refine yes (by rw [awM,<-tL];simpa using hb) ?_;obtain ⟨i,hi⟩:=bB (l:=eS M (rows.map aj)) (i:=j) ab;obtain ⟨x,hx⟩:=bB (l:=qY M (rows.map aj)) (i:=j) ab;obtain ⟨r,vR,HB,AU⟩:=atk i (aU hi);have xd:=Ext.dr nt;have zd:=mN nt;have hrd69:=((m74.iC aem λg hg q=>by have:=s69k g hg;omega).ext xd).rd (show 0<9 by decide);have hrx:((qY M (rows.map aj)).map jQ)[j]? =some (jQ x):=by rw [aV,hx];rfl
  have HA:=((m74.iC ((ho.ext iM).ext oN) λg hg q=>by have:=slk g hg;omega).ext xd).rd (show 0<1 by decide);have hri2:((eS M (rows.map aj)).map num)[j]? =some [.int .i64 (i:Int)]:=by rw [aV,hi];rfl
  have L3:=HA.at hri2 (j:=0) (v:=.int .i64 (i:Int)) rfl;rw [dC] at L3;have awS:=(((hm.ext aen).same (m74.same _ ab hmb)).ext xd);obtain ⟨p0,p1,pb,p2⟩:=af8 hlu (alY.ext xd) HB x;refine ⟨⟨aB b,16,16⟩,awS.at 2 rfl,HA.iz aG ab ab,_,L3,hrd69.iz aG ab ab,_,_,_,_,_,_,_,_,_,hrd69.cg hrx,inb i HB,gT rfl ⟨⟨p0,p1⟩,by rw [pb];intro q;injection q with q;omega,λCa e87=> ?_⟩⟩;obtain ⟨q1,q2⟩:=p2 Ca e87;have wk:=nY (j:=j);refine ⟨n3-1,by omega,rfl,j+1,wk,by omega,?_,m74.trans ((Mod.aH xd).trans q2)⟩;rw [Tt hi hx];exact q1
 ·have hb:¬(j:Int)<sl.n:=by simpa using hb
  exact last ab
end
abbrev tXr:TypeId:=164
abbrev tWt:TypeId:=166
def xAt(L:List (Option dQ))(i:Nat):Xr:=((i:Int),match cC L i with|some y=>y.1|none=>EP)
def tu(L:List (Option dQ))(k:Nat):List Xr:=((List.range k).filter λi=>(cC L (i:Nat)).isSome).map (xAt L)
def Rk(L:List (Option dQ)):(tu L 16).length=(cF L).length:=by unfold tu cF;rw [aN,aN]
def VY(M:Sm)(L:List (Option dQ)):FL M.now (tu L 16) M.q.l=fG M L:=by
 unfold FL fG;rw [Rk];have:((tu L 16).map λx=>gM x.1 x.2).flatten=fJ L (cF L):=by
  unfold fJ tu cF;rw [mS,mS];congr 1;refine yT λi hi=> ?_
  have h2:=(kA.1 hi).2;obtain ⟨y,hy⟩:=oP.1 h2;show gM (xAt L i).1 (xAt L i).2=CL L (i:Int);unfold xAt CL;rw [hy]
 rw [this]
def ajn(x:Xr):One (xrL x):=by
 intro u hu;rcases cR.1 hu with rfl|hu
 ·rfl
 ·exact xD x.2 u hu
section
variable {F F':Nat->Prop} {w w':World} {m s o t:Nat} {M M':Sm} {occ:Value} {rows:List iV}
set_option maxHeartbeats 4000000 in
def Kr(h:MF F w m s o t M occ rows):ah 62 #[m] w λe w'=>∃sx sw:Sl,e=Value.agg #[M.now,sx,sw]/\RdK w' sx 10 ((tu (rows.map aj) 16).map xrL)/\RdK w' sw 4 (M.q.l.map gj)/\Ext w w':=by
 apply xp.vc;intro w0 e0;have x0:=aT e0;have z0:=zA e0;have h0:=h.ext x0;obtain ⟨Fs,hs,jR,-⟩:=h0.wu;obtain ⟨b,hm,hr,AV,-⟩:=h0.Kq;have ldm:∀{u:World},Ext w0 u->Vc.ld u (ae (aB m) 2)=some (.slice (aB b) 16 16):=λxu=>(hm.ext xu).at 2 rfl
 have rk:∀{u:World},Ext w0 u->RdK u ⟨aB b,16,16⟩ 13 (rows.map kj):=λxu=>ue (hr.ext xu) AV
 have inb:∀k:Nat,k<16->ez (aB b) (k:Int) 16:=λk hk=>(rk (Ext.cu _)).iz (i:=(k:Int)) aG ab (by show (k:Int)<((16:Nat):Int);omega)
 refine ⟨_,jR,(Jr hs).mono ?_⟩;rintro e w2 ⟨rfl,AN⟩;subst AN;refine ⟨_,rfl,rfl,λw4 e4 w5 e5=> ?_⟩;have x5:Ext w2 w5:=(aT e4).ag e5 (aD _);have z5:w5.heap.size=w2.heap.size+1:=by rw [zR e5,zA e4]
 refine ⟨λn x now s1 s2 wr=>∃k:Nat,x=k/\k+n=16/\now=M.now/\s2=⟨none,0,0⟩/\aF w5 tXr 10 wr s1 ((tu (rows.map aj) k).map xrL)/\Ext w2 wr/\w5.heap.size<=wr,⟨16,rfl,0,rfl,rfl,rfl,rfl,aF.nil,x5,aD _⟩,?_⟩;rintro n us x now s1 s2 bG ⟨k,rfl,hk,rfl,rfl,ho,cn,z13⟩;apply Br.mk<;>intro hq
 ·have hq:(k:Int)<16:=by simpa using hq
  obtain ⟨r,Mf⟩:=bB (l:=rows) (i:=k) ab;have hi:(rows.map kj)[k]? =some (kj r):=by rw [aV,Mf];rfl
  have AU:=mM (rows:=rows) (n:=k) rfl Mf;have wk:=nY (j:=k);have xd:=Ext.dr bG;have zd:=mN bG;refine ⟨⟨aB b,16,16⟩,ldm cn,inb k ab,gT rfl ⟨r.1,(rk cn).at hi (mlA r),Br.mk (λhb=> ?_) (λhb=> ?_)⟩⟩
  ·have Qi:aj r=some r.2:=by unfold aj;rw [if_pos hb]
   rw [Qi] at AU;have xx:=cn.tr xd;refine ⟨⟨aB b,16,16⟩,ldm xx,inb k ab,gT rfl ⟨_,_,_,_,_,_,_,_,_,l8 (rk xx) hi (mlB r),λeB e27=> ?_⟩⟩;have fD:=aT e27;have dD:s1.n<=16:=by have h1:=(ho.rd (show 0<10 by decide)).n;rw [aN] at h1;unfold tu at h1;rw [aN] at h1;have h2:=zf (λi:Nat=>(cC (rows.map aj) (i:Nat)).isSome) (List.range k);rw [FM] at h2;omega
   have eN:∀g,s1.bj=some g->w5.heap.size<=g/\g<bG.heap.size:=λg hg=>ho.own.lt hg
   have z27:=zA e27;subst e27;obtain ⟨DU,hres8⟩:=(ho.ext xd).iO (bytes:=80) (news:=xrL ((k:Int),r.2.1)) (.cells (xrL ((k:Int),r.2.1)).toArray tXr) ab rfl (ajn _) ab ab;refine ⟨DU,λQ2 dX aua=> ?_⟩;obtain ⟨f8,yM,hn8,x8,Hh,-⟩:=hres8 Q2 dX aua;have x8':Ext w2 dX:=Below.trans (cn.tr xd) (Below.mono x8 ab);have z29:=x8.size;have dc:∀j,j<w5.heap.size->dX.heap[j]? =(bG.drew.alloc (.cells (xrL ((k:Int),r.2.1)).toArray tXr)).heap[j]? :=λj hj=>(Hh j (λq=>by have:=eN _ q;omega) ab).trans (fD.heap ab).symm
   refine ⟨dc _ ab,dc _ ab,f8,Wx (ldm x8'),λfw Mc=> ?_⟩;have z30:=zR Mc;have k30:∀j,j≠w2.heap.size->fw.heap[j]? =dX.heap[j]? :=λj hj=>by rw [Mc];exact setRow_other _ _ _ _ hj
   refine ⟨n-1,by omega,rfl,k+1,wk,by omega,rfl,rfl,?_,x8'.ag Mc (aD _),by omega⟩;have e1:tu (rows.map aj) (k+1)=tu (rows.map aj) k++ [((k:Int),r.2.1)]:=by unfold tu;rw [wK,qd,bX,Jh (by rw [AU];rfl)];show _++ [xAt _ k]=_;unfold xAt;rw [AU]
   rw [e1,bX];refine aF.dc yM λg hg=>k30 g λq=> ?_
   have:=(yM.own.lt hg).1;omega
  ·have hb:r.1=false:=by simpa using hb
   have Qi:aj r=none:=by unfold aj;rw [if_neg (by rw [hb];decide)]
   rw [Qi] at AU;refine ⟨n-1,by omega,rfl,k+1,wk,by omega,rfl,rfl,?_,cn,z13⟩;have e1:tu (rows.map aj) (k+1)=tu (rows.map aj) k:=by unfold tu;rw [wK,qd,Ji (by rw [AU];decide)];simp
   rw [e1];exact ho
 have hq:¬(k:Int)<16:=by simpa using hq
 have:k=16:=by omega
 subst this;obtain ⟨aBv,aoJ,hld13,-⟩:=(h0.ext cn).wu;refine ⟨_,hld13,(wL aoJ).mono ?_⟩;rintro e lA ⟨Mi,rfl,aoK,il⟩;have z32:=il.size;have hrd33:=aoK.rd (show 0<4 by decide);have aBw:Mi.n=M.q.l.length:=by rw [hrd33.n,aN]
 have aoL:∀g,Mi.bj=some g->bG.heap.size<=g/\g<lA.heap.size:=λg hg=>aoK.own.lt hg
 obtain ⟨gq,mq,qs,-,uZ,-⟩:=aoJ.queue;have hql:M.q.l.length<=4096:=by have:=uZ.len;have:=uZ.room;omega
 have ag4:=ho.ext il;have eN:∀g,s1.bj=some g->w5.heap.size<=g/\g<bG.heap.size:=λg hg=>ho.own.lt hg
 have hxs:((tu (rows.map aj) 16).map xrL).length<=16:=by rw [aN,Rk];exact uf _
 refine ⟨Mi,rfl,il.heap ab,il.heap ab,λn x now s1' s2 wr=>∃k:Nat,x=k/\k+n=M.q.l.length/\now=M.now/\s1=s1'/\aF lA tWt 4 wr s2 ((M.q.l.take k).map gj)/\Mod (λi=>i=w2.heap.size\/lA.heap.size<=i) lA wr,⟨M.q.l.length,rfl,0,rfl,by omega,rfl,rfl,aF.nil,Mod.refl _ _⟩,?_⟩;rintro n2 wg x now s1' s2 iR ⟨k,rfl,Hf,rfl,rfl,wi,m41⟩;have z41:=m41.size;have kJ:Ext w2 iR:=m41.ext (cn.tr il) λi hi=>by omega
 apply Br.mk<;>intro hq
 ·have hq:(k:Int)<Mi.n:=by simpa using hq
  obtain ⟨it,Z2⟩:=bB (l:=M.q.l) (i:=k) ab;have dq:(M.q.l.map gj)[k]? =some (gj it):=by rw [aV,Z2];rfl
  have xd:=Ext.dr iR;have zd:=mN iR;have jj:RdK iR.drew Mi 4 (M.q.l.map gj):=(hrd33.same λg hg=>m41.same g (aoL g hg).2 λq=>by have:=aoL g hg;omega).ext xd;have lr:ez Mi.a (k:Int) Mi.n:=jj.iz aG ab hq;refine ⟨lr,bD.2 ⟨jl.2 (by rw [gZ];exact lr.1),_,jj.at dq (j:=0) (v:=.int .i64 it.1) rfl,lr,bD.2 ⟨jl.2 (by rw [gZ];exact lr.1),_,_,_,l8 jj dq (off:=1) (vs:=[.int .i64 it.2.1,.int .i64 it.2.2.1,.int .i64 it.2.2.2]) (λj _=>by rw [uk,CM]),λmw e47=> ?_⟩⟩⟩;have qF:=aT e47;have z47:=zA e47;have Db:∀g,s2.bj=some g->lA.heap.size<=g/\g<iR.heap.size:=λg hg=>wi.own.lt hg
  have dD:s2.n<=4096:=by have h1:=(wi.rd (show 0<4 by decide)).n;rw [aN,dI] at h1;omega
  subst e47;obtain ⟨DU,hres8⟩:=(wi.ext xd).iO (bytes:=32) (news:=gj it) (.cells (gj it).toArray tWt) ab rfl (Q.rZ it) ab ab;refine ⟨DU,λTW mI auc=> ?_⟩;obtain ⟨f8,yM,hn8,x8,Hh,-⟩:=hres8 TW mI auc;have z49:=x8.size;have dc:∀j,j<lA.heap.size->mI.heap[j]? =(iR.drew.alloc (.cells (gj it).toArray tWt)).heap[j]? :=λj hj=>(Hh j (λq=>by have:=Db _ q;omega) ab).trans (qF.heap ab).symm
  refine ⟨dc _ ab,dc _ ab,f8,λlR e50=> ?_⟩;have k50:∀j,j≠w2.heap.size->lR.heap[j]? =mI.heap[j]? :=λj hj=>by rw [e50];exact setRow_other _ _ _ _ hj
  have mr:=qe e50;refine ⟨n2-1,by omega,rfl,k+1,by rw [wI];omega,by omega,rfl,rfl,?_,m41.trans ((Mod.aH xd).trans (Mod.trans ⟨x8.os,x8.tape,x8.output,z49,λi hi hn=>x8.block i ab⟩ (mr.mono λi _ hi=> .inl hi)))⟩;rw [dP,Z2,bX];refine aF.dc yM λg hg=>k50 g λq=> ?_
  have:=(yM.own.lt hg).1;omega
 ·have hq:¬(k:Int)<Mi.n:=by simpa using hq
  have hk':k=M.q.l.length:=by omega
  subst hk';rw [ja] at wi;intro vX e51;have z51:=zR e51;have k51:∀j,j≠w.heap.size->vX.heap[j]? =iR.heap[j]? :=λj hj=>by rw [e51];exact setRow_other _ _ _ _ hj
  refine ⟨s1,s2,rfl,?_,?_,(x0.tr kJ).ag e51 (aD _)⟩
  ·refine ((ag4.rd aG).same λg hg=>m41.same g ?_ λq=> ?_).same λg hg=>k51 g λq=> ?_
   ·have:=eN g hg;omega
   ·have:=eN g hg;omega
   ·have:=eN g hg;omega
  ·refine (wi.rd aG).same λg hg=>k51 g λq=> ?_
   have:=(wi.own.lt hg).1;omega
end
variable {R:Ending->World->Prop} {w:World} {a0 a1 a2 a3 a4 a5 a6 a7 a8 a9 aw ao au aP aQ aR bM bH bI DV aq ar aA bz bR bQ fe fg eM DW bE bO bC yu yw vV vW yx yy yz DX DY DZ D3 D4 D5 D6 D7 D8 D9:Int}
def Rf.vc{a0:Addr}{a1:Addr}{aeo:Int}{tn:Int}{tp:Int}{tq:Int}{VP:Int}{VQ:Int}{VR:Bool}(h:
 Aw w #[bE,bO,bC,yu,yw,vV,vW,yx,yy,yz,aeo,tn,tp,tq,VP,VQ,VR] 45 λw0=>
 ah 10 #[bO,(4:Int)] w0 (Ri λx2 w1=>Kp w w0 w1/\
 ah 51 #[.agg #[yu,yw]] w1 (Ra2 λx4 x5 w3=>Kp w w1 w3/\
 Aw w3 #[aa,aa] 40 λw6=>
 Sw w6 w3 #[x4,x5] λw7=>
 ∃(p8:Option Addr),ld w7 (ae (some a0) 0)=some (.pointer p8)/\
 ah 18 #[p8] w7 (λe w9=>∃(Kn:Option Addr),e=Kn/\K2 w w3 w7 w9 (
 ah 19 #[Kn] w9 (λe bc=>∃(pI:Option Addr),e=pI/\K2 w w3 w9 bc (
 ∃(QK:Option Addr),ld bc (ae (some a1) 0)=some (.pointer QK)/\
 ah 19 #[QK] bc (λe bJ=>∃(Uh:Option Addr),e=Uh/\K2 w w3 bc bJ (
 Br (pI).isNone
 (R false bJ)
 (Br (Uh).isNone
 (R false bJ)
 (Br (bE==0)
 (ah 20 #[pI,.agg #[x4,x5]] bJ.drew (Ri λcZ cP=>K2 w w3 bJ.drew cP (
 af cP (aB w3) 0 [x4,x5]/\ah 20 #[Uh,.agg #[x4,x5]] cP (Ri λcr du=>K2 w w3 cP du (
 R (Value.bool (cZ==cr)) du)))))
 (Br (bE==1)
 (ah 21 #[pI,.agg #[x4,x5]] bJ.drew (Ri λdh ef=>K2 w w3 bJ.drew ef (
 af ef (aB w3) 0 [x4,x5]/\ah 21 #[Uh,.agg #[x4,x5]] ef (Ri λdA ey=>K2 w w3 ef ey (
 R (Value.bool (dh==dA)) ey)))))
 (Br (bE==2)
 (ah 22 #[pI] bJ (λe gC=>∃(dT fE:Int),e=Value.tuple #[dT,fE]/\K2 w w3 bJ gC (
 ah 22 #[Uh] gC (λe eB=>∃(ik gr:Int),e=Value.tuple #[ik,gr]/\K2 w w3 gC eB (
 Br (dT==ik)
 (R (Value.bool (fE==gr)) eB)
 (R false eB))))))
 (Br (bE==3)
 (ah 52 #[.agg #[yy,yz,aeo]] bJ (jo λiB il eF fw=>K2 w w3 bJ fw (
 Aw fw #[aa,aa,aa] 28 λiq=>
 Sw iq fw #[iB,il,eF] λki=>
 ah 10 #[vV,(60000:Int)] ki (Ri λgx jN=>K3 w w3 fw ki jN (
 ah 10 #[vW,(120000:Int)] jN (Ri λkH oL=>K3 w w3 fw jN oL (
 ah 11 #[a0,.agg #[iB,il,eF],gx,kH] oL (λe jS=>∃(kJ ow:Int),e=Value.tuple #[kJ,ow]/\K3 w w3 fw oL jS (
 ah 53 #[a1,.agg #[iB,il,eF],gx,kH] jS (λe iH=>∃(lK pH:Int),e=Value.tuple #[lK,pH]/\K3 w w3 fw jS iH (
 Br (kJ==lK)
 (R (Value.bool (ow==pH)) iH)
 (R false iH))))))))))))
 (Br (bE==4)
 (ah 54 #[a0,x2,.agg #[VP,VQ,VR]] bJ (Ri λqF oM=>K2 w w3 bJ oM (
 ∃(TW:Sl),ld oM (ae (some a1) 2)=some (.slice TW.a TW.n TW.c)/\
 ez TW.a x2 TW.n/\aS (dK (ae TW.a ((x2:Int).toNat*13))) (∃(b49:Bool),ld oM (ae (ae TW.a ((x2:Int).toNat*13)) 0)=some (.bool b49)/\
 Br b49
 (∃(s50:Sl),ld oM.drew (ae (some a1) 2)=some (.slice s50.a s50.n s50.c)/\
 ez s50.a x2 s50.n/\aS (dK (ae s50.a ((x2:Int).toNat*13))) ((((ae (ae s50.a ((x2:Int).toNat*13)) 10)).isSome=true/\Wr oM.drew (ae (ae s50.a ((x2:Int).toNat*13)) 10) 3)/\bt (ae (ae s50.a ((x2:Int).toNat*13)) 10)≠some w.heap.size/\bt (ae (ae s50.a ((x2:Int).toNat*13)) 10)≠some w3.heap.size/\(∀vX,vX=aK oM.drew (ae (ae s50.a ((x2:Int).toNat*13)) 10) [VP,VQ,VR]->
 ∃(s52:Sl),ld vX (ae (some a1) 2)=some (.slice s52.a s52.n s52.c)/\
 ez s52.a x2 s52.n/\aS (dK (ae s52.a ((x2:Int).toNat*13))) (∃(b53:Bool),ld vX (ae (ae s52.a ((x2:Int).toNat*13)) 0)=some (.bool b53)/\
 Br ((qF==0)==b53)
 (Br (qF==0)
 (R true vX)
 (R (Value.bool (qF==6)) vX))
 (R false vX)))))
 (∃(EE:Sl),ld oM (ae (some a1) 2)=some (.slice EE.a EE.n EE.c)/\
 ez EE.a x2 EE.n/\aS (dK (ae EE.a ((x2:Int).toNat*13))) (∃(b55:Bool),ld oM (ae (ae EE.a ((x2:Int).toNat*13)) 0)=some (.bool b55)/\
 Br ((qF==0)==b55)
 (Br (qF==0)
 (R true oM)
 (R (Value.bool (qF==6)) oM))
 (R false oM)))))))
 (Br (bE==5)
 (ah 56 #[bC] bJ.drew (Ri λox qy=>K2 w w3 bJ.drew qy (
 af qy (dU w 2) 0 [bC]/\af qy (dU w 11) 0 [tn,tp,tq]/\af qy (dU w 11) 0 [tn,tp,tq]/\ah 55 #[a0,x2,.agg #[tn,tp,tq],ox] qy (Ri λqG Cj=>K2 w w3 qy Cj (
 af Cj (dU w 2) 0 [bC]/\af Cj (dU w 11) 0 [tn,tp,tq]/\ah 56 #[bC] Cj (Ri λvU nN=>K2 w w3 Cj nN (
 af nN (dU w 11) 0 [tn,tp,tq]/\ah 57 #[a1,x2,.agg #[tn,tp,tq],vU] nN (Ri λtY jk=>K2 w w3 nN jk (
 R (Value.bool (qG==tY)) jk)))))))))
 (Br (bE==6)
 (ah 33 #[a0,x2,.agg #[tn,tp,tq]] bJ (λe tX=>∃(rJ nR:Int),e=Value.tuple #[rJ,nR]/\K2 w w3 bJ tX (
 ah 58 #[a1,x2,.agg #[tn,tp,tq]] tX (λe lC=>∃(oN qH:Int),e=Value.tuple #[oN,qH]/\K2 w w3 tX lC (
 Br (rJ==oN)
 (R (Value.bool (nR==qH)) lC)
 (R false lC))))))
 (Br (bE==7)
 (ah 28 #[.agg #[vV,vW,yx]] bJ (jo λoy oz nO oA=>K2 w w3 bJ oA (
 Aw oA #[aa,aa,aa] 41 λnt=>
 Sw nt oA #[oy,oz,nO] λsN=>
 ah 56 #[bC] sN.drew (Ri λHL kL=>K3 w w3 oA sN.drew kL (
 af kL (dU w 2) 0 [bC]/\af kL (aB oA) 0 [oy,oz,nO]/\af kL (aB oA) 0 [oy,oz,nO]/\ah 59 #[a0,.agg #[oy,oz,nO],HL] kL (Ri λAL qm=>K3 w w3 oA kL qm (
 af qm (dU w 2) 0 [bC]/\af qm (aB oA) 0 [oy,oz,nO]/\ah 56 #[bC] qm (Ri λvF vG=>K3 w w3 oA qm vG (
 af vG (aB oA) 0 [oy,oz,nO]/\ah 60 #[a1,.agg #[oy,oz,nO],vF] vG (Ri λv5 w82=>K3 w w3 oA vG w82 (
 R (Value.bool (AL==v5)) w82)))))))))))
 (Br (bE==8)
 (ah 13 #[a0,x2] bJ (Ri λB9 LS=>K2 w w3 bJ LS (
 ∃(s86:Sl),ld LS (ae (some a1) 2)=some (.slice s86.a s86.n s86.c)/\
 ez s86.a x2 s86.n/\aS (dK (ae s86.a ((x2:Int).toNat*13))) (∃(b87:Bool),ld LS (ae (ae s86.a ((x2:Int).toNat*13)) 0)=some (.bool b87)/\
 ∃(s88:Sl),ld LS (ae (some a1) 2)=some (.slice s88.a s88.n s88.c)/\
 ez s88.a x2 s88.n/\(((ae s88.a ((x2:Int).toNat*13))).isSome=true/\Wr LS (ae s88.a ((x2:Int).toNat*13)) 13)/\bt (ae s88.a ((x2:Int).toNat*13))≠some w.heap.size/\bt (ae s88.a ((x2:Int).toNat*13))≠some w3.heap.size/\(∀pC,pC=aK LS (ae s88.a ((x2:Int).toNat*13)) [.bool false,aa,aa,aa,aa,aa,aa,aa,aa,false,aa,aa,false]->
 Br ((B9==0)==b87)
 (Br (B9==0)
 (R true pC)
 (R (Value.bool (B9==6)) pC))
 (R false pC))))))
 (Br (bE==9)
 (ah 35 #[a0] bJ (Ri λHu pD=>K2 w w3 bJ pD (
 ah 62 #[a1] pD (λe w92=>∃(yD:Int)(s94 s95:Sl),e=Value.agg #[yD,s94,s95]/\K2 w w3 pD w92 (
 ah 34 #[.agg #[yD,s94,s95]] w92 (Rs λs97 w96=>K2 w w3 w92 w96 (
 ah 61 #[Uh,s97] w96 (Ri λKl Zf=>K2 w w3 w96 Zf (
 R (Value.bool (Hu==Kl)) Zf)))))))))
 (Br (bE==10)
 (ah 32 #[a0,x2,.agg #[tn,tp,tq]] bJ (λe sO=>∃(qB vf AO vg tO rD rE:Int),e=Value.tuple #[.agg #[qB,vf,AO,vg,tO,rD],rE]/\K2 w w3 bJ sO (
 Aw sO #[aa,aa,aa,aa,aa,aa] 77 λLW=>
 Sw LW sO #[qB,vf,AO,vg,tO,rD] λHo=>
 ah 63 #[a1,x2,.agg #[tn,tp,tq]] Ho (λe Hp=>∃(rF jO AP Ed Zy Zu adN:Int),e=Value.tuple #[.agg #[rF,jO,AP,Ed,Zy,Zu],adN]/\K3 w w3 sO Ho Hp (
 Aw Hp #[aa,aa,aa,aa,aa,aa] 77 λHq=>
 Sw Hq Hp #[rF,jO,AP,Ed,Zy,Zu] λtQ=>
 Br (rE==adN)
 (Br ((qB==rF) &&((vf==jO) &&(AO==AP)))
 (Br (vg==Ed)
 (Br (tO==Zy)
 (R (Value.bool (rD==Zu)) tQ)
 (R false tQ))
 (R false tQ))
 (R false tQ))
 (R false tQ))))))
 (ah 64 #[a0] bJ (Ri λUa Hw=>K2 w w3 bJ Hw (
 ah 65 #[a1] Hw (Ri λIB QC=>K2 w w3 Hw QC (
 R (Value.bool (Ua==IB)) QC)))))))))))))))))))))))))):ah 15 #[a0,a1,.agg #[bE,bO,bC,yu,yw,vV,vW,yx,yy,yz,aeo,tn,tp,tq,VP,VQ,VR]] w R:=
 cq bU Tryz.func15 h
end Go.Proofs.YtkkkfkopcfdmaaaGreatDoor
