import Derived.Test.YtjcnjlaelhdjeaaGreatDoorE
import Derived.Test.YtjcnjlaelhdjeaaGreatDoorD
import Derived.Laws.IdiomRangeMap
import Derived.LoopTactic
set_option linter.all false
namespace Go.Proofs.YtjcnjlaelhdjeaaGreatDoor
open Go Go.Vc Go.RowKit Go.Proofs Go.aN
set_option maxRecDepth 100000
set_option maxHeartbeats 8000000
section
variable{l:List Rn}{k:Nat}{r:Rn}
def pj(hr:l[k]? =some r):bF (l.take (k+1))=bF (l.take k)+r.1:=by rw[dq,hr];simp[bF]
def XR(hl:∀r∈l,0<=r.1):0<=bF l:=by rw[fb hl];omega
def lg(hl:∀r∈l,0<=r.1)(k:Nat):0<=bF (l.take k)/\bF (l.take k)<=bF l:=by
 refine⟨XR λq hq=>hl q (nZ hq),?_⟩;have:=Re (l.take k) (l.drop k);rw[td]at this;have h2:=XR (l:=l.drop k) λq hq=>hl q (zo hq)
 omega
def tz(hr:l[k]? =some r):cm (l.take (k+1))=cm (l.take k)++List.replicate r.1.toNat r.2:=by rw[dq,hr,iw];exact congrArg _ (jk r)
def amH(c:ab)(a b:Int):(Jg c a b).length<=c.length:=by unfold Jg;simp;omega
def wX(s:H)(l:List Rn)(a b:Int)(w:au)(hs:lf w s l)(hn:Bd l.length)(hl:∀r∈l,0<=r.1)(Ik:bF l<=1099511627776)(ha:0<=a)(hb:0<=b): Y 396 #[s,a,b] w λe w'=>∃s':H,e=s'/\wL w w' s' (iC (Jg (cm l) a b))/\Ext w w':=by
 have tE:=lf.len hs;unfold Bd at hn;apply adO.B;refine⟨λn x y o wr=>∃k:Nat,x=k/\k+n=l.length/\Ext w wr/\y=bF (l.take k)/\wL w wr o (iC (Jg (cm (l.take k)) a b)),⟨l.length,0,rfl,U,Ext.M w,rfl,?_⟩,?_⟩
 ·have:Jg (cm (l.take 0)) a b=[]:=by simp[Jg,cm]
  rw[this];exact ar.nil
 rintro n us x y o wr ⟨k,rfl,hk,xr,rfl,ho⟩;have hw:=aL (n:=(k:Int)+1) j_;apply Z.mk<;>intro h<;>simp at h
 ·have⟨r,hr⟩:=bX (l:=l) (i:=k) U;have e:=pj hr;have hr0:=hl r (aQ hr);have b1:=lg hl k;have b2:=lg hl (k+1);have yE:=aL (n:=bF (l.take k)+r.1) j_;have hc:((cm (l.take k)).length:Int)=bF (l.take k):=(fb λq hq=>hl q (nZ hq)).symm;have atG:Jg (cm (l.take (k+1))) a b=Jg (cm (l.take k)) a b++List.replicate (min b (bF (l.take k)+r.1)-max a (bF (l.take k))).toNat r.2:=by rw[tz hr,aes _ _ _ _ _ ha hb];congr 2;omega
  refine⟨lf.jX hs U,_,_,lf.ll (hs.ext xr) hr,?_⟩;rintro w9 rfl br rfl;rw[yE];have bL:=((xr.A (Ext.al _ (.cells #[J,J] ic))).setRow xr.size #[r.1,r.2]);have e1:(if bF (l.take k)+r.1<b then bF (l.take k)+r.1 else b)=min b (bF (l.take k)+r.1):=by split<;>omega
  have e2:(if bF (l.take k)>a then bF (l.take k)else a)=max a (bF (l.take k)):=by split<;>omega
  rw[e1,e2];have hkeep:∀g,o.D=some g->(((wr.alloc (.cells #[J,J] ic)).setRow wr #[r.1,r.2]).drew).heap[g]? =wr.heap[g]? :=by intro g hg;have:=(ho.own.lt hg).2;show((wr.alloc _).setRow wr _).heap[g]? =_;rw[setRow_other _ _ _ _ U];exact(Ext.al _ _).heap this
  have ho2:=ar.aV ho hkeep;have cX:(Jg (cm (l.take k)) a b).length<=1099511627776:=a1N (amH (cm (l.take k)) a b)
  apply Z.mk<;>intro h2<;>simp only[cC,fg]at h2
  ·have Ig:=aL (n:=min b (bF (l.take k)+r.1)-max a (bF (l.take k))) j_;rw[Ig];refine(sI w o _ (min b (bF (l.take k)+r.1)-max a (bF (l.take k)),r.2) _ bL.drew.size ho2 cX (by show min b (bF (l.take k)+r.1)-max a (bF (l.take k))<=_;omega)).mono ?_;rintro e w' ⟨s',rfl,ho',x',TU⟩;refine⟨s',rfl,TU _ (λhb=>absurd (ho.own.lt hb).2 (CY _)) (by simp[World.drew,World.setRow]),n-1,U,k+1,U,U,bL.drew.trans x',U,?_⟩;rw[atG];exact ho'
  ·refine⟨n-1,U,k+1,U,U,bL.drew,U,?_⟩;rw[atG,show(min b (bF (l.take k)+r.1)-max a (bF (l.take k))).toNat=0 from by omega];simpa using ho2
 ·obtain rfl:k=l.length:=by omega
  rw[kB]at ho;exact⟨o,rfl,ho,xr⟩
def mB(s:H)(l:List Rn)(w:au)(hs:lf w s l)(hn:Bd l.length): Y 288 #[s] w λe w'=>∃s':H,e=s'/\wL w w' s' l/\Ext w w':=by
 have tE:=lf.len hs;unfold Bd at hn;apply BN.B;apply Z.mk<;>intro h
 ·have:l=[]:=by
   rcases Fp l.length with h0|h0
   ·exact CV h0
   ·have:=RdK.isSome hs U (i:=0) (ds h0)
    cases hsa:s.a<;>simp[hsa]at h this
  subst this;exact⟨⟨none,0,0⟩,rfl,ar.nil,Ext.M w⟩
 ·rintro w0 rfl;have xa:=Ext.al w (.cells #[] ic);have hz:Go.Vc.Own w ic 2 (w.alloc (.cells #[] ic)) ⟨O w,0,0⟩ []:=.row w 0 0 [] (ak _) (Row.new w [] ic) bo (ak _);have hf:(l.map rv).flatten.length=s.n*2:=by rw[bQ hs.wd];simp[tE]
  have h1:One (l.map rv).flatten:=gy λr hr=>by obtain⟨q,_,rfl⟩:=bc.1 hr;exact BB _ _ _ _
  have⟨hp,hr⟩:=hz.append (bytes:=16) (m:=s.n) (news:=(l.map rv).flatten) xa.size hf h1 m_ m_;refine⟨(l.map rv).flatten,RdK.flat (hs.ext xa) U,hp,λs2 w3 bq=>?_⟩;have⟨ho,hn2,xb,_,_⟩:=hr s2 w3 bq;refine⟨pW bq hf bo,s2,rfl,⟨ds ho,hs.wd⟩,xa.trans xb⟩
def Hm(s:H)(ss:List H)(cs:List ab)(w:au)(hs:RdK w s 1 (ss.map λt=>[.slice t.a t.n t.c]))(cX:ss.length=cs.length) (hr:∀(i:Nat)(t:H)(c:ab),ss[i]? =some t->cs[i]? =some c->lf w t (iC c))(hb:Bd ss.length)(hn:Bd cs.flatten.length): Y 395 #[s] w λe w'=>∃s':H,e=s'/\wL w w' s' (iC cs.flatten)/\Ext w w':=by
 have tE:s.n=ss.length:=by have:=hs.n;simpa using this
 unfold Bd at hn hb;apply Zz.B;refine⟨λn x o wr=>∃k:Nat,x=k/\k+n=ss.length/\Ext w wr/\wL w wr o (iC (cs.take k).flatten),⟨ss.length,0,rfl,U,Ext.M w,ar.nil⟩,?_⟩;rintro n us x o wr ⟨k,rfl,hk,xr,ho⟩;have hw:=aL (n:=(k:Int)+1) j_;apply Z.mk<;>intro h<;>simp at h
 ·have⟨t,ht⟩:=bX (l:=ss) (i:=k) U;have⟨c,hc⟩:=bX (l:=cs) (i:=k) U;have hrt:=hr k t c ht hc;have htn:=lf.len hrt;have TD:(cs.take (k+1)).flatten=(cs.take k).flatten++c:=by rw[dq,hc];simp
  have hle:(cs.take k).flatten.length+c.length<=cs.flatten.length:=by have e:=congrArg List.length (congrArg List.flatten (td (k+1) cs));rw[zm,TD]at e;simp only[cj]at e;omega
  have hcl:=sa c;have pG:=hs.rd k [.slice t.a t.n t.c] (by rw[aW,ht];rfl) 0 _ rfl;refine⟨RdK.jX hs U U U,t,xr.ld (ds pG),?_⟩;refine⟨λn x o wr=>∃j:Nat,x=j/\j+n=(iC c).length/\Ext w wr/\wL w wr o (iC ((cs.take k).flatten++cm ((iC c).take j))),⟨(iC c).length,0,rfl,U,xr,by simpa[cm]using ho⟩,?_⟩;rintro n2 Bn x2 o2 w2 ⟨j,rfl,hj,x2,ho2⟩;have yE:=aL (n:=(j:Int)+1) j_;apply Z.mk<;>intro h2<;>simp at h2
  ·have⟨r,hrr⟩:=bX (l:=iC c) (i:=j) U;have hrm:=oA (aQ hrr);refine⟨lf.jX hrt U,_,_,lf.ll (hrt.ext x2) hrr,?_⟩;rintro w9 rfl br rfl;have bL:=((x2.A (Ext.al _ (.cells #[J,J] ic))).setRow x2.size #[r.1,r.2]);have ho3:=ar.aV (w':=(w2.alloc (.cells #[J,J] ic)).setRow w2 #[r.1,r.2]) ho2 (by
    intro g hg;have:=(ho2.own.lt hg).2;rw[setRow_other _ _ _ _ U];exact(Ext.al _ _).heap this)
   have TE:((cs.take k).flatten++cm ((iC c).take j)).length<=1099511627776:=by rw[cj];have h3:=lg (l:=iC c) (λq hq=>a1N (oA hq)) j;rw[nj,fb λq hq=>a1N (oA (nZ hq))]at h3;omega
   refine(sI w o2 _ r _ bL.size ho3 TE U).mono ?_;rintro e w' ⟨s',rfl,ho',x',TU⟩;refine⟨s',rfl,TU _ (λhb=>absurd (ho2.own.lt hb).2 (CY _)) (by simp[World.setRow]),n2-1,U,j+1,U,U,bL.trans x',?_⟩;rw[tz hrr,<-fT];exact ho'
  ·obtain rfl:j=(iC c).length:=by omega
   refine⟨n-1,U,k+1,U,U,x2,?_⟩;rw[kB,oK]at ho2;rw[TD];exact ho2
 ·obtain rfl:k=ss.length:=by omega
  rw[cX,kB]at ho;exact⟨o,rfl,ho,xr⟩
end
def HQ(s:H)(c:ab)(a b x:Int)(w:au)(hs:lf w s (iC c))(hn:Bd c.length)(ha:cH a)(hb:cH b): Y 389 #[s,a,b,x] w λe w'=>∃s':H,e=s'/\wL w w' s' (iC (if cN x then AM c a b x else c))/\Ext w w':=by
 have hl:Bd (iC c).length:=cV (sa c) hn;have hp:∀r∈iC c,0<=r.1:=λr hr=>a1N (oA hr)
 have Ik:bF (iC c)<=1099511627776:=by rw[nj];unfold Bd at hn;omega
 unfold Bd at hn;unfold cH at ha hb;apply Zx.B;refine(qD s _ w hs hl hp Ik).F λw1 x1=>?_
 rw[nj];refine⟨_,rfl,(gZ x w1).F λw2 x2=>?_⟩;have cr:=x1.A x2;have e1:(if((c.length:Nat):Int)<(if 0>a then 0 else a)then((c.length:Nat):Int)else(if 0>a then 0 else a))=min (max a 0) (c.length:Int):=a0n
 have e2:(if((c.length:Nat):Int)<(if 0>b then 0 else b)then((c.length:Nat):Int)else(if 0>b then 0 else b))=min (max b 0) (c.length:Int):=a0n
 rw[e1,e2];refine⟨_,rfl,Z.mk (λh=>?_) (λh=>Z.mk (λh2=>?_) (λh2=>?_))⟩
 ·simp at h;refine(mB s _ w2 (hs.ext cr) hl).mono ?_;rintro e w3 ⟨s',rfl,ho,x3⟩;refine⟨s',rfl,s',rfl,?_,cr.A x3⟩;rw[h];exact ar.low ho cr.size
 ·simp at h h2;refine(mB s _ w2 (hs.ext cr) hl).mono ?_;rintro e w3 ⟨s',rfl,ho,x3⟩;refine⟨s',rfl,s',rfl,?_,cr.A x3⟩;rw[h,if_pos rfl,Vn c a b x U];exact ar.low ho cr.size
 ·replace h2:=lW h2;have hm:cN x=true:=by simpa using h
  have hw:=aL (n:=min (max b 0) (c.length:Int)-min (max a 0) (c.length:Int)) j_;rw[hw];refine(wX s _ 0 (min (max a 0) (c.length:Int)) w2 (hs.ext cr) hl hp Ik U U).mono ?_;rintro e w3 ⟨s1,rfl,o1,x3⟩;refine⟨s1,rfl,(G4 (min (max b 0) (c.length:Int)-min (max a 0) (c.length:Int)) x w3 U).mono ?_⟩;rintro e w4 ⟨s2,rfl,o2,x4⟩;refine⟨s2,rfl,(wX s _ (min (max b 0) (c.length:Int)) c.length w4 (((hs.ext cr).ext x3).ext x4) hl hp Ik U U).mono ?_⟩;rintro e w5 ⟨s3,rfl,o3,x5⟩;refine⟨s3,rfl,?_⟩;rintro w6 rfl;have x6:=Ext.al w5 (.cells #[s1,s2,s3] 146);rw[oK]at o1 o3;have de:=Row.new w5 [s1,s2,s3] 146;have gF:RdK (w5.alloc (.cells #[s1,s2,s3] 146)) ⟨O w5,3,3⟩ 1 ([s1,s2,s3].map λt=>[.slice t.a t.n t.c]):=by
   refine⟨rfl,bo,λi r hi j v hj=>?_⟩;show ld _ (N (O w5) _)=_;rw[aF,de.ld];rcases i with _|_|_|i<;>simp at hi
   all_goals subst hi
   all_goals rcases j with _|j<;>simp at hj
   all_goals subst hj;rfl
  refine(Hm _ [s1,s2,s3] [Jg c 0 (min (max a 0) (c.length:Int)),List.replicate (min (max b 0) (c.length:Int)-min (max a 0) (c.length:Int)).toNat x,Jg c (min (max b 0) (c.length:Int)) c.length] _ gF rfl ?_ bo ?_).mono ?_
  ·intro i t d ht hd;rcases i with _|_|_|i<;>simp at ht hd
   ·subst ht;subst hd;exact(((o1.ext x4).ext x5).ext x6).rd U
   ·subst ht;subst hd;exact((o2.ext x5).ext x6).rd U
   ·subst ht;subst hd;exact(o3.ext x6).rd U
  ·have e:=congrArg List.length (Ku c a b x U);rw[aal]at e;simp only[kX,List.flatten_nil,oV,cj]at e⊢;unfold Bd;omega
  ·rintro e w7 ⟨s',rfl,ho,x7⟩;have xx:=(((cr.A x3).A x4).A x5).A x6;refine⟨s',rfl,s',rfl,?_,xx.A x7⟩;rw[if_pos hm,Ku c a b x U];have ho:=ar.low ho xx.size;simpa using ho
def abj(c:ab)(i x:Int):ab:=if cN x=true/\0<=i/\i<(c.length:Int)then c.set i.toNat x else c
def Jn(s:H)(c:ab)(i x:Int)(w:au)(hs:lf w s (iC c))(hn:Bd c.length)(hi:cH i): Y 376 #[s,i,x] w λe w'=>∃s':H,e=s'/\wL w w' s' (iC (abj c i x))/\Ext w w':=by
 have hl:Bd (iC c).length:=cV (sa c) hn;have hp:∀r∈iC c,0<=r.1:=λr hr=>a1N (oA hr)
 have Ik:bF (iC c)<=1099511627776:=by rw[nj];unfold Bd at hn;omega
 have hi':=hi;have hn':=hn;unfold Bd at hn';unfold cH at hi';apply adJ.B;apply Z.mk<;>intro h<;>simp at h
 ·refine(mB s _ w hs hl).mono ?_;rintro e w3 ⟨s',rfl,ho,x3⟩;refine⟨s',rfl,s',rfl,?_,x3⟩;unfold abj;rw[if_neg U];exact ho
 ·refine(qD s _ w hs hl hp Ik).F λw1 x1=>?_
  rw[nj];refine⟨_,rfl,Z.mk (λh2=>?_) (λh2=>?_)⟩<;>simp at h2
  ·refine(mB s _ w1 (hs.ext x1) hl).mono ?_;rintro e w3 ⟨s',rfl,ho,x3⟩;refine⟨s',rfl,s',rfl,?_,x1.A x3⟩;unfold abj;rw[if_neg U];exact ar.low ho x1.size
  ·have hw:=aL (n:=i+1) j_;rw[hw];refine(HQ s c i (i+1) x w1 (hs.ext x1) hn hi j_).mono ?_;rintro e w3 ⟨s',rfl,ho,x3⟩;refine⟨s',rfl,s',rfl,?_,x1.A x3⟩;unfold abj;have:=ar.low ho x1.size;rw[aam c i x h h2]at this
   cases hm:cN x
   ·rw[hm]at this;rw[if_neg bo];exact this
   ·rw[hm]at this;rw[if_pos ⟨rfl,h,h2⟩];exact this
def afu(a b:Int):I (I a-b)=I (a-b):=by unfold IntKind.wrap;simp only[IntKind.bits,IntKind.signed,oU];split<;>split<;>split<;>simp_all<;>omega
def Oi(s:H)(l:List Rn)(i:Int)(w:au)(hs:lf w s l)(hn:Bd l.length)(hl:∀r∈l,0<=r.1)(Ik:bF l<=1099511627776)(hi:cH i): ed 241 #[s,i] w (S (T_ (cm l) i)):=by
 have tE:=lf.len hs;unfold Bd at hn;apply aid.B;refine⟨λn x y wr=>∃k:Nat,x=k/\k+n=l.length/\Ext w wr/\y=I (i-bF (l.take k))/\(i<0\/bF (l.take k)<=i),⟨l.length,0,rfl,U,Ext.M w,?_,?_⟩,?_⟩
 ·rw[show bF (l.take 0)=0 from rfl,Int.sub_zero,aL hi]
 ·rw[show bF (l.take 0)=0 from rfl];omega
 rintro n us x y wr ⟨k,rfl,hk,xr,rfl,lp⟩;have hw:=aL (n:=(k:Int)+1) j_;unfold cH at hi;have hc:∀k,((cm (l.take k)).length:Int)=bF (l.take k):=λk=>(fb λq hq=>hl q (nZ hq)).symm
 apply Z.mk<;>intro h<;>simp at h
 ·obtain⟨r,hr⟩:=bX (l:=l) (i:=k) U;have e:=pj hr;have hr0:=hl r (aQ hr);have b1:=lg hl k;have b2:=lg hl (k+1);refine⟨lf.jX hs U,_,_,lf.ll (hs.ext xr) hr,?_⟩;rintro w9 rfl br rfl;have bL:=((xr.A (Ext.al _ (.cells #[J,J] ic))).setRow xr.size #[r.1,r.2]);have hwi:=aeA (i-bF (l.take k));unfold cH at hwi;have ako:i<0->(0<=I (i-bF (l.take k))->I (i-bF (l.take k))<r.1->False):=by intro h0 h1 h2;revert h1 h2;unfold IntKind.wrap;simp only[IntKind.bits,IntKind.signed,oU];split<;>simp_all<;>omega
  have CG:0<=i->bF (l.take k)<=i->I (i-bF (l.take k))=i-bF (l.take k):=λ_ _=>wI
  have nx:(i<0\/bF (l.take (k+1))<=i)->∃n6,n6<n/\∃k_1:Nat,I ((k:Int)+1)=k_1/\k_1+n6=l.length/\Ext w ((wr.alloc (.cells #[J,J] ic)).setRow wr.heap.size #[r.1,r.2])/\
    I (I (i-bF (l.take k))-r.1)=I (i-bF (l.take k_1))/\(i<0\/bF (l.take k_1)<=i):=
   λhh=>⟨n-1,U,k+1,U,U,bL,by rw[afu,e,Int.sub_sub],hh⟩
  refine Z.mk (λh1=>Z.mk (λh2=>?_) (λh2=>?_)) (λh1=>?_)<;>simp only[cC,fg]at*
  ·rcases wO i 0 with h0|h0
   ·exact(ako h0 h1 h2).elim
   ·have hle:bF (l.take k)<=i:=by omega
    have:=CG h0 hle;have ht:l=l.take k++[r]++l.drop (k+1):=by have:=td (k+1) l;rw[dq,hr]at this;exact this.symm
    refine⟨?_,bL⟩;have hcell:cm l=cm (l.take k)++List.replicate r.1.toNat r.2++cm (l.drop (k+1)):=by rw[<-jk r,<-iw,<-iw,<-ht]
    rw[hcell,amG _ _ _ _ _ (by rw[hc];exact hle) (by rw[hc];omega)]
  ·refine nx ?_;rcases wO i 0 with h0|h0
   ·exact .inl h0
   ·have:=CG h0 U;right;omega
  ·refine nx ?_;rcases wO i 0 with h0|h0
   ·exact .inl h0
   ·have:=CG h0 U;omega
 ·obtain rfl:k=l.length:=by omega
  refine⟨?_,xr⟩;have:=hc l.length;rw[kB]at this lp;rw[aiN _ _ U]
def abk(may:Int->aX)(prev:Option Int)(left:Int)(r:Rn)(t:List Rn):kx may prev left (r::t)=if r.1<1\/r.1>left\/may r.2=false\/prev=some r.2 then false else kx may (some r.2) (left-r.1) t:=rfl
def xh(s:H)(l:List Rn)(m:Int)(w:au)(hs:lf w s l)(hn:Bd l.length)(hm:cH m): ed 287 #[s,m] w (eL (su cN l m)):=by
 have tE:=lf.len hs;unfold Bd at hn;unfold cH at hm;apply adL.B;have hprev:∀k,k<l.length->(l.take k).getLast? =if k=0 then none else l[k-1]? :=by
  intro k hk;rw[List.getLast?_eq_getElem?,qM,cS,Nat.min_eq_left U];rcases Fp k with rfl|h0
  ·simp
  ·rw[if_pos U,if_neg U]
 refine⟨λn x y wr=>∃k:Nat,x=k/\k+n=l.length/\Ext w wr/\y<=max m 0/\(min m 0<=y)/\kx cN ((l.take k).getLast?.map (·.2)) y (l.drop k)=kx cN none m l,⟨l.length,0,rfl,U,Ext.M w,U,U,rfl⟩,?_⟩;rintro n us x y wr ⟨k,rfl,hk,xr,hy,hy0,heq⟩;have hw:=aL (n:=(k:Int)+1) j_;apply Z.mk<;>intro h<;>simp at h
 ·have⟨r,hr⟩:=bX (l:=l) (i:=k) U;have hd:l.drop k=r::l.drop (k+1):=by
   rw[zV U];rw[cK U]at hr
   cases hr;rfl
  rw[hd]at heq;rw[abk]at heq;refine⟨lf.jX hs U,_,_,lf.ll (hs.ext xr) hr,?_⟩;rintro w9 rfl br rfl;have bL:=((xr.A (Ext.al _ (.cells #[J,J] ic))).setRow xr.size #[r.1,r.2]).drew;have fin:∀w',Ext w w'->(r.1<1\/r.1>y\/cN r.2=false\/(l.take k).getLast?.map (·.2)=some r.2)->Sl (.bool false)=eL (su cN l m)/\Ext w w':=by intro w' x' hh;rw[if_pos hh]at heq;refine⟨?_,x'⟩;unfold su;rw[<-heq];simp
  refine Z.mk (λh1=>?_) (λh1=>Z.mk (λh2=>?_) (λh2=>?_))<;>simp only[cC,fg]at*
  ·exact fin _ bL (.inl h1)
  ·exact fin _ bL (.inr (.inl h2))
  ·refine(gZ r.2 _).F λw3 x3=>?_
   have x4:=bL.A x3;have de:Row ((wr.alloc (.cells #[J,J] ic)).setRow wr #[r.1,r.2]).drew wr [r.1,r.2] ic:=(Row.new wr [J,J] ic).set [r.1,r.2];have hrow3:=de.ext x3;have hkeep:=x3.heap de.lt;have hll:ah w3 (O wr) 0 [r.1]:=by
    refine hrow3.y (o:=0) λj hj=>?_
    have:j=0:=a1l
    subst this;rfl
   have nx:((l.take k).getLast?.map (·.2)≠some r.2)->cN r.2=true->∃n6,n6<n/\∃k_1:Nat,I ((k:Int)+1)=k_1/\k_1+n6=l.length/\Ext w w3/\I (y-r.1)<=max m 0/\min m 0<=I (y-r.1)/\kx cN ((l.take k_1).getLast?.map (·.2)) (I (y-r.1)) (l.drop k_1)=kx cN none m l:=by
    intro gl hbm;have hwy:=aL (n:=y-r.1) j_;refine⟨n-1,U,k+1,U,U,x4,U,U,?_⟩;rw[hwy];rw[if_neg (by
     rintro(h|h|h|h)
     ·omega
     ·omega
     ·rw[hbm]at h;cases h
     ·exact gl h)]at heq
    rw[<-heq,dq,hr];simp
   refine⟨_,rfl,hkeep,hll,hll,Z.mk (λh3=>?_) (λh3=>?_)⟩
   ·exact fin _ x4 (.inr (.inr (.inl (ds h3))))
   ·have hbm:cN r.2=true:=by simpa using h3
    apply Z.mk<;>intro h4<;>simp at h4
    ·have TY:=aL (n:=(k:Int)-1) j_;rw[TY];have⟨q,hq⟩:=bX (l:=l) (i:=k-1) U;have px:=lf.jX hs (i:=k-1) U;rw[show((k-1:Nat):Int)=(k:Int)-1 from by omega]at px;have hcq:=lf.c1 (hs.ext x4) hq;have hsm:=lf.some hs (i:=k-1) U;rw[show((k:Int)-1).toNat=k-1 from by omega];have hlast:=hprev k U;rw[if_neg U,hq]at hlast;refine⟨px,cA.2 ⟨hsm,_,hcq,Z.mk (λh5=>?_) (λh5=>?_)⟩⟩
     ·exact fin _ x4 (.inr (.inr (.inr (by rw[hlast];simpa using h5))))
     ·exact nx (by rw[hlast];simpa using h5) hbm
    ·refine nx ?_ hbm;have:k=0:=by omega
     subst this;simp
 ·obtain rfl:k=l.length:=by omega
  rw[List.drop_length]at heq;apply Z.mk<;>intro h1<;>simp at h1
  ·refine⟨?_,xr⟩;unfold su;rw[<-heq,decide_eq_true h1];rfl
  ·refine⟨?_,xr⟩;unfold su;rw[decide_eq_false U];rfl
open Tryz
open Go.bW
abbrev pv(p:Po):aC:=.agg #[p.1,p.2]
abbrev fQ(c:Ce):aC:=.agg #[c.1,c.2.1,c.2.2]
abbrev rV:aB:=23
abbrev K_:aB:=139
def vx(a b:Int)(ha:cH a)(hb:0<b)(w:au):kh 239 #[a,b] w (S (a/b)):=by
 apply adh.B;have⟨h1,h2,h3,h4⟩:=tdm (a:=a) hb;have hq:=ahT ha hb;have ht:=ahU ha hb;refine Z.mk (λh=>?_) (λ_=>bO.2 ⟨yV.2 U,bO.2 ⟨yV.2 U,Z.mk (λh=>?_) (λh=>?_)⟩⟩)
 ·simp only[cC]at h;omega
 ·replace h:=lM h;rw[aL ht,<-(h1 h).1,aL hq];exact⟨rfl,rfl⟩
 ·replace h:=lW h;rw[aL ht,<-(h2 U).1];exact⟨rfl,rfl⟩
def vy(a b:Int)(hb:0<b)(hb':b<=1000000)(w:au):kh 349 #[a,b] w (S (a%b)):=by
 apply adi.B;have⟨h1,h2,h3,h4⟩:=tdm (a:=a) hb;refine Z.mk (λh=>?_) (λ_=>bO.2 ⟨yV.2 U,Z.mk (λh=>?_) (λh=>?_)⟩)
 ·simp only[cC]at h;omega
 ·replace h:=lM h;rw[wI,<-(h1 h).2];exact⟨rfl,rfl⟩
 ·replace h:=lW h;rw[<-(h2 U).2];exact⟨rfl,rfl⟩
def pQ(c:Ce):Prop:=cH c.1/\cH c.2.1/\cH c.2.2
def CZ(c:Ce)(w:au):Y 296 #[fQ c] w λe w'=>(∃i b,e=bT #[S i,.bool b]/\((b=true/\PL c/\i=idx c)\/(b=false/\¬PL c/\i=0)))/\Ext w w':=by
 apply Uj.B;intro w0 e0;have x0:=aU e0;have hb:Row w0 w [c.1,c.2.1,c.2.2] rV:=Row.nw e0;have yQ:=hb.ext (Ext.K w0);refine Z.mk (λh=>?_) (λh=>Z.mk (λh2=>?_) (λh2=>?_))<;>simp only[cC,fg]at*
 ·exact⟨⟨_,_,rfl,.inr ⟨rfl,by unfold PL;omega,rfl⟩⟩,x0⟩
 ·exact⟨⟨_,_,rfl,.inr ⟨rfl,by unfold PL;omega,rfl⟩⟩,x0⟩
 ·refine(vy c.2.2 16 X X w0.drew).V ?_;refine⟨_,rfl,rfl,yQ.y (λj hj=>a04),yQ.y (λj hj=>a04),(vy c.1 16 X X _).V ?_⟩;have e1:I (c.2.1*16)=c.2.1*16:=wI;have e2:I (c.2.1*16+c.2.2%16)=c.2.1*16+c.2.2%16:=wI;have e3:I ((c.2.1*16+c.2.2%16)*16)=(c.2.1*16+c.2.2%16)*16:=wI;have e4:I ((c.2.1*16+c.2.2%16)*16+c.1%16)=idx c:=wI;refine⟨_,rfl,rfl,yQ.y (λj hj=>a04),?_,x0.drew⟩;rw[e1,e2,e3,e4];exact⟨_,_,rfl,.inl ⟨rfl,by unfold PL;omega,rfl⟩⟩
def pS(c:Ce)(hc:pQ c)(w:au):ed 172 #[fQ c] w ((pv (pos c))):=by apply Uk.B;intro w0 e0 w1 e1;have x1:Ext w w1.drew:=((aU e0).aZ e1).drew;have z0:=fD e0;have hb:Row w1.drew w [c.1,c.2.1,c.2.2] rV:=((by rw[e0];exact Row.new w [_,_,_] _:Row w0 w [c.1,c.2.1,c.2.2] rV).ext (aU e1)).ext (Ext.K _);refine(vx c.1 16 hc.1 X w1.drew).V ?_;refine⟨_,rfl,rfl,rfl,hb.y (λj hj=>a04),(vx c.2.2 16 hc.2.2 X _).V ?_⟩;refine⟨_,rfl,rfl,rfl,λw6 e6=>⟨rfl,x1.L e6 U⟩⟩
def YP(p:Po):Prop:=(-1099511627776<=p.1/\p.1<=1099511627776)/\(-1099511627776<=p.2/\p.2<=1099511627776)
def Ul(p:Po)(hp:YP p)(i:Int)(hi:0<=i/\i<8192)(w:au):ed 338 #[pv p,i] w (bT #[fQ (cellAt p i),true]):=by apply Y0.B;have⟨⟨p1,p2⟩,p3,p4⟩:=hp;intro w0 e0 w1 e1;have z0:=fD e0;have x1:Ext w w1:=(aU e0).aZ e1;have t1:Int.tmod i 16=i%16:=FP hi.1;have t2:Int.tdiv i 256=i/256:=uI hi.1;have t3:Int.tdiv i 16=i/16:=uI hi.1;have t4:Int.tmod (i/16) 16=i/16%16:=FP U;have w1':I (i/16)=i/16:=wI;have w2':I (i/256)=i/256:=wI;have w3':I (p.1*16)=p.1*16:=wI;have w4':I (p.2*16)=p.2*16:=wI;have w5':I (p.1*16+i%16)=p.1*16+i%16:=wI;have w6':I (p.2*16+i/16%16)=p.2*16+i/16%16:=wI;rw[t1,t2,t3,w1',w2',w3',w4',t4,w5',w6'];refine Z.mk (λh=>?_) (λ_=>Z.mk (λh=>?_) (λ_ w4 e4=>⟨rfl,x1.L e4 U⟩))<;>simp only[cC]at h<;>omega
def UA(s x z:Int)(w:au):kh 372 #[s,x,z] w (vc .u64 (hash s x z)):=by apply adr.B;rw[av8,av9];exact⟨rfl,rfl⟩
def ah3(s x z:Int):I (Int.tmod (hash s x z) 9)=im s x z:=by rw[FP (ah4 s x z)];exact wI
def oy(s x z zG:Int)(hn:0<=zG/\zG<=64){b:Nat}{w:au}(hb:Row w b [s] Mr):kh 371 #[x,z,zG,b] w (S (im s x z*zG)):=by apply Ms.B;refine⟨s,by rw[hb.ld];rfl,(UA s x z w).V ?_⟩;refine⟨_,rfl,?_⟩;rw[ah3];have hc:=jv s x z;have h1:0<=im s x z*zG:=JX hc.1 hn.1;have h2:im s x z*zG<=8*64:=Int.mul_le_mul hc.2 hn.2 hn.1 X;rw[wI];exact⟨rfl,rfl⟩
def Mt(s x z:Int)(hx:cH x)(hz:cH z)(w:au):ed 339 #[s,x,z] w (vc .i64 (ground s x z)):=by
 apply UB.B;intro w0 e0;have x0:=aU e0;have hb:Row w0 w [s] Mr:=Row.nw e0;refine(vx x 8 hx X w0).mono ?_;rintro e w1 ⟨rfl,rfl⟩;refine⟨_,rfl,rfl,(vx z 8 hz X w1).mono ?_⟩;rintro e w1 ⟨rfl,rfl⟩;refine⟨_,rfl,rfl,(vy x 8 X X w1).mono ?_⟩;rintro e w1 ⟨rfl,rfl⟩;refine⟨_,rfl,rfl,(vy z 8 X X w1).mono ?_⟩;rintro e w1 ⟨rfl,rfl⟩;refine⟨_,rfl,rfl,?_⟩;have hdx:cH (x/8+1):=by unfold cH at*;omega
 have hdz:cH (z/8+1):=by unfold cH at*;omega
 have a:=uK (jv s (x/8) (z/8)) (u:=8-x%8) (v:=8-z%8) U U;have b:=uK (jv s (x/8+1) (z/8)) (u:=x%8) (v:=8-z%8) U U;have c:=uK (jv s (x/8) (z/8+1)) (u:=8-x%8) (v:=z%8) U U;have d:=uK (jv s (x/8+1) (z/8+1)) (u:=x%8) (v:=z%8) U U;have q1:I (8-x%8)=8-x%8:=wI;have q2:I (8-z%8)=8-z%8:=wI;rw[q1,q2,aL hdx,aL hdz,aL (n:=(8-x%8)*(8-z%8)) XN,aL (n:=x%8*(8-z%8)) XN,aL (n:=(8-x%8)*(z%8)) XN,aL (n:=x%8*(z%8)) XN];refine(oy s _ _ _ ⟨a.1,a.2.1⟩ hb).mono ?_;rintro e w1 ⟨rfl,rfl⟩;refine⟨_,rfl,(oy s _ _ _ ⟨b.1,b.2.1⟩ hb).mono ?_⟩;rintro e w1 ⟨rfl,rfl⟩;refine⟨_,rfl,(oy s _ _ _ ⟨c.1,c.2.1⟩ hb).mono ?_⟩;rintro e w1 ⟨rfl,rfl⟩;refine⟨_,rfl,(oy s _ _ _ ⟨d.1,d.2.1⟩ hb).mono ?_⟩;rintro e w1 ⟨rfl,rfl⟩;refine⟨_,rfl,?_,x0⟩;have hg:=JY s x z;have e1:ground s x z=6+(im s (x/8) (z/8)*((8-x%8)*(8-z%8))+im s (x/8+1) (z/8)*(x%8*(8-z%8))+im s (x/8) (z/8+1)*((8-x%8)*(z%8))+im s (x/8+1) (z/8+1)*(x%8*(z%8)))/64:=rfl;generalize im s (x/8) (z/8)*((8-x%8)*(8-z%8))=A at*;generalize im s (x/8+1) (z/8)*(x%8*(8-z%8))=B at*;generalize im s (x/8) (z/8+1)*((8-x%8)*(z%8))=C at*;generalize im s (x/8+1) (z/8+1)*(x%8*(z%8))=D at*;rw[aL (n:=A+B) XN,aL (n:=A+B+C) XN,aL (n:=A+B+C+D) XN,uI U,aL (n:=(A+B+C+D)/64) XN,<-e1,wI]
def ads(y g:Int)(hg:6<=g/\g<=100)(w:au):kh 340 #[y,g] w (S (TM y g)):=by
 apply amk.B;have q1:I (g-3)=g-3:=wI;have q2:I (g-1)=g-1:=wI;rw[q1,q2];have fin:∀{v:Int},TM y g=v->(Sl v=S (TM y g)/\w=w):=λh=>⟨by rw[h],rfl⟩
 refine Z.mk (λh1=>fin ?_) (λh1=>Z.mk (λh2=>fin ?_) (λh2=>Z.mk (λh3=>fin ?_) (λh3=>Z.mk (λh4=>fin ?_) (λh4=>Z.mk (λh5=>fin ?_) (λh5=>Z.mk (λh6=>Z.mk (λh7=>fin ?_) (λh7=>Z.mk (λh8=>fin ?_) (λh8=>Z.mk (λh9=>fin ?_) (λh9=>fin ?_)))) (λh6=>Z.mk (λh8=>fin ?_) (λh8=>Z.mk (λh9=>fin ?_) (λh9=>fin ?_))))))))
 all_goals simp only[cC,fg,beq_iff_eq,beq_eq_false_iff_ne,ne_eq]at*
 all_goals unfold TM
 all_goals (repeat' split)<;>omega
def Q7(aj:Int)(p:Po){k:Nat}(hk:k<8192):(made aj p)[k]? =some (TM (cellAt p k).2.1 (ground aj (cellAt p k).1 (cellAt p k).2.2)):=by unfold made;rw[aW,Fq hk];rfl
def amK{p:Po}(hp:YP p)(i:Int)(hi:0<=i/\i<8192):pQ (cellAt p i):=by have⟨⟨p1,p2⟩,p3,p4⟩:=hp;unfold pQ cellAt cH;simp only;omega
def v_(aj:Int)(p:Po)(k:Nat):LV:=(List.range 256).map λi:Nat=>S (if i<k then ground aj (cellAt p i).1 (cellAt p i).2.2 else 0)
def A3(aj:Int)(p:Po)(k:Nat):(v_ aj p k).length=256:=by simp[v_]
def E3(aj:Int)(p:Po)(k:Nat){i:Nat}(hi:i<256):(v_ aj p k)[i]? =some (S (if i<k then ground aj (cellAt p i).1 (cellAt p i).2.2 else 0)):=by unfold v_;rw[aW,Fq hi];rfl
def ai7(aj:Int)(p:Po){k:Nat}(hk:k<256):(v_ aj p k).set k (S (ground aj (cellAt p k).1 (cellAt p k).2.2))=v_ aj p (k+1):=by
 apply jF;intro i;rw[iS];rcases iR i 256 with h|h
 ·rw[E3 _ _ (k+1) h];split
  next e=>subst e;rw[if_pos (by rw[A3];exact h),if_pos U]
  next e=>rw[E3 _ _ k h];congr 3;exact propext ⟨λh=>by omega,λh=>by omega⟩
 ·rw[jZ (by rw[A3];exact h),jZ (by rw[A3];exact h),if_neg U]
def afj(aj:Int)(p:Po):v_ aj p 0=List.replicate 256 (S 0):=by
 apply List.ext_getElem?;intro i;rcases Nat.lt_or_ge i 256 with h|h
 ·rw[E3 _ _ 0 h,List.getElem?_replicate,if_pos h,if_neg (by omega)]
 ·rw[List.getElem?_eq_none (by rw[A3];exact h),List.getElem?_eq_none (List.length_replicate▸h)]
def FY(aj:Int)(p:Po):List (LV):=(made aj p).map λb=>[S b]
def JV(aj:Int)(p:Po):(FY aj p).length=8192:=by unfold FY;rw[aK,qR]
def ai8(aj:Int)(p:Po){k:Nat}(hk:k<8192):(made aj p)[k]? =some (TM ((k:Int)/256) (ground aj (cellAt p ((k%256:Nat):Int)).1 (cellAt p ((k%256:Nat):Int)).2.2)):=by
 rw[Q7 aj p hk];have e1:(cellAt p ((k%256:Nat):Int)).1=(cellAt p k).1:=by unfold cellAt;simp only;omega
 have e2:(cellAt p ((k%256:Nat):Int)).2.2=(cellAt p k).2.2:=by unfold cellAt;simp only;omega
 rw[e1,e2];rfl
abbrev Xd(bp bs:Nat):Nat->Prop:=λi=>i=bp\/i=bs
abbrev ak2(bp bs:Nat):aC:=.func (.func 337) #[] #[bp,bs]
attribute [local irreducible] made v_ in
def FZ(aj:Int)(p:Po)(hp:YP p)(bp bs:Nat)(W0:au)(hbp:Row W0 bp [p.1,p.2] K_)(hbs:Row W0 bs [aj] Mr): Iter ka5 (ak2 bp bs) W0 (Xd bp bs) (FY aj p):=by
 refine⟨⟨_,_,_,rfl,by kernel_rfl⟩,?_⟩;intro y B a_ Jx F0 W hB hsJ hsX yQ hRd hround h0;refine bR (by kernel_rfl) (by rfl) ?_;apply Qo.B;have same:∀{w:au}{F:Nat->Prop},(∀i,Xd bp bs i->¬F i/\i<w.heap.size/\w.heap[i]? =W0.heap[i]?)->Row w bp [p.1,p.2] K_/\Row w bs [aj] Mr:=λ{w F} h=>
  ⟨hbp.same (h bp (.inl rfl)).2.2,hbs.same (h bs (.inr rfl)).2.2⟩
 intro w0 e0;have x0:=aU e0;have z0:=fD e0;have hg0:Row w0 W (v_ aj p 0) 364:=by rw[e0,afj];exact Row.new W (List.replicate 256 (0:Int)) _
 have hF0:=yQ _ _ _ h0;have bel:∀{w:au},Ext W w->a_ 0 F0 w/\∀i,Xd bp bs i->¬F0 i/\i<w.heap.size/\w.heap[i]? =W0.heap[i]? :=λ{w} x=>
  ⟨hsJ _ _ _ _ h0 (Below.mono x hB) λi hi=>x.heap (hF0 i hi),λi hi=>by have⟨h1,h2,h3⟩:=hRd i hi;exact⟨h1,a1N x.size,(x.heap h2).trans h3⟩⟩
 refine⟨λn x wr=>Ext W wr/\W.heap.size<wr/\∃k:Nat,x=k/\k+n=256/\Row wr W (v_ aj p k) 364,⟨256,x0,U,0,rfl,U,hg0⟩,?_⟩;rintro n us x wr ⟨xr,zr,k,rfl,hk,hg⟩;apply Z.mk<;>intro hc
 ·replace hc:=lM hc;have⟨Yx,lk⟩:=same (bel xr).2;refine⟨p.1,p.2,Yx.y (λj hj=>by rw[eF]),(Ul p hp k U wr).F λw9 x9=>?_⟩;refine⟨_,_,_,_,rfl,?_⟩;intro cp yF c9 pC;have dn:Ext w9 c9:=(aU yF).L pC (ak _);have z15:c9.heap.size=w9.heap.size+1:=by rw[pC,setRow_size,yF];simp
  have z9:=x9.size;have aA6:=lk.ext (x9.A dn);refine⟨aj,by rw[aA6.ld];rfl,?_⟩;have hok:=amK hp k ⟨U,U⟩;refine(Mt aj _ _ hok.1 hok.2.2 c9).F λcP dO=>?_
  have z17:=dO.size;have aA7:=hg.ext ((x9.A dn).A dO);have hk1:((k:Int).toNat*1)=k:=by omega
  rw[hk1];have⟨p1,p2⟩:=aA7.ft (j:=k) (v:=S (ground aj (cellAt p k).1 (cellAt p k).2.2)) (by rw[A3];omega) rfl;refine⟨_,rfl,dO.k,U,U,⟨rfl,p1⟩,?_,λfm Td=>?_⟩
  ·rw[cB];intro e;have:W.heap.size=w9.heap.size:=by simpa[bM]using e
   omega
  ·have⟨q1,q2⟩:=p2 fm Td;have TY:=nE (j:=k);have akk:putCells (v_ aj p k) k [(ground aj (cellAt p k).1 (cellAt p k).2.2)]=v_ aj p (k+1):=by rw[<-ai7 aj p U];rfl
   rw[akk]at q1;exact⟨n-1,U,q2.ext (xr.A ((x9.A dn).A dO)) (λi hi=>by omega),a1N q2.size,k+1,TY,U,q1⟩
 ·replace hc:=lW hc;have aug:k=256:=by omega
  subst aug;have⟨hJr,hKr⟩:=bel xr;refine⟨λn x wr=>∃(k:Nat)(F:Nat->Prop),x=k/\k+n=8192/\B<=wr/\W.heap.size<wr/\¬F W/\a_ k F wr/\Row wr W (v_ aj p 256) 364,
   ⟨8192,0,F0,rfl,U,U,zr,λhf=>a1N (hF0 _ hf),hJr,hg⟩,?_⟩
  rintro n us x wq ⟨k,F,rfl,hk,hBq,hzq,hnF,hJq,hgq⟩;apply Z.mk<;>intro hc
  ·replace hc:=lM hc;have t1:Int.tmod (k:Int) 256=((k%256:Nat):Int):=by rw[FP U];omega
   have t2:I (Int.tdiv (k:Int) 256)=(k:Int)/256:=by rw[uI U,wI]
   rw[t1,t2];have hk1:(((k%256:Nat):Int).toNat*1)=k%256:=by omega
   rw[hk1];have gd:=E3 aj p 256 (i:=k%256) U;rw[if_pos U]at gd;refine⟨U,U,_,hgq.at _ gd,(ads _ _ (JY _ _ _) wq).V ?_⟩;refine⟨_,rfl,?_⟩;have hx:(FY aj p)[k]? =some [S (TM ((k:Int)/256) (ground aj (cellAt p ((k%256:Nat):Int)).1 (cellAt p ((k%256:Nat):Int)).2.2))]:=by unfold FY;rw[aW,ai8 aj p U];rfl
   refine bJ (hround _ _ _ _ hx hJq) ?_;have TY:=nE (j:=k);rintro e gI (⟨rfl,F2,WH,gm⟩|⟨rfl,F2,WH,gm⟩)
   ·refine⟨true,rfl,Z.mk (λh=>by cases h) (λ_=>⟨n-1,U,k+1,F2,TY,U,a0F,a0F,λhf=>?_,WH,hgq.same (gm.same _ hzq hnF)⟩)⟩;rcases gm.sub _ hf with hf|hf
    ·exact hnF hf
    ·omega
   ·exact⟨false,rfl,Z.mk (λ_=>⟨⟨_,rfl⟩,.inr ⟨F2,WH⟩⟩) (λh=>by cases h)⟩
  ·replace hc:=lW hc;have hk8:k=8192:=by omega
   subst hk8;exact⟨⟨_,rfl⟩,.inl ⟨F,by rw[JV];exact hJq⟩⟩
def FX(aj:Int)(p:Po)(w:au):Y 289 #[aj,pv p] w λe w'=>e=(ak2 (w+1) w)/\Row w' (w+1) [p.1,p.2] K_/\Row w' w [aj] Mr/\Ext w w':=by apply Zw.B;intro w0 e0 w1 e1;have z0:=fD e0;have x1:=aU e1;have hb:Row w0 w [aj] Mr:=Row.nw e0;refine⟨by rw[z0],?_,hb.ext x1,(aU e0).A x1⟩;rw[<-z0,e1];exact Row.new w0 [_,_] _
def Y6(s:H)(c:ab)(w:au)(hs:OwC 0 w s c):Y 291 #[s] w λe w'=>(∃s':H,e=s'/\Ut w s' c)/\w'=w:=by
 apply DJ.B;have hn:=Ut.len hs.rdc;have afV:s.n<=s.c:=by
  rcases ar.form hs X with⟨h,-⟩|⟨g0,cs,ha,hg0,hr,hc,Is,-⟩
  ·rw[h];exact ak _
  ·exact Is
 have:=RdK.cut hs.rdc (m:=s.n) (c':=s.n) (c'':=s.n) (by rw[aK];omega);rw[dN (by rw[aK];omega)]at this;exact⟨U,U,U,U,⟨⟨aE s.a 0 s.n 1,s.n,s.n⟩,rfl,this⟩,rfl⟩
attribute [local irreducible] made in
def C1(aj:Int)(p:Po)(hp:YP p)(w:au):Y 234 #[aj,pv p] w λe w'=>∃s':H,e=s'/\wL w w' s' (iC (made aj p))/\Ext w w':=by
 apply Y7.B;intro w0 e0 w1 e1;have z0:=fD e0;have z1:w1.heap.size=w.heap.size+2:=by rw[e1];simp[z0]
 have lq:Ext w w1:=(aU e0).aZ e1;refine(FX aj p w1).mono ?_;rintro e w2 ⟨rfl,hbp,hbs,x2⟩;have fK:=hbp.lt;have xx:=lq.A x2;have zz:=xx.size;refine⟨_,rfl,x2.k,x2.k,?_⟩;refine⟨FY aj p,Xd (w1.heap.size+1) w1.heap.size,λ_=>False,λn F s w'=>(∀i,F i↔s.D=some i)/\OwC (w2.heap.size+2) w' s ((made aj p).take n)/\Ext w w'/\w2.heap.size+2<=w'.heap.size,λ_ _ _ _=>False,
  ?_,?_,λ_ _ _ _ _ h=>h.elim,?_,λ_ _ _ _ h=>h.elim,λi hi=>⟨a1r,id,a1r,a1r,trivial⟩,?_,?_,?_,trivial⟩
 ·intro x hx;obtain⟨b,_,rfl⟩:=bc.1 hx;exact⟨b,rfl⟩
 ·rintro n F s w3 w4 ⟨hF,ho,kQ,hz⟩ hbl2 hsame;exact⟨hF,ar.aV ho λi hi=>hsame i ((hF i).2 hi),kQ.trans (Below.mono hbl2 zz),a1N hbl2.size⟩
 ·rintro n F s w3 ⟨hF,ho,kQ,hz⟩ i hi;have:=ho.own.lt ((hF i).1 hi);omega
 ·intro w3 vt;have anC:Below w2 w2 w3:=vt.ext;refine⟨FZ aj p hp _ _ w3 (hbp.ext anC) (hbs.ext anC),rfl,?_,?_,xx.trans (Below.mono anC zz),a1N vt.size⟩
  ·intro i;simp[H.D]
  ·rw[JO];exact ar.nil
 ·rintro n F us o y w3 hx hI;have hy:(made aj p)[n]? =some y:=by
   unfold FY at hx;rw[aW,wM]at hx;have⟨b,hb,e⟩:=hx;have:b=y:=by simpa using e
   rw[<-this];exact hb
  refine⟨Below.refl _ _,λw4 fL hI3=>?_⟩;have⟨hF,ho,kQ,hz⟩:=hI3;intro w5 e5;have x5:=aU e5;have z5:=fD e5;have hnl:n<8192:=by have:=(cG.1 hy).1;rw[qR]at this;exact this
  have hon:=Ut.len ho.rdc;rw[cS,qR]at hon;have⟨hp1,bq⟩:=(ar.ext ho x5).append (bytes:=8) (news:=iv y) U rfl (wE _ _) U U;refine⟨hp1,λs5 w6 hr=>?_⟩;have⟨ho5,hn5,xb,TU,iK⟩:=bq s5 w6 hr;have Ow:∀i,o.D=some i->w2.heap.size+2<=i/\i<w4.heap.size:=λi hi=>ho.own.lt hi
  have hz6:=xb.size;refine⟨TU _ (λhb=>a1N (Ow _ hb)) U,TU _ (λhb=>a1N (Ow _ hb)) U,TU _ (λhb=>a1N (Ow _ hb)) U,?_⟩;intro w7 hw7;have e7:∀i,i≠w0.heap.size->w7.heap[i]? =w6.heap[i]? :=λi hi=>by rw[hw7];exact setRow_other _ _ _ _ hi
  have z7:w7.heap.size=w6.heap.size:=by rw[hw7,setRow_size]
  have hb5:∀i,s5.D=some i->w2.heap.size+2<=i:=λi hi=>by
   rcases iK with h|h
   ·exact(Ow i (h▸hi)).1
   ·rw[h]at hi;simp at hi;omega
  refine⟨λi=>s5.D=some i,⟨rfl,λi=>Iff.rfl,?_,?_,U⟩,Step.late ⟨?_,U,?_⟩⟩
  ·have e:(made aj p).take (n+1)=(made aj p).take n++[y]:=by rw[dq,hy];rfl
   rw[e];have h5:OwC (w2.heap.size+2) w6 s5 ((made aj p).take n++[y]):=by show ar _ _ 1 _ _ (((made aj p).take n++[y]).map iv);rw[cl];exact ho5
   exact ar.aV h5 λi hi=>e7 i (a1N (hb5 i hi))
  ·have h5:Ext w w6:=(kQ.A x5).trans (Below.mono xb U);rw[hw7];exact h5.setRow U _
  ·rintro i (hi|hi)
   ·rcases iK with h|h
    ·exact .inl (.inl ((hF i).2 (h▸hi)))
    ·rw[h]at hi;simp at hi;exact .inr U
   ·exact .inl (.inr hi)
  ·intro i hi hni;have h1:i≠w0.heap.size:=λe=>hni (.inr (by simp[e]))
   rw[e7 i h1,TU i (λhb=>hni (.inl ((hF i).2 hb))) U];exact x5.heap hi
 ·rintro F us o w3 ⟨hF,ho,kQ,hz⟩ hD;rw[JV,dN (by rw[qR];exact ak _)]at ho;refine(Y6 o (made aj p) w3 (ar.low ho (eG _))).mono ?_;rintro e w4 ⟨⟨s4,rfl,hs4⟩,rfl⟩;refine⟨s4,rfl,rfl,rfl,(Mj s4 (made aj p) w4 hs4 (by rw[qR];decide)).mono ?_⟩;rintro e w5 ⟨s5,rfl,ho5,x5⟩;refine⟨s5,rfl,x5.k,x5.k,(x5.k).trans hD,λw6 fL=>?_⟩;have hz5:=x5.size;have ho6:wL w w6 s5 (iC (made aj p)):=ar.low (ar.aV ho5 λi hi=>fL.same i (a1N ((ho5.own.lt hi).1))) U;exact⟨s5,rfl,ho6,(kQ.A x5).trans (Below.mono (fL.below (ak _)) U)⟩
abbrev xY:aB:=148
structure Ja(w:au)(g:Nat)(s:H)(p:Po)(C:ab):Prop where
 row:Row w g [p.1,p.2,s] xY
 own:wL 0 w s (iC C)
 len:C.length=8192
 may:∀b∈C,cN b=true
section
variable{w w':au}{g:Nat}{s:H}{p:Po}{C:ab}(h:Ja w g s p C)
def Ja.aV{F:Nat->Prop}(hm:Mod F w w')(hg:¬F g)(hs:∀b,s.D=some b->¬F b):Ja w' g s p C:=
 ⟨hm.row h.row hg,hm.gR h.own hs,h.len,h.may⟩
def Ja.ext(x:Ext w w'):Ja w' g s p C:=⟨h.row.ext x,ar.ext h.own x,h.len,h.may⟩
def Ja.bd:Bd C.length:=by rw[h.len];decide
def Q8(p:Po)(c:Ce):aX:=decide (0<=c.2.1)&&decide (c.2.1<32)&&(pos c==p)
def EX(p:Po)(c:Ce):Q8 p c=true↔PL c/\pos c=p:=by unfold Q8 PL;simp only[fF,cC,beq_iff_eq]
def Z3(p:Po)(C:ab)(c:Ce):Int:=if Q8 p c then T_ C (idx c)else 0
def tV(p:Po)(C:ab)(c:Ce)(b:Int):ab×Int:=if Q8 p c=false then(C,5)else if cN b=false then(C,1)else(C.set (idx c).toNat b,0)
def index_spec(p:Po)(c:Ce)(hc:pQ c)(w:au):Y 240 #[pv p,fQ c] w λe w'=>(∃i,e=bT #[S i,.bool (Q8 p c)]/\(Q8 p c=true->i=idx c))/\Ext w w':=by
 apply zN.B;intro w0 e0 w1 e1;have z0:=fD e0;have z1:w1.heap.size=w.heap.size+2:=by rw[e1];simp[z0]
 have x1:Ext w w1:=(aU e0).aZ e1;have hb:Row w1 w [p.1,p.2] 145:=(by rw[e0];exact Row.new w [_,_] _:Row w0 w [p.1,p.2] 145).ext (aU e1);refine(CZ c w1).mono ?_;rintro e w2 ⟨⟨i,b,rfl,hi⟩,x2⟩;have z2:=x2.size;refine⟨i,b,rfl,x2.k,x2.k,Z.mk (λhbb=>?_) (λhbb=>?_)⟩
 ·rcases hi with⟨-,hy,rfl⟩|⟨h,-⟩
  ·refine(pS c hc w2.drew).F λw5 x5=>?_
   refine⟨_,_,rfl,x5.heap (show w.heap.size<w2 by omega),x5.heap (show w0.heap.size<w2 by omega),((hb.ext x2).ext (Ext.K _)|>.ext x5).y (λj hj=>by rw[eF]),?_,(x1.A x2).A ((Ext.K _).A x5)⟩;refine⟨_,?_,λ_=>rfl⟩;have:Q8 p c=(((pos c).1==p.1)&&((pos c).2==p.2)):=by unfold Q8;unfold PL at hy;rw[decide_eq_true hy.1,decide_eq_true hy.2];rfl
   rw[this]
  ·rw[h]at hbb;cases hbb
 ·rcases hi with⟨h,-⟩|⟨-,hy,rfl⟩
  ·rw[h]at hbb;cases hbb
  ·have:Q8 p c=false:=by
    cases hk:Q8 p c with
    |false=>rfl
    |true=>exact absurd ((EX p c).1 hk).1 hy
   rw[this];exact⟨⟨_,rfl,λh=>by cases h⟩,(x1.A x2).drew⟩
def ajg(y g:Int):cN (TM y g)=true:=by rcases aae y g with h|h|h|h|h<;>rw[h]<;>decide+kernel
def afy(aj:Int)(p:Po):∀b∈made aj p,cN b=true:=by intro b hb;unfold made at hb;obtain⟨i,_,rfl⟩:=bc.1 hb;exact ajg _ _
def U0(aj:Int)(p:Po)(hp:YP p)(w:au):Y 163 #[aj,pv p] w λe w'=>∃g s,e=dr (O g)/\Ja w' g s p (made aj p)/\Ext w w'/\w.heap.size<=g/\∀b,s.D=some b->w.heap.size<=b:=by
 apply UW.B;intro w0 e0;have x0:=aU e0;have z0:=fD e0;have hb:Row w0 w [p.1,p.2] K_:=Row.nw e0;have fin:∀{w1 w3:au}{s:H},Ext w0.drew w1->wL w0.drew.heap.size w1 s (iC (made aj p))->w3=w1.alloc (.cells #[p.1,p.2,.slice s.a s.n s.c] xY)->Ja w3 w1 s p (made aj p)/\Ext w w3/\w.heap.size<=w1/\∀b,s.D=some b->w.heap.size<=b:=λ{w1 w3 s} x1 ho e3=>by have x3:=aU e3;refine⟨⟨by rw[e3];exact Row.new w1 [_,_,_] _,(ar.low ho (eG _)).ext x3,qR _ _,afy _ _⟩,((x0.drew).A x1).A x3,(x0.drew.A x1).size,λb hb=>cV x0.drew.size (ho.own.lt hb).1⟩
 refine⟨(C1 aj p hp w0.drew).mono ?_,(C1 aj p hp w0.drew).mono ?_⟩
 ·rintro e w1 ⟨s,rfl,ho,x1⟩;refine⟨s,rfl,x1.heap (show w.heap.size<w0 by omega),λw3 e3=>⟨_,s,rfl,fin x1 ho e3⟩⟩
 ·rintro e w1 ⟨s,rfl,ho,x1⟩;refine⟨s,rfl,x1.heap (show w.heap.size<w0 by omega),((hb.ext (Ext.K _)).ext x1).y (λj hj=>by rw[eF]),λw3 e3=>⟨_,s,rfl,fin x1 ho e3⟩⟩
end
section
variable{w:au}{g:Nat}{s:H}{p:Po}{C:ab}(h:Ja w g s p C)
def Ja.pos:ah w (N (O g) 0) 0 [p.1,p.2]:=by
 rw[aF];exact h.row.y (λj hj=>by
  simp at hj;rcases j with _|_|j
  ·rfl
  ·rfl
  ·omega)
def abD(h:C.length=8192):(∀r∈iC C,0<=r.1)/\bF (iC C)<=1099511627776/\Bd (iC C).length:=by refine⟨λr hr=>a1N ((oA hr).1),by rw[nj,h];decide,?_⟩;have:=sa C;show(iC C).length<=1099511627776;omega
def EW(c:Ce)(hc:pQ c):ed 173 #[g,fQ c] w (bT #[(Z3 p C c),.bool (Q8 p c)]):=by
 apply Gt.B;intro w0 e0;have x0:Ext w w0.drew:=(Ext.M w|>.aZ e0).drew;have z0:=fD e0;have h0:=h.ext x0;refine⟨p.1,p.2,h0.pos,(index_spec p c hc w0.drew).mono ?_⟩;rintro e w3 ⟨⟨i,rfl,hi⟩,x3⟩;have h3:=h0.ext x3;have z3:=x3.size;refine⟨i,_,rfl,x3.heap (show w.heap.size<w0 by omega),Z.mk (λhb=>?_) (λhb=>?_)⟩
 ·have hf:Q8 p c=false:=by simpa using hb
  refine⟨?_,x0.A x3⟩;unfold Z3;rw[hf];rfl
 ·have hk:Q8 p c=true:=by simpa using hb
  have hie:=hi hk;subst hie;have jC:=aep ((EX p c).1 hk).1;have⟨q1,q2,q3⟩:=abD h.len;refine⟨s,h3.row.at 2 rfl,(Oi s (iC C) (idx c) w3 (wL.Iq h3.own) q3 q1 q2 j_).F λw7 x7=>?_⟩;refine⟨_,rfl,x7.heap (gK (show w.heap.size<w0 by omega) z3),?_,(x0.A x3).A x7⟩;rw[oK];unfold Z3;rw[hk];rfl
def ajv(hl:C.length=8192)(hm:∀b∈C,cN b=true)(c:Ce)(b:Int):(tV p C c b).1.length=8192/\∀x∈(tV p C c b).1,cN x=true:=by
 unfold tV;split
 ·exact⟨hl,hm⟩
 ·split
  ·exact⟨hl,hm⟩
  ·rename_i h;refine⟨by rw[lO];exact hl,λx hx=>?_⟩;rcases pY hx with h1|h1
   ·exact hm x h1
   ·subst h1;simpa using h
def aei(c:Ce)(hc:pQ c)(b:Int): Y 352 #[g,fQ c,b] w λe w'=>e=S (tV p C c b).2/\∃s',Ja w' g s' p (tV p C c b).1/\Mod (λi=>i=g) w w'/\(∀i,s'.D=some i->s.D=some i\/w.heap.size<=i):=by
 apply DX.B;intro w0 e0;have x0:Ext w w0.drew:=(Ext.M w|>.aZ e0).drew;have z0:=fD e0;have hgl:=h.row.lt;have h0:=h.ext x0;refine⟨p.1,p.2,h0.pos,(index_spec p c hc w0.drew).mono ?_⟩;rintro e w3 ⟨⟨i,rfl,hi⟩,x3⟩;have h3:=h0.ext x3;have z3:=x3.size;have z3':w.heap.size<w3:=gK (show w.heap.size<w0 by omega) z3;refine⟨i,_,rfl,x3.heap (show w.heap.size<w0 by omega),Z.mk (λhb=>?_) (λhb=>?_)⟩
 ·have hf:Q8 p c=false:=by simpa using hb
  have e:tV p C c b=(C,5):=by unfold tV;rw[if_pos hf]
  rw[e];exact⟨rfl,s,h3,Mod.P (x0.A x3),λi hi=>.inl hi⟩
 ·have hk:Q8 p c=true:=by simpa using hb
  have hie:=hi hk;subst hie;have jC:=aep ((EX p c).1 hk).1;refine(gZ b w3).F λw6 x6=>?_
  have h6:=h3.ext x6;have z6:=x6.size;refine⟨_,rfl,x6.heap z3',Z.mk (λlk=>?_) (λlk=>?_)⟩
  ·have hf:cN b=false:=by simpa using lk
   have e:tV p C c b=(C,1):=by unfold tV;rw[if_neg (by simp[hk]),if_pos hf]
   rw[e];exact⟨rfl,s,h6,Mod.P ((x0.A x3).A x6),λi hi=>.inl hi⟩
  ·have hm:cN b=true:=by simpa using lk
   have e:tV p C c b=(C.set (idx c).toNat b,0):=by unfold tV;rw[if_neg (by simp[hk]),if_neg (by simp[hm])]
   refine⟨s,h6.row.at 2 rfl,(Jn s C (idx c) b w6 (wL.Iq h6.own) h.bd j_).mono ?_⟩;rintro e9 w9 ⟨s10,rfl,ho,x9⟩;have hs:abj C (idx c) b=C.set (idx c).toNat b:=by unfold abj;rw[if_pos ⟨hm,jC.1,by rw[h.len];omega⟩]
   rw[hs]at ho;have⟨p1,p2⟩:=(h6.row.ext x9).ft (j:=2) (v:=.slice s10.a s10.n s10.c) bo rfl;refine⟨s10,rfl,x9.k,⟨rfl,p1⟩,?_,λbE A8=>?_⟩
   ·rw[cB];intro e;have:g=w.heap.size:=by simpa[bM]using e
    omega
   ·have⟨q1,q2⟩:=p2 bE A8;have hok:=ajv (p:=p) h.len h.may c b;rw[e]at hok⊢;refine⟨rfl,s10,⟨q1,q2.gR (ar.low ho (eG _)) λi hi hf=>?_,hok.1,hok.2⟩,(Mod.P (((x0.A x3).A x6).A x9)).trans q2,λi hi=>.inr ?_⟩
    ·have⟨cs,hr⟩:=aT ho X hi;exact hr.ne (h6.row.ext x9) X hf
    ·have:=(ho.own.lt hi).1;have:=(x0.A x3).size;omega
def xF(p:Po)(w:au):ed 74 #[pv p] w ((pv p)):=by apply zM.B;intro w0 e0 w1 e1 w2 e2;have z0:=fD e0;exact⟨rfl,((aU e0).aZ e1).L e2 U⟩
end
open Go.Code
abbrev jG:aB:=5
abbrev yv(b:Int):LV:=[.int .u8 b]
abbrev jd(w:au)(s:H)(b:ab):Prop:=RdK w s 1 (b.map yv)
abbrev nY(B:Nat)(w:au)(s:H)(b:ab):Prop:=ar B jG 1 w s (b.map yv)
abbrev J'(b:ab):Prop:=∀c∈b,0<=c/\c<256
section
variable{w:au}{s:H}{c:ab}
def nY.FC{B:Nat}(h:nY B w s c):jd w s c:=ar.rd h U
def jd.len(h:jd w s c):s.n=c.length:=a1t
variable{l:ab}{i:Nat}{b:Int}(h:jd w s l)
def jd.c0(hi:l[i]? =some b):ld w (N s.a (i*1))=some (.int .u8 b):=by have:=h.rd i (yv b) (by rw[aW,hi];rfl) 0 _ rfl;simpa using this
def jd.jX(hi:i<l.length):gD s.a (i:Int) s.n:=RdK.jX h U U (a1N (jd.len h))
def jd.ll:ah w s.a 0 (l.map (vc .u8)):=
 PA λj v hj=>by rw[aW,wM]at hj;obtain⟨b,hb,rfl⟩:=hj;have:=jd.c0 h hb;simpa using this
def str_inj{b:ab}(hb:J' b)(hc:J' c):strOfNums b=strOfNums c↔b=c:=by
 refine⟨λh=>?_,λh=>by rw[h]⟩;have e:b.map (λn=>UInt8.ofNat n.toNat)=c.map λn=>UInt8.ofNat n.toNat:=by have:=congrArg (λs:aq=>s.data.toList) h;simpa[strOfNums]using this
 clear h
 induction b generalizing c with
 |nil=>cases c with
  |nil=>rfl
  |cons y c=>simp at e
 |cons x b ih=>cases c with
  |nil=>simp at e
  |cons y c=>
   simp only[eH,List.cons.injEq]at e;have h1:=hb x (.head _);have h2:=hc y (.head _);have h3:=congrArg UInt8.toNat e.1;simp at h3;rw[show x=y from by omega,ih (λq hq=>hb q (.tail _ hq)) (λq hq=>hc q (.tail _ hq)) e.2]
def aab(s t:H)(b c:ab)(w:au)(hs:jd w s b)(ht:jd w t c)(hb:J' b)(hc:J' c): Y 38 #[s,t] w λe w'=>e=.returned (.bool (decide (b=c)))/\w'=w:=by
 apply ad5.B;refine⟨b,(jd.len hs).symm,jd.ll hs,c,(jd.len ht).symm,jd.ll ht,?_,rfl⟩;have:gu (strOfNums b) (strOfNums c)=decide (b=c):=by rw[Bool.eq_iff_iff,kD,str_inj hb hc,decide_eq_true_iff]
 rw[this]
def Cw(n:Int)(w:au)(hi:cH n): Y 348 #[n] w λe w'=>∃s:H,e=s/\nY w w' s (qv n)/\Ext w w':=by
 apply Qq.B;refine Z.mk (λh=>?_) (λh=>Z.mk (λh2=>?_) (λh2=>?_))<;>simp only[cC,fg]at*
 ·exact⟨⟨none,0,0⟩,rfl,by unfold qv;rw[if_pos (.inl h)];exact ar.nil,Ext.M w⟩
 ·exact⟨⟨none,0,0⟩,rfl,by unfold qv;rw[if_pos (.inr h2)];exact ar.nil,Ext.M w⟩
 have e0:qv n=vY 3 n:=by unfold qv;rw[if_neg U]
 rw[e0];refine⟨λm x o wr=>∃(k:Nat)(b:ab),k=m/\1<=k/\k<=3/\0<=x/\x<128^k/\b.length+k=3/\Ext w wr/\nY w wr o b/\b++vY k x=vY 3 n,⟨3,3,[],rfl,U,U,U,U,rfl,Ext.M w,ar.nil,rfl⟩,?_⟩;rintro m us x o wr ⟨k,b,rfl,k1,k3,hx0,hx,yG,xr,ho,heq⟩;have hon:=jd.len (nY.FC ho);apply Z.mk<;>intro h3<;>simp only[cC,fg]at h3
 ·obtain⟨j,rfl⟩:∃j,k=j+1:=⟨k-1,U⟩;rintro w7 rfl;rw[aqQ x hx0];have⟨hp,bq⟩:=ar.l6 ho (bytes:=1) (news:=yv (128+x%128)) (.cells #[.int .u8 (128+x%128)] jG) xr.size rfl (wE _ _) U U;refine⟨hp,λs17 dA hr'=>?_⟩;have⟨k1',ho',_,xb,_,_⟩:=bq s17 dA hr';have aAy:x.fdiv (2^(min (7:Int).toNat 64))=x/128:=by rw[show((2:Int)^(min (7:Int).toNat 64))=128 from by decide];exact tj _ U
  rw[aAy];have hj:1<=j:=by
   rcases Fp j with rfl|h
   ·simp at hx;omega
   ·exact h
  refine⟨k1',j,U,j,b++[128+x%128],rfl,hj,U,U,?_,by simp;omega,xr.trans xb,?_,?_⟩
  ·rw[Int.pow_succ]at hx;omega
  ·show ar _ _ 1 _ _ ((b++[128+x%128]).map yv);rw[cl];exact ho'
  ·rw[<-heq];show _=b++(if x<128 then [x]else(128+x%128)::vY j (x/128));rw[if_neg U];simp
 ·rintro w7 rfl;have hwx:qH x=x:=by rw[wrap_u8];omega
  rw[hwx];have⟨hp,bq⟩:=ar.l6 ho (bytes:=1) (news:=yv x) (.cells #[.int .u8 x] jG) xr.size rfl (wE _ _) U U;refine⟨hp,λs17 dA hr'=>?_⟩;have⟨k1',ho',_,xb,_,_⟩:=bq s17 dA hr';refine⟨k1',s17,rfl,?_,xr.trans xb⟩;rw[<-heq];obtain⟨j,rfl⟩:∃j,k=j+1:=⟨k-1,U⟩;show ar _ _ 1 _ _ ((b++(if x<128 then [x]else(128+x%128)::vY j (x/128))).map yv);rw[if_pos U,cl];exact ho'
end
def drop_cons{α:Type}{l:List α}{k:Nat}{c:α}(h:l[k]? =some c):l.drop k=c::l.drop (k+1):=by have⟨h1,h2⟩:=cG.1 h;rw[zV h1,h2]
def Cb(s:H)(b:ab)(w:au)(hs:jd w s b)(hb:J' b)(hc:s.n<=s.c): kh 286 #[s] w (bT #[S (fA b).1,S (fA b).2.1,S (fA b).2.2]):=by
 have hn:=jd.len hs;apply Ql.B;have em:(if 3<((s.n:Nat):Int)then 3 else((s.n:Nat):Int))=((min 3 s.n:Nat):Int):=by split<;>omega
 rw[em];refine⟨U,U,?_⟩;refine⟨λn x y wr=>∃k:Nat,x=k/\k+n=min 3 s.n/\wr=w/\0<=y/\y<128^k/\sk (3-k) k y (b.drop k)=fA b,⟨min 3 s.n,0,rfl,U,rfl,U,U,rfl⟩,?_⟩;rintro n us x y wr ⟨k,rfl,hk,rfl,y0,y1,heq⟩;have hw:=aL (n:=(k:Int)+1) j_;apply Z.mk<;>intro h<;>simp only[cC,fg]at h
 ·have⟨c,hcb⟩:=bX (l:=b) (i:=k) U;have hci:=hb c (aQ hcb);rw[drop_cons hcb,show 3-k=(2-k)+1 from by omega,zJ]at heq;have px:=jd.jX hs (i:=k) U;have⟨o1,o2⟩:=amm k U y c y0 y1 hci.1 hci.2;have hp:=adt k y c y1;have hp0:0<=(128:Int)^k:=Int.pow_nonneg U;have hm0:0<=c%128*128^k:=JX U hp0;refine⟨⟨?_,U,U⟩,c,?_,?_⟩
  ·have:=px.1;unfold aE;split
   ·exact this
   ·rw[Option.isSome_map];exact this
  ·rw[uD];exact jd.c0 hs hcb
  ·rw[o1,hw];refine ahG.2 ⟨o2,?_⟩;apply Z.mk<;>intro h1<;>simp only[cC,fg]at h1
   ·rw[if_pos h1]at heq;exact⟨n-1,U,k+1,U,U,rfl,U,hp,by rw[show 3-(k+1)=2-k from by omega];exact heq⟩
   ·rw[if_neg h1]at heq;refine Z.mk (λh2=>Z.mk (λh3=>?_) (λh3=>Z.mk (λh4=>?_) (λh4=>?_))) (λh2=>Z.mk (λh4=>?_) (λh4=>?_))<;>simp only[cC,fg,beq_iff_eq,beq_eq_false_iff_ne]at*
    ·rw[if_pos (.inl ⟨h2,U⟩)]at heq;exact⟨by rw[<-heq],a0f⟩
    ·rw[if_pos (.inr h4)]at heq;exact⟨by rw[<-heq],a0f⟩
    ·rw[if_neg U]at heq;exact⟨by rw[<-heq],a0f⟩
    ·rw[if_pos (.inr h4)]at heq;exact⟨by rw[<-heq],a0f⟩
    ·rw[if_neg U]at heq;exact⟨by rw[<-heq],a0f⟩
 ·have hkm:k=min 3 s.n:=by omega
  apply Z.mk<;>intro h2<;>simp only[cC,fg]at h2
  ·have:b.drop k=[]:=List.drop_eq_nil_of_le U;rw[this,show 3-k=(2-k)+1 from by omega]at heq;exact⟨by rw[<-heq];rfl,a0f⟩
  ·rw[show 3-k=0 from by omega]at heq;exact⟨by rw[<-heq];rfl,a0f⟩
abbrev ak5(B:Nat)(l:List Rn)(e:Ending)(w':au):Prop:=
 ∃s:H,e=bT #[s,S (if okW cN l then 0 else 1)]/\nY B w' s (if okW cN l then r6 l else [])
def aa5(left:Int)(r:Rn)(t:List Rn):Ge left (r::t)=if r.1<1\/r.1>left then false else Ge (left-r.1) t:=rfl
def D6(s:H)(l:List Rn)(w:au)(hs:lf w s l)(hb:l.length<=2000000)(hl:∀r∈l,cH r.1/\cH r.2): Y 295 #[s] w λe w'=>ak5 w l e w'/\Ext w w':=by
 have tE:=lf.len hs;apply UT.B;refine⟨λn x y wr=>∃k:Nat,x=k/\k+n=l.length/\Ext w wr/\0<=y/\y<=1048576/\y=1048576-bF (l.take k)/\Ge y (l.drop k)=Ge 1048576 l,⟨l.length,0,rfl,U,Ext.M w,U,U,rfl,rfl⟩,?_⟩;rintro n us x y wr ⟨k,rfl,hk,xr,y0,y1,hy,heq⟩;have hw:=aL (n:=(k:Int)+1) j_;apply Z.mk<;>intro h<;>simp only[cC,fg]at h
 ·have⟨r,hr⟩:=bX (l:=l) (i:=k) U;have hd:=drop_cons hr;rw[hd,aa5]at heq;refine⟨lf.jX hs U,_,_,lf.ll (hs.ext xr) hr,?_⟩;rintro w9 rfl br rfl;have bL:=((xr.A (Ext.al _ (.cells #[J,J] ic))).setRow xr.size #[S r.1,S r.2]);have bad:∀w',Ext w w'->(r.1<1\/r.1>y)->ak5 w l (.returned (.tuple #[.slice none 0 0,(1:Int)])) w'/\Ext w w':=by
   intro w' x' hh;rw[if_pos hh]at heq;have:okW cN l=false:=by unfold okW;rw[<-heq];rfl
   exact⟨⟨⟨none,0,0⟩,by rw[this];rfl,by rw[this];exact ar.nil⟩,x'⟩
  refine Z.mk (λh1=>?_) (λh1=>Z.mk (λh2=>?_) (λh2=>?_))<;>simp only[cC,fg]at h1
  ·exact bad _ bL (.inl h1)
  ·replace h2:=lM h2;have Yu:=hl r (aQ hr);unfold cH at Yu;have yE:=aL (n:=y-r.1) j_;exact bad _ bL (.inr U)
  ·replace h2:=lW h2;have Yu:=hl r (aQ hr);unfold cH at Yu;have yE:=aL (n:=y-r.1) j_;rw[if_neg U]at heq;have e:=pj hr;refine⟨n-1,U,k+1,U,U,bL,U,U,U,?_⟩;rw[<-heq,yE]
 ·have Yv:k=l.length:=by omega
  subst Yv;rw[List.drop_length]at heq;rw[kB]at hy;have auC:Ge 1048576 l=true:=by rw[<-heq];rfl
  have CG:=(P5 auC).1;refine(qD s l wr (hs.ext xr) (by unfold Bd;omega) (λr hr=>a1N (CG r hr)) U).F λw0 x0=>?_
  refine⟨_,rfl,(xh s l (bF l) w0 ((hs.ext xr).ext x0) (by unfold Bd;omega) j_).F λw1 x1=>?_⟩;have hok:okW cN l=su cN l (bF l):=by unfold okW;rw[auC];rfl
  have lq:=(xr.A x0).A x1;refine⟨_,rfl,Z.mk (λh2=>?_) (λh2=>?_)⟩
  ·have:okW cN l=false:=by rw[hok];simpa using h2
   exact⟨⟨⟨none,0,0⟩,by rw[this];rfl,by rw[this];exact ar.nil⟩,lq⟩
  ·have auD:okW cN l=true:=by rw[hok];simpa using h2
   refine⟨λn x o wr=>∃k:Nat,x=k/\k+n=l.length/\Ext w wr/\nY w wr o (r6 (l.take k)),⟨l.length,0,rfl,U,lq,ar.nil⟩,?_⟩;rintro n2 Bn x2 o w2 ⟨j,rfl,hj,x2,ho⟩;have hwj:=aL (n:=(j:Int)+1) j_;apply Z.mk<;>intro h<;>simp only[cC,fg]at h
   ·have⟨r,hr⟩:=bX (l:=l) (i:=j) U;have Yu:=hl r (aQ hr);have hon:=jd.len (nY.FC ho);have hol:=Xb (l.take j);rw[cS]at hol;refine⟨lf.jX hs U,_,_,lf.ll (hs.ext x2) hr,?_⟩;rintro ie rfl dL apP kN rfl;have gG:Ext w dL:=by rw[apP];exact((x2.A (Ext.al _ (.cells #[J,J] ic))).setRow x2.size #[S r.1,S r.2])
    have de:Row dL w2 [S r.1,S r.2] ic:=by rw[apP];exact(Row.new w2 [J,J] ic).set [S r.1,S r.2]
    have TH:nY w dL.drew o (r6 (l.take j)):=by refine ar.ext (ar.aV ho (w':=dL) ?_) (Ext.K _);intro g hg;have:=(ho.own.lt hg).2;rw[apP,setRow_other _ _ _ _ U];exact(Ext.al _ _).heap this
    have hlt25:=de.lt;have xd:=gG.drew;have hrowd:=de.ext (Ext.K dL);have hz:=nV dL;rw[wrap_u8];have⟨hp,bq⟩:=ar.l6 TH (bytes:=1) (news:=yv (r.2%256)) (.cells #[.int .u8 (r.2%256)] jG) xd.size rfl (wE _ _) U U;refine⟨hp,λs27 iZ hr'=>?_⟩;have⟨k1,ho',hn',xb,TU,yG⟩:=bq s27 iZ hr';have rC:Ext w iZ:=xd.trans xb;have H3:o.D≠some w2.heap.size:=λhb=>absurd (ho.own.lt hb).2 (CY _)
    have auE:iZ.heap[w2.heap.size]? =dL.drew.heap[w2.heap.size]? :=TU _ H3 U;have hrow28:=hrowd.same auE;have hlt28:=hrow28.lt;have hlt28':dL.drew.heap.size<iZ:=by have e:(dL.drew.alloc (.cells #[.int .u8 (r.2%256)] jG)).heap[dL.drew.heap.size]? =some (.cells #[.int .u8 (r.2%256)] jG (0,0)):=Row.new dL.drew [.int .u8 (r.2%256)] jG;rw[<-k1]at e;exact(oQ.1 e).1
    have ll0:∀{w'},Row w' w2 [S r.1,S r.2] ic->ah w' (O w2) 0 [S r.1]:=λhh=>hh.y (o:=0) λj hj=>by
     have:j=0:=a1l
     subst this;rfl
    have ll1:∀{w'},Row w' w2 [S r.1,S r.2] ic->ah w' (jM w2 1) 0 [S r.2]:=λhh=>hh.y (o:=1) λj hj=>by
     have:j=0:=a1l
     subst this;rfl
    refine⟨?_,k1,ll0 hrow28,ll1 hrow28,(Cw r.1 iZ Yu.1).mono ?_⟩
    ·rw[auE];symm;exact(Ext.al _ _).heap U
    rintro e gI ⟨sn,rfl,on,kz⟩;have hnn:=jd.len (nY.FC on);have hnl:=P7 r.1;have hrow29:=hrow28.ext kz;refine⟨sn,rfl,kz.heap hlt28,kz.heap hlt28',ll1 hrow29,((qv r.1).map yv).flatten,RdK.flat (nY.FC on) U,?_⟩;have ho3:ar w jG 1 gI s27 _:=ar.ext ho' kz;have⟨WG,hres2⟩:=ar.FB ho3 (bytes:=1) (more:=(qv r.1).map yv) (rC.A kz).size bo a1s m_ m_;rw[aK]at WG hres2;rw[hnn];refine⟨WG,λTw jV jT=>?_⟩;have⟨ho4,_,xb2,Yj,_⟩:=hres2 Tw jV jT;have gl:s27.D≠some w2.heap.size:=by
     rcases yG with h|h
     ·rw[h];exact H3
     ·rw[h];intro hb;simp at hb;omega
    have hne2:s27.D≠some dL.drew.heap.size:=by
     rcases yG with h|h
     ·rw[h];intro hb;exact absurd (TH.own.lt hb).2 (CY _)
     ·rw[h];intro hb;simp at hb
    have auF:=Yj _ gl (gK hlt28 kz.size);refine⟨auF,Yj _ hne2 (gK hlt28' kz.size),ll1 (hrow29.same auF),n2-1,U,j+1,U,U,(rC.A kz).trans xb2,?_⟩;rw[adu hr];show ar _ _ 1 _ _ ((r6 (l.take j)++(r.2%256::qv r.1)).map yv);rw[cl,eH];have:=ho4;rw[fT]at this;exact this
   ·have:j=l.length:=by omega
    subst this;rw[kB]at ho;exact⟨⟨o,by rw[auD];rfl,by rw[auD];exact ho⟩,x2⟩
def ac1(b:ab):∀r∈b.map yv,One r:=a1s
abbrev afw(B:Nat)(p:List Rn×Int)(e:Ending)(w':au):Prop:=
 ∃s:H,e=bT #[s,p.2]/\wL B w' s p.1
def yu(may:Int->aX)(f:Nat)(c:Int)(t:ab)(n last:Int)(acc:List Rn):od may (f+1) (c::t) n last acc= if may c=false\/c=last then([],2) else if(fA t).2.2≠0 then([],(fA t).2.2) else if(fA t).1=0\/(fA t).1>n then([],2) else if n-(fA t).1=0 then(if t.drop (fA t).2.1.toNat=[]then(acc++[((fA t).1,c)],0)else([],2)) else od may f (t.drop (fA t).2.1.toNat) (n-(fA t).1) c (acc++[((fA t).1,c)]):=rfl
def afx{B:Nat}{p:List Rn×Int}{q:Int}{w':au}(h:p=([],q)):afw B p (.returned (.tuple #[.slice none 0 0,q])) w':=by subst h;exact⟨⟨none,0,0⟩,rfl,ar.nil⟩
def HU{may:Int->aX}:∀(f g:Nat)(b:ab) {n last:Int}{acc:List Rn}(_:b.length<f) (_:b.length<g),od may f b n last acc=od may g b n last acc
 |0,_,_,_,_,_,h,_=>by omega
 |_+1,0,_,_,_,_,_,h=>by omega
 |f+1,g+1,[],_,_,_,_,_=>rfl
 |f+1,g+1,c::t,n,last,acc,h1,h2=>by
  rw[yu,yu]
  have hd:=ER 3 0 0 t U
  rw[show sk 3 0 0 t=fA t from rfl]at hd
  simp only[cL]at h1 h2
  rw[HU f g (t.drop (fA t).2.1.toNat) (by rw[wU];omega) (by rw[wU];omega)]
def HV(s:H)(b:ab)(n:Int)(w:au)(hs:jd w s b)(hb:J' b)(hc:s.n<=s.c)(hl:b.length<=1099511627776)(hn:1<=n)(hn':cH n): Y 232 #[s,n] w λe w'=>afw w (j6 cN b n) e w'/\Ext w w':=by
 unfold cH at hn';apply Zt.B;refine⟨λm s3 last left o wr=>∃(b':ab)(acc:List Rn),m=b'.length/\jd w s3 b'/\s3.n<=s3.c/\J' b'/\acc.length+b'.length<=b.length/\1<=left/\left<=n/\Ext w wr/\wL w wr o acc/\od cN (b'.length+1) b' left last acc=j6 cN b n,⟨b.length,b,[],rfl,hs,hc,hb,by simp,hn,by omega,Ext.M w,ar.nil,rfl⟩,?_⟩;rintro m us s3 last left o wr ⟨b',acc,rfl,h3,h3c,hb',aBz,hl1,TE,xr,ho,heq⟩;have hn3:=jd.len h3;apply Z.mk<;>intro h<;>simp only[cC,fg]at h
 ·obtain⟨c,t,rfl⟩:∃c t,b'=c::t:=by
   cases b' with
   |nil=>simp at hn3;omega
   |cons c t=>exact⟨c,t,rfl⟩
  have hci:=hb' c (.head _);have htI:J' t:=λq hq=>hb' q (.tail _ hq)
  simp only[cL]at hn3 aBz;rw[yu]at heq;have hwc:=aL (n:=c) XN;have hrt:jd wr ⟨aE s3.a 1 s3.n 1,s3.n-1,s3.n-1⟩ t:=by have:=RdK.rest (h3.ext xr) (l:=1) (m:=s3.n) (n':=s3.n-1) (c':=s3.n-1) (by rw[aK,cL];omega) (λe=>by rw[aK,cL];omega);exact this
  refine⟨jd.jX h3 (i:=0) bo,c,jd.c0 (h3.ext xr) (i:=0) rfl,?_⟩;rw[hwc];rintro br rfl bE apN;have bS:Ext w bE:=by rw[apN];exact((xr.A (Ext.al _ (.cells #[J,J] ic))).setRow xr.size #[J,.int .i64 c])
  have aut:Ext wr bE:=by rw[apN];exact((Ext.al wr (.cells #[J,J] ic)).setRow (ak _) #[J,.int .i64 c])
  have de:Row bE wr [J,.int .i64 c] ic:=by rw[apN];exact(Row.new wr [J,J] ic).set [J,.int .i64 c]
  have bad:∀{q:Int}{w':au},Ext w w'->j6 cN b n=([],q)->afw w (j6 cN b n) (.returned (.tuple #[.slice none 0 0,.int .i64 q])) w'/\Ext w w':=λx' e=>⟨afx e,x'⟩
  refine(gZ c bE).mono ?_;rintro e bN ⟨rfl,cr⟩;have lK:=bS.A cr;have hrow12:=de.ext cr;refine⟨_,rfl,cr.heap de.lt,Z.mk (λh1=>?_) (λh1=>Z.mk (λh2=>?_) (λh2=>?_))⟩
  ·refine bad lK ?_;rw[<-heq,if_pos (.inl (ds h1))]
  ·refine bad lK ?_;rw[<-heq,if_pos (.inr (ds h2))]
  have hm:cN c=true:=by simpa using h1
  have hl':c≠last:=by simpa using h2
  rw[if_neg (by rw[hm];simp[hl'])]at heq;refine⟨by omega,by omega,by omega,by omega,by omega,by omega,?_⟩;refine(Cb ⟨aE s3.a 1 s3.n 1,s3.n-1,s3.n-1⟩ t bN ((hrt.ext aut).ext cr) htI (ak _)).mono ?_;rintro e cp ⟨rfl,rfl⟩;have auu:=ER 3 0 0 t U;rw[show sk 3 0 0 t=fA t from rfl]at auu;generalize fA t=d at*;have⟨sz,kk,er⟩:=d;simp only at*;refine⟨_,_,_,rfl,a0f,Z.mk (λh3'=>?_) (λh3'=>?_)⟩
  ·refine bad lK ?_;rw[<-heq,if_pos (ds h3')]
  have her:er=0:=by simpa using h3'
  subst her;have hd:=auu rfl;rw[if_neg bo]at heq;refine Z.mk (λh4=>?_) (λh4=>Z.mk (λh5=>?_) (λh5=>?_))<;>simp only[beq_iff_eq,beq_eq_false_iff_ne,cC,fg]at h4
  ·refine bad lK ?_;rw[<-heq,if_pos (.inl h4)]
  ·replace h5:=lM h5;refine bad lK ?_;rw[<-heq,if_pos (.inr h5)]
  replace h5:=lW h5;rw[if_neg U]at heq;have hwl:=aL (n:=left-sz) XN;have TY:=aL (n:=1+kk) XN;rw[hwl,TY];rintro dA apO;have dc:Ext w dA:=by rw[apO];exact lK.setRow xr.size _
  have akc:wL w cp o acc:=ar.ext ho (aut.A cr);have auv:wL w dA.drew o acc:=by refine ar.ext (ar.aV akc (w':=dA) ?_) (Ext.K _);intro g hg;have:=(ho.own.lt hg).2;rw[apO,setRow_other _ _ _ _ U]
  have hlt18:wr.heap.size<dA:=by rw[apO,setRow_size];exact hrow12.lt
  have xd:=dc.drew;have hz:=nV dA;have hon:=lf.len auv.Iq;refine⟨by omega,by omega,?_⟩;rintro fm rfl;have⟨hp,bq⟩:=ar.l6 auv (bytes:=16) (news:=rv (sz,c)) (.cells #[sz,.int .i64 c] ic) xd.size rfl (BB _ _ _ _) U U;refine⟨hp,λxp di hr'=>?_⟩;have⟨k1,ho',_,xb,TU,_⟩:=bq xp di hr';have fk:Ext w di:=xd.trans xb;have auw:wL w di xp (acc++[(sz,c)]):=by show ar _ _ 2 _ _ ((acc++[(sz,c)]).map rv);rw[cl];exact ho'
  have hkeep:di.heap[wr.heap.size]? =(dA.drew.alloc (.cells #[sz,.int .i64 c] ic)).heap[wr.heap.size]? :=by rw[TU _ (λhb=>absurd (ho.own.lt hb).2 (CY _)) U];symm;exact(Ext.al _ _).heap U
  have hdl:(t.drop kk.toNat).length=t.length-kk.toNat:=wU;refine⟨hkeep,k1,Z.mk (λh6=>Z.mk (λh7=>?_) (λh7=>Z.mk (λh8=>?_) (λh8=>?_))) (λh6=>?_)⟩<;>simp only[beq_iff_eq,beq_eq_false_iff_ne]at h6
  ·simp only[cC]at h7;omega
  ·replace h8:=lM h8;rw[if_pos h6,if_neg (by intro e;rw[e]at hdl;simp at hdl;omega)]at heq;exact bad fk heq.symm
  ·replace h8:=lW h8;rw[if_pos h6,if_pos (CV U)]at heq;refine⟨⟨xp,by rw[<-heq],by rw[<-heq];exact auw⟩,fk⟩
  ·rw[if_neg h6]at heq;have hrest:=RdK.rest h3 (l:=(1+kk).toNat) (m:=s3.c) (n':=s3.n-(1+kk).toNat) (c':=s3.c-(1+kk).toNat) (by rw[aK,cL];omega) (λe=>by rw[aK,cL];omega);rw[show(1+kk).toNat=kk.toNat+1 from by omega,eH,List.drop_succ_cons,<-List.map_drop]at hrest;rw[show(1+kk).toNat=kk.toNat+1 from by omega];refine⟨(t.drop kk.toNat).length,a1f,t.drop kk.toNat,acc++[(sz,c)],rfl,hrest,by show s3.n-(kk.toNat+1)<=s3.c-(kk.toNat+1);omega,λq hq=>htI q (zo hq),by simp only[cj,cL,mV];omega,by omega,by omega,fk,auw,?_⟩;rw[<-heq];exact HU _ _ _ U a1f
 ·have:b'=[]:=CV U;subst this;have e:j6 cN b n=([],3):=by rw[<-heq];show(if left>0 then([],3)else(acc,0))=_;rw[if_pos U]
  refine Z.mk (λ_=>⟨afx e,xr⟩) (λh2=>?_);replace h2:=lW h2;omega
def ar.le{B E k:Nat}{w:au}{s:H}{rows:List (LV)}(h:ar B E k w s rows):s.n<=s.c:=by
 have ho:=h.own;generalize rows.flatten=xs at ho
 cases ho with
 |nil=>exact ak _
 |row g n c cs hg hr hc hn=>exact hn
def Sz{b:ab}{n:Int}(hb:J' b)(hn:1<=n)(h:(j6 cN b n).2=0):r6 (j6 cN b n).1=b/\ji cN (-1) (j6 cN b n).1/\bF (j6 cN b n).1=n:=by have⟨l,e1,e2,e3,e4,_⟩:=Dw (may:=cN) (b.length+1) b n (-1) [] hb hn h;rw[Pz]at e1;have e:j6 cN b n=od cN (b.length+1) b n (-1) []:=rfl;rw[e,e1];exact⟨e2,e3,e4⟩
def ZU{l:List Rn}{last:Int}(h:ji cN last l):∀r∈l,cH r.1/\cH r.2:=by intro r hr;have:=h.mem r hr;unfold Go.Vc.cH;omega
def afM(w:au)(p:Po)(l:List Rn)(e:Ending)(w':au):Prop:=
 (su cN l 8192=true/\∃g sg,e=bT #[.pointer (O g),J]/\Ja w' g sg p (cm l)/\w<=g/\∀b,sg.D=some b->w<=b)\/
 (su cN l 8192=false/\e=bT #[i_,(1:Int)])
def Au(p:Po)(s:H)(l:List Rn)(w:au)(hs:lf w s l)(hn:Bd l.length):Y 233 #[pv p,s] w λe w'=>afM w p l e w'/\Ext w w':=by
 apply Zu.B;intro w0 e0;have z0:=fD e0;have x0:=aU e0;have OM:Row w0 w [p.1,p.2] K_:=Row.nw e0;refine(xh s l 8192 w0 (RdK.ext hs x0) hn j_).F λw1 x1=>?_
 have z1:=x1.size;have zd:=nV w1;refine⟨_,rfl,x1.k,Z.mk (λhb=>?_) (λhb=>?_)⟩
 ·have hf:su cN l 8192=false:=by simpa using hb
  exact⟨.inr ⟨hf,rfl⟩,x0.A x1⟩
 ·have ht:su cN l 8192=true:=by simpa using hb
  have⟨i1,i2,i3⟩:=RU ht;have xd:=(x0.A x1).drew;have fin:∀{w3 w5:au}{s4:H},Ext w1.drew w3->wL w1.drew.heap.size w3 s4 l->w5=w3.alloc (.cells #[p.1,p.2,s4] xY)->afM w p l (.returned (.tuple #[w3,J])) w5/\Ext w w5:=λ{w3 w5 s4} x3 ho e5=>by have x5:=aU e5;have z3:=x3.size;refine⟨.inl ⟨ht,_,s4,rfl,⟨by rw[e5];exact Row.new w3 [_,_,_] _,?_,U,i2⟩,U,λb hb=>a1N ((ho.own.lt hb).1)⟩,xd.A (x3.A x5)⟩;rw[i1];exact(ar.low ho (eG _)).ext x5
  refine⟨(mB s l w1.drew (RdK.ext hs xd) hn).mono ?_,(mB s l w1.drew (RdK.ext hs xd) hn).mono ?_⟩
  ·rintro e w3 ⟨s4,rfl,ho,x3⟩;exact⟨s4,rfl,x3.k,λw5 e5=>fin x3 ho e5⟩
  ·rintro e w3 ⟨s4,rfl,ho,x3⟩;exact⟨s4,rfl,x3.k,((OM.ext x1.drew).ext x3).y (λj hj=>by rw[eF]),λw5 e5=>fin x3 ho e5⟩
def aju(w:au)(p:Po)(b:ab)(e:Ending)(w':au):Prop:=
 ((j6 cN b 8192).2=0/\∃g sg,e=bT #[.pointer (O g),J]/\Ja w' g sg p (cm (j6 cN b 8192).1)/\w<=g/\iC (cm (j6 cN b 8192).1)=(j6 cN b 8192).1/\∀b,sg.D=some b->w<=b)\/
 ((j6 cN b 8192).2≠0/\e=bT #[i_,S (j6 cN b 8192).2])
def ZI(p:Po)(s:H)(b:ab)(w:au)(hs:jd w s b)(hb:J' b)(hc:s.n<=s.c)(hl:b.length<=1099511627776):Y 162 #[pv p,s] w λe w'=>aju w p b e w'/\Ext w w':=by
 apply UU.B;intro w0 e0;have z0:=fD e0;have x0:=aU e0;refine(HV s b 8192 w0 (RdK.ext hs x0) hb hc hl X j_).mono ?_;rintro e w1 ⟨⟨s2,rfl,ho⟩,x1⟩;have z1:=x1.size;have cX:=abg (may:=cN) b 8192;have DA:=Sz (b:=b) (n:=8192) hb X;refine⟨s2,_,rfl,x1.k,Z.mk (λgl=>?_) (λgl=>?_)⟩
 ·exact⟨.inr ⟨ds gl,rfl⟩,x0.A x1⟩
 ·have h0:=eK gl;have⟨f1,f2,f3⟩:=DA h0;have hm:su cN (j6 cN b 8192).1 8192=true:=by have:=f2.su U;rw[f3]at this;exact this
  refine(Au p s2 _ w1 (wL.Iq ho) (by show _<=_;omega)).mono ?_;rintro e w4 ⟨hr,x4⟩;rcases hr with⟨-,g,sg,rfl,hk,hg,hgb⟩|⟨hf,-⟩
  ·exact⟨_,_,rfl,x4.k,.inl ⟨h0,g,sg,rfl,hk,U,(RU hm).1,λb hb=>a1N (hgb b hb)⟩,x0.A (x1.A x4)⟩
  ·rw[hm]at hf;cases hf
def Kl{C:ab}(hl:C.length=8192)(hm:∀b∈C,cN b=true):okW cN (iC C)=true/\iC C≠[]/\ji cN (-1) (iC C)/\bF (iC C)=8192:=by
 have hs:bF (iC C)=8192:=by rw[nj,hl];rfl
 have gl:iC C≠[]:=by
  intro e;rw[e]at hs
  cases hs
 have hc:∀r∈iC C,cN r.2=true:=λr hr=>by refine hm _ ?_;have:=ZS hr (oA hr).1;rwa[oK]at this
 refine⟨amn (GG C) hc U gl,gl,?_,hs⟩;refine ji.of (λr hr=>?_) (GG C).next (λr hr=>?_)
 ·have h1:=oA hr;have h2:=hc r hr;have h3:=h2;unfold cN at h3;simp only[fF,cC]at h3;exact⟨h1.1,U,U,U,h2⟩
 ·have h2:=hc r (List.mem_of_mem_head? hr);unfold cN at h2;simp only[fF,cC]at h2;omega
def ZT{C:ab}(hl:C.length=8192)(hm:∀b∈C,cN b=true):∀r∈iC C,cH r.1/\cH r.2:=ZU (Kl hl hm).2.2.1
def Uq{w:au}{g:Nat}{s:H}{p:Po}{C:ab}(h:Ja w g s p C):Y 236 #[g] w λe w'=>∃s':H,e=s'/\nY w w' s' (r6 (iC C))/\Ext w w':=by apply zO.B;have cX:=sa C;have hl:=h.len;refine⟨s,h.row.at 2 rfl,(D6 s (iC C) w (wL.Iq h.own) U (ZT h.len h.may)).mono ?_⟩;rintro e w1 ⟨⟨s2,rfl,ho⟩,x1⟩;rw[if_pos (Kl h.len h.may).1]at ho;exact⟨s2,_,rfl,s2,rfl,ho,x1⟩
abbrev tg:aB:=237
abbrev BZ:aB:=177
abbrev B0:aB:=136
abbrev cc:aB:=143
abbrev F_:aB:=137
def sb{a:Addr}{K:Prop}(h:K):aO (eE (some a)) K:=h
def Xc(p:Po)(w:au):ed 157 #[pv p] w (bT #[(Bk p),.bool (decide (EP p))]):=by
 apply adQ.B;intro w0 e0;have x0:=aU e0;have no:¬EP p->Sl (.tuple #[J,false])=Sl (.tuple #[(Bk p),.bool (decide (EP p))])/\Ext w w0:=λh=>⟨by rw[ahX h,decide_eq_false h],x0⟩
 refine Z.mk (λh=>no ?_) (λh=>Z.mk (λh2=>no ?_) (λh2=>Z.mk (λh3=>no ?_) (λh3=>Z.mk (λh4=>no ?_) (λh4=>?_))))<;>simp only[cC,fg]at*
 ·unfold EP;omega
 ·unfold EP;omega
 ·unfold EP;omega
 ·unfold EP;omega
 ·have px:EP p:=by unfold EP;omega
  refine⟨?_,x0⟩;rw[decide_eq_true px,aL (n:=p.1+524288) j_,aL (n:=(p.1+524288)*2) j_,aL (n:=(p.1+524288)*2*524288) j_,aL (n:=(p.1+524288)*2*524288+p.2) j_,aL (n:=(p.1+524288)*2*524288+p.2+524288) j_,aL (n:=(p.1+524288)*2*524288+p.2+524288+1) j_];unfold Bk;rw[if_pos px,show(p.1+524288)*2*524288+p.2+524288+1=(p.1+524288)*1048576+(p.2+524288)+1 by omega]
def GI(v:aC):Prop:=∃n:Int,v=S n
def GK:gM ka5 Mr GI:=by
 refine⟨?_,?_,?_⟩
 ·rintro x y ⟨a,rfl⟩ ⟨b,rfl⟩;refine⟨a==b,by kernel_rfl,?_⟩;simp
 ·rintro x ⟨a,rfl⟩ b w;kernel_rfl
 ·rintro x ⟨a,rfl⟩;simp[Instr.sameBits]
def aaN{P:Program}{w:au}{r:Nat}{es:Array MapEntry}{clock:Nat}(t:aB)(hb:w.heap[r]? =some (.map es clock)): (Extern.MapsClone.clone #[.iface t (.map (some r))]).run P w=.ok (.iface t (.map (some w))) (w.alloc (.map es clock)):=by
 have e:Extern.MapsClone.clone #[.iface t (.map (some r))]=(getObj r>>=λo=>match o with
   | .map entries clock=>(newObj (.map entries clock)>>=λn=>pure (.iface t (.map (some n))))
   |_=>stuck "maps.clone: a map expected"):=rfl
 rw[e];simp[pn hb,jf,Result.andThen,Aw]
def GJ{w:au}{r:Nat}{kvs:List (aC×aC)}(hm:bG GI w (some r) kvs):Y 369 #[.map (some r)] w λe w'=>e=Value.map (some w)/\bG GI w' (some w) kvs/\Ext w w':=by apply DZ.B;refine Z.mk (λh=>by cases h) (λ_=>?_);have⟨es,clock,hb,h2⟩:=hm;refine⟨Extern.MapsClone.clone,⟨_,Tryz.func386,by kernel_rfl,by kernel_rfl,by kernel_rfl⟩,_,_,aaN _ hb,_,rfl,_,rfl,rfl,⟨es,clock,World.alloc_heap_new w _,h2⟩,Ext.al w _⟩
end Go.Proofs.YtjcnjlaelhdjeaaGreatDoor
namespace Go.Proofs.YtjcnjlaelhdjeaaGreatDoor.Q
open Go Go.Vc Go.RowKit Go.Proofs Go.dS
set_option maxRecDepth 100000
set_option maxHeartbeats 8000000
abbrev zk:aB:=23
abbrev cc:aB:=106
abbrev nM:aB:=192
def GC(v:aC):Prop:=∃c:Cl,v=cv c
def AD:gM ka5 zk GC:=by
 refine⟨?_,?_,?_⟩
 ·rintro x y ⟨a,rfl⟩ ⟨b,rfl⟩;refine⟨a.1==b.1&&(a.2.1==b.2.1&&a.2.2==b.2.2),by kernel_rfl,?_⟩;simp only[fF,beq_iff_eq];constructor
  ·rintro⟨h1,h2,h3⟩;unfold cv;rw[h1,h2,h3]
  ·intro h;rw[G5 h];simp
 ·rintro x ⟨a,rfl⟩ b w;kernel_rfl
 ·rintro x ⟨a,rfl⟩;simp[cv,Instr.sameBits]
def HL(a:Int)(w:au):kh 361 #[a] w false:=by apply cmp_isNaN_int.B;simp
def Od(a b:Int)(w:au):kh 326 #[a,b] w (vc .i64 (if a<b then -1 else if b<a then 1 else 0)):=by
 apply Em.B;refine(HL a w).mono ?_;rintro e w1 ⟨rfl,rfl⟩;refine⟨_,rfl,(HL b w1).mono ?_⟩;rintro e w2 ⟨rfl,rfl⟩;refine⟨_,rfl,Z.mk (λh=>by cases h) (λ_=>Z.mk (λh=>by cases h) (λ_=>Z.mk (λh=>?_) (λh=>Z.mk (λh2=>?_) (λh2=>?_))))⟩
 ·replace h:=lM h;rw[if_pos h];exact⟨rfl,rfl⟩
 ·simp only[cC,fg]at h h2;rw[if_neg h,if_pos h2];exact⟨rfl,rfl⟩
 ·simp only[fg]at h h2;rw[if_neg h,if_neg h2];exact⟨rfl,rfl⟩
def afb(a b:Int)(g:Nat)(w:au)(hr:Row w g [a,b] 3): kh 325 #[.slice (O g) 2 2] w (S (if a=0 then b else a)):=by
 apply(VR.B (a0:=⟨O g,2,2⟩));refine⟨λn x wr=>wr=w/\∃k:Nat,x=k/\k+n=2/\(1<=k->a=0)/\(2<=k->b=0),⟨2,rfl,0,rfl,rfl,U,U⟩,?_⟩;rintro n us x wr ⟨rfl,k,rfl,hk,h1,h2⟩;have hw:=aL (n:=(k:Int)+1) j_;rw[hw];apply Z.mk<;>intro h<;>simp only[cC,fg]at h
 ·refine⟨⟨rfl,U,U⟩,if k=0 then a else b,?_,Z.mk (λh3=>?_) (λh3=>?_)⟩
  ·show ld wr (N (O g) _)=_;rw[aF,hr.ld];have:k=0\/k=1:=by simp at h;omega
   rcases this with rfl|rfl<;>rfl
  ·simp only[bne_iff_ne,ne_eq]at h3;have:k=0\/k=1:=by simp at h;omega
   rcases this with rfl|rfl
   ·rw[if_pos rfl]at h3⊢;rw[if_neg h3];exact⟨rfl,rfl⟩
   ·rw[if_neg (show ¬((1:Nat)=0)by omega)]at h3⊢;rw[if_pos (h1 U)];exact⟨rfl,rfl⟩
  ·simp only[bne_eq_false_iff_eq]at h3;have:k=0\/k=1:=by simp at h;omega
   rcases this with rfl|rfl
   ·rw[if_pos rfl]at h3;exact⟨n-1,U,rfl,1,U,U,λ_=>h3,U⟩
   ·rw[if_neg (show ¬((1:Nat)=0)by omega)]at h3;exact⟨n-1,U,rfl,2,U,U,λ_=>h1 U,λ_=>h3⟩
 ·have:k=2:=by simp at h;omega
  subst this;rw[if_pos (h1 U),h2 U];exact⟨rfl,rfl⟩
def HK(x y:It)(w:au):Y 324 #[.agg (fM x).toArray,.agg (fM y).toArray] w λe w'=>(∃z:Int,e=z/\(z<0↔x.1<=y.1))/\Ext w w':=by
 apply yq.B;intro w0 e0 w1 e1;have x1:Ext w w1:=by rw[e1,e0];exact(Ext.al _ _).A (Ext.al _ _)
 refine(Od x.1 y.1 _).mono ?_;intro e w2 hh;obtain⟨rfl,ew⟩:=hh;have x2:Ext w w2:=by rw[ew];exact x1
 refine⟨_,rfl,by rw[ew],by rw[ew],?_⟩;intro w4 e4;have x4:Ext w w4:=x2.aZ e4;have de:Row w4 w2 [S (if x.1<y.1 then -1 else if y.1<x.1 then 1 else 0),(-1:Int)] 3:=by rw[e4];exact Row.new w2 [_,_] _
 refine(afb _ _ _ _ de).mono ?_;intro e w5 hh;obtain⟨rfl,ew5⟩:=hh;refine⟨_,rfl,by rw[ew5],by rw[ew5],⟨_,rfl,?_⟩,by rw[ew5];exact x4⟩;by_cases h1:x.1<y.1
 ·rw[if_pos h1];simp;omega
 ·by_cases h2:y.1<x.1
  ·rw[if_neg h1,if_pos h2];simp;omega
  ·rw[if_neg h1,if_neg h2];simp;omega
def fN(l:List It):∀r∈l.map fM,r.length=4:=by intro r hr;obtain⟨x,_,rfl⟩:=bc.1 hr;rfl
def kW(l:List It):∀r∈l.map fM,One r:=by intro r hr;obtain⟨x,_,rfl⟩:=bc.1 hr;intro u hu;simp at hu;rcases hu with rfl|rfl|rfl|rfl<;>rfl
def rT(x:It):One (fM x):=by intro u hu;simp at hu;rcases hu with rfl|rfl|rfl|rfl<;>rfl
def JN(l:List It)(i:Nat):(l.map fM).flatten.take (i*4)=((l.take i).map fM).flatten:=by
 have hw:=fN (l.take i);rcases iR i l.length with h|h
 ·conv=>lhs;rw[<-td i l,cl,zm]
  rw[FI (by rw[bQ hw];simp;omega)]
 ·rw[dN h,dN];rw[bQ (fN l)];simp;omega
def JP(l:List It)(i:Nat):(l.map fM).flatten.drop (i*4)=((l.drop i).map fM).flatten:=by
 rcases iR i l.length with h|h
 ·conv=>lhs;rw[<-td i l,cl,zm]
  rw[List.drop_left' a0M]
 ·rw[wH h,wH]
  ·rfl
  ·rw[bQ (fN l)];simp;omega
section
variable{cs:LV}
def FK{l:List It}{n:Nat}(ht:cs.take (n*4)=(l.map fM).flatten)(hn:n=l.length)(i j:Nat)(hj:j<((l.drop i).map fM).flatten.length):cs[i*4+j]? =((l.drop i).map fM).flatten[j]? :=by rw[<-JP,yZ,<-ht,qM,if_pos];rw[bQ (fN _)]at hj;simp at hj;omega
variable{w:au}{g g':Nat}{x:LV}{R:l_}(hx:Row w g x cc)
def Je(hr:Row w g' cs cc)(gl:g≠g')(hc:cs.length≠0)(o:Nat)(la ca lb cb:Nat)(h:R (.returned (.bool false)) w): adP ka5 362 [.slice (O g) la ca,.slice (jM g' o) lb cb] w R:=by
 refine⟨_,⟨_,rfl,by kernel_rfl,by kernel_rfl,by kernel_rfl⟩,_,_,Lib.run_overlaps_apart w 71 0 cc (by kernel_rfl) 4 (λw=>by kernel_rfl) ⟨g,0,none⟩ ⟨g',o,none⟩ la ca lb cb gl cc cc x.length cs.length ?_ ?_ hc ?_ ?_,h⟩
 ·simp[World.shape?,show w.heap[g]? =_ from hx]
 ·simp[World.shape?,show w.heap[g']? =_ from hr]
 ·simp[World.frozen?,show w.heap[g]? =_ from hx]
 ·simp[World.frozen?,show w.heap[g]? =_ from hx]
def G1(hr:Row w g' cs cc)(gl:g≠g')(hc:cs.length≠0){p:ai}{o:Nat}(hp:p=some ⟨g',o,none⟩)(la ca lb cb:Nat)(h:R (.returned (.bool false)) w): adP ka5 362 [.slice (O g) la ca,.slice p lb cb] w R:=by
 subst hp;exact Je hx hr gl hc o la ca lb cb h
end
def CX(n:Nat):bD [J,J,J,J] n=((List.replicate n ((0,0,0,0):It)).map fM).flatten:=by unfold bD;simp
def QW{w:au}{s:H}{l:List It}{i g:Nat}{x:It}(ho:ar 0 cc 4 w s (l.map fM))(hx:Row w g (fM x) cc)(hi:i<=l.length)(hl:l.length<=5000)(gl:s.D≠some g): Y 327 #[s,(i:Int),.slice (O g) 1 1] w λe w'=>∃s':H,e=tr s'.a s'.n s'.c/\ar 0 cc 4 w' s' ((l.take i++x::l.drop i).map fM)/\Mod (λb=>s.D=some b) w w'/\(∀b,s'.D=some b->s.D=some b\/w<=b):=by
 have hn:s.n=l.length:=a0t
 apply yt.B (a2:=⟨O g,1,1⟩);have Tc:I (((s.n:Nat):Int)+((1:Nat):Int))=((s.n+1:Nat):Int):=by rw[wI];omega
 have yE:I ((i:Int)+((1:Nat):Int))=((i+1:Nat):Int):=by rw[wI];omega
 have Ig:I (((s.n+1:Nat):Int)-(i:Int))=((s.n+1-i:Nat):Int):=by rw[wI];omega
 have hw4:I ((s.n+1-i:Nat):Int)=((s.n+1-i:Nat):Int):=wI;have hrx:Rd w (O g) (fM x):=hx.X_ λj hj=>rfl
 dsimp only;rw[Tc,yE,Ig,hw4];simp only[iI,Nat.sub_zero,dt];refine⟨U,U,Z.mk (λh=>by cases h) (λ_=>Z.mk (λh=>?_) (λh=>?_))⟩
 ·
  have he:i=l.length:=a0d
  have⟨hp,hr⟩:=ho.append (bytes:=32) (news:=fM x) (eG _) rfl (rT x) U U;refine⟨fM x,hrx,hp,λs' w' bq=>?_⟩;have⟨h1,h2,h3,h4,h5⟩:=hr s' w' bq;refine⟨s',rfl,?_,Mod.xq h3 h4,?_⟩
  ·rw[he,kB,List.drop_length,cl];exact h1
  ·intro b hb;rcases h5 with h5|h5
   ·exact .inl (h5▸hb)
   ·rw[h5]at hb;cases hb;exact .inr (ak _)
 ·have fK:i<l.length:=by
   have:i≠l.length:=λe=>by subst e;simp[hn]at h
   omega
  rcases ho.form X with⟨hs,Et⟩|⟨g0,cs,ha,hg0,hr,hc,Is,ht,hn'⟩
  ·have:l=[]:=by simpa using Et
   subst this;simp at fK
  have ako:g0≠g:=λe=>gl (by unfold H.D;rw[ha,e];rfl)
  have iK:s.D=some g0:=a1J
  have xk:cs.take (i*4)=((l.take i).map fM).flatten:=by rw[<-JN,<-ht,List.take_take,Nat.min_eq_left U]
  rw[ha];apply Z.mk<;>intro h2
  ·
   replace h2:=lM h2;have hpre:ar 0 cc 4 w ⟨O g0,i,s.c⟩ ((l.take i).map fM):=ar.jO (eG _) hr hc U xk (fN _);obtain⟨hp,-⟩:=hpre.FB (bytes:=32) (more:=(List.replicate (s.n+1-i) ((0,0,0,0):It)).map fM) (eG _) (fN _) (kW _) m_ m_;have cX:((List.replicate (s.n+1-i) ((0,0,0,0):It)).map fM).length=s.n+1-i:=by simp
   rw[cX]at hp;rw[CX];refine⟨U,U,⟨U,trivial,U⟩,hp,λs3 w4 bq=>?_⟩;generalize hz:((List.replicate (s.n+1-i) ((0,0,0,0):It)).map fM).flatten=zs at bq;have TS:zs.length=(s.n+1-i)*4:=by rw[<-hz,bQ (fN _)];simp
   cases bq with
   |fits hf=>simp only at hf;omega
   |grows hg fP rest cap q1 q2 q3 q4=>
    simp only at q1 q2 q3;have H2:fP=cs.take (i*4):=by
     refine Zb q2 (hr.X_ (vs:=cs.take (i*4)) λj hj=>?_) ?_
     ·rw[cS]at hj;rw[qM,if_pos U]
     ·rw[q1,cS];omega
    have hR:Row (w.drew.alloc (.cells (fP++zs++rest).toArray cc)) w (fP++zs++rest) cc:=Row.new w.drew _ _;generalize aBU:w.drew.alloc (.cells (fP++zs++rest).toArray cc)=w4 at hR;have x4:Ext w w4:=by rw[<-aBU];exact(Ext.K w).A (Ext.al _ _)
    have hr4:=hr.ext x4;have hlt0:=hr.lt;have hn3:i+(s.n+1-i)=s.n+1:=by omega
    have hCl:(s.n+1)*4<=(fP++zs++rest).length:=by rw[q4];exact tf _ U
    dsimp only;rw[hn3];have hx4:=hx.ext x4;have lE:((l.drop i).map fM).flatten.length=(s.n-i)*4:=a0M
    have hm1:min 1 (s.n+1-i)*4=4:=by
     have:min 1 (s.n+1-i)=1:=by omega
     rw[this]
    have yA:min (s.n-i) (s.n+1-(i+1))=s.n-i:=by omega
    have⟨p1,p2,p3⟩:=hR.ac5 (vs:=fM x) (l:=i) (m:=cap) (size:=4) (by intro e;omega) m_ (rT x);refine⟨U,U,fM x,⟨hm1.symm,hx4.X_ λj hj=>rfl,rT x,p1⟩,?_⟩;intro w6 e6;rw[<-e6]at p2 p3;have hr6:Row w6.drew g0 cs cc:=(p3.row hr4 U).ext (Ext.K _);have p2':Row w6.drew w _ cc:=p2.ext (Ext.K _);have⟨u1,u2,u3⟩:=p2'.ac5 (vs:=((l.drop i).map fM).flatten) (l:=i+1) (m:=cap) (size:=4) (by intro e;rw[wH U];rfl) (by rw[lE,Go.Vc.db];omega) (gy (kW _));refine⟨U,U,U,U,((l.drop i).map fM).flatten,⟨by rw[yA,lE],hr6.amb (by intro e;rw[wH U];rfl) (FK ht hn i),gy (kW _),u1⟩,?_⟩;intro w8 e8;rw[<-e8]at u2 u3;refine⟨⟨O w,s.n+1,cap⟩,rfl,ar.jO (eG _) u2 (by rw[Go.Vc.db,Go.Vc.db,q4];exact ak _) U ?_ (fN _),?_,?_⟩
    ·rw[ae5 m_ (by rw[lE];omega) hCl,fT,fT,FI (by rw[q1]),H2,xk];simp
    ·refine((Mod.P x4).A p3 (λb hb=>.inr U)).A (F':=λb=>b=w) ?_ (λb hb=>.inr U);exact(Mod.P (Ext.K _)).trans u3
    ·intro b hb;have:w=b:=by simpa[H.D]using hb
     exact .inr U
  ·
   replace h2:=lW h2;have hCl:(s.n+1)*4<=cs.length:=cV (tf _ U) hc;have lE:((l.drop i).map fM).flatten.length=(s.n-i)*4:=a0M
   refine⟨U,U,U,U,?_⟩;refine G1 hx hr (Ne.symm ako) U (by rw[si,if_neg U]) _ _ _ _ ⟨_,rfl,Z.mk (λ_=>?_) (λh=>by cases h)⟩;have yA:min (s.n+1-i) (s.n+1-(i+1))=s.n-i:=by omega
   have hm1:min 1 (s.n+1-i)*4=4:=by
    have:min 1 (s.n+1-i)=1:=by omega
    rw[this]
   have hr':=hr.ext (Ext.K w);have⟨u1,u2,u3⟩:=hr'.ac5 (vs:=((l.drop i).map fM).flatten) (l:=i+1) (m:=s.c) (size:=4) (by intro e;omega) (by rw[lE];omega) (gy (kW _));refine⟨U,U,U,U,((l.drop i).map fM).flatten,⟨by rw[yA,lE],hr'.amb (by intro e;omega) (FK ht hn i),gy (kW _),u1⟩,?_⟩;intro bN ui;rw[<-ui]at u2 u3;have⟨p1,p2,p3⟩:=u2.ac5 (vs:=fM x) (l:=i) (m:=s.c) (size:=4) (by intro e;omega) (by rw[Go.Vc.db];simp;omega) (rT x);have aBV:Row bN g (fM x) cc:=u3.row (hx.ext (Ext.K w)) (Ne.symm ako);refine⟨U,U,fM x,⟨hm1.symm,aBV.X_ λj hj=>rfl,rT x,p1⟩,?_⟩;intro cp yF;rw[<-yF]at p2 p3;refine⟨⟨O g0,s.n+1,s.c⟩,rfl,ar.jO (eG _) p2 (by rw[Go.Vc.db,Go.Vc.db];exact hc) U ?_ (fN _),?_,?_⟩
   ·rw[aaW m_ (by rw[lE];omega) hCl,xk];simp
   ·refine(((Mod.P (Ext.K w)).trans u3).trans p3).mono λb _ hb=>?_
    rw[iK,hb]
   ·intro b hb;exact .inl (iK.trans hb)
section
variable{w:au}{s:H}{l:List It}(h:RdK w s 4 (l.map fM))
def RdK.item{i:Nat}{x:It}(hi:l[i]? =some x):ah w (N s.a (i*4)) 0 (fM x):=
 h.y (by rw[aW,hi];rfl)
def aej(x:It)(h:RdK w s 4 (l.map fM))(hs:l.Pairwise λa b=>a.1<=b.1)(hl:l.length<=5000): Y 323 #[s,.agg (fM x).toArray,.func (.func 324) #[] #[]] w λe w'=>(∃b,e=bT #[S ((l.takeWhile λy=>y.1<=x.1).length:Nat),.bool b])/\Ext w w':=by
 have hn:s.n=l.length:=by rw[h.n,aK]
 apply nQ.B;intro w0 e0;have x0:=aU e0;have Fb:w0.heap.size=w.heap.size+1:=by rw[e0];simp[World.alloc_eq]
 have hk:(l.takeWhile λy=>decide (y.1<=x.1)).length<=l.length:=(List.takeWhile_sublist _).length_le;generalize hkk:(l.takeWhile λy=>decide (y.1<=x.1)).length=k at hk;have Ir:∀{i:Nat}{y:It},l[i]? =some y->(i<k↔y.1<=x.1):=λhi=>by rw[<-hkk];exact AE hs x.1 hi
 refine⟨λn a b wr=>Ext w0 wr/\∃lo hi:Nat,a=lo/\b=hi/\lo<=k/\k<=hi/\hi<=l.length/\n=hi-lo,⟨_,rfl,Ext.M _,0,s.n,rfl,rfl,eG _,U,U,rfl⟩,?_⟩;rintro n us a b wr ⟨xr,lo,hi,rfl,rfl,h1,h2,h3,rfl⟩;refine Z.mk (λfK=>?_) (λS5=>?_)<;>simp only[cC,fg]at*
 ·rw[am2 U];have auf:(lo+hi)/2<l.length:=by omega
  have gd:l[(lo+hi)/2]? =some l[(lo+hi)/2]:=cK auf;generalize l[(lo+hi)/2]=y at gd;have hr:=(h.ext (x0.A xr)).ext (Ext.K wr);have nR:=xr.size;refine⟨⟨?_,U,U⟩,y.1,y.2.1,y.2.2.1,y.2.2.2,RdK.item hr gd,?_⟩
  ·exact h.isSome X (i:=(lo+hi)/2) (ds auf)
  refine bR (by kernel_rfl) rfl ((HK y x _).mono ?_);rintro e w2 ⟨⟨z,rfl,hz⟩,x2⟩;have hz':=(Ir gd).trans hz.symm;have x3:=(xr.A (Ext.K wr)).A x2;refine⟨z,rfl,(x2.heap ?_),Z.mk (λhb=>?_) (λhb=>?_)⟩
  ·show w.heap.size<wr.heap.size;omega
  ·replace hb:=lM hb;have:=hz'.2 hb;have hw:I ((((lo+hi)/2:Nat):Int)+1)=(((lo+hi)/2+1:Nat):Int):=by rw[wI];omega
   rw[hw];exact⟨_,U,trivial,x3,(lo+hi)/2+1,hi,rfl,rfl,U,h2,h3,rfl⟩
  ·replace hb:=lW hb;have:¬(lo+hi)/2<k:=λh=>hb (hz'.1 h)
   exact⟨_,U,trivial,x3,lo,(lo+hi)/2,rfl,rfl,h1,U,U,rfl⟩
 ·have:lo=k:=by omega
  subst this;have hr:=(h.ext (x0.A xr)).ext (Ext.K wr);have nR:=xr.size;refine Z.mk (λhb=>?_) (λhb=>⟨⟨_,rfl⟩,x0.A (xr.A (Ext.K _))⟩);replace hb:=lM hb;have gd:l[lo]? =some (l[lo]'U):=cK U;generalize l[lo]'U=y at gd;refine⟨⟨h.isSome X (i:=lo) m_,U,U⟩,y.1,y.2.1,y.2.2.1,y.2.2.2,RdK.item hr gd,?_⟩;refine bR (by kernel_rfl) rfl ((HK y x _).mono ?_);rintro e w2 ⟨⟨z,rfl,hz⟩,x2⟩;refine⟨z,rfl,x2.heap (show w.heap.size<wr by omega),⟨_,rfl⟩,(x0.A (xr.A (Ext.K wr))).A x2⟩
variable{b:Nat}{c:Cl}
def FJ(x:It)(hb:Row w b (eV c) zk):ed 322 #[.agg (fM x).toArray,b] w (eL (x.2==c)):=by apply yp.B;intro w0 e0;have x0:=aU e0;exact⟨c.1,c.2.1,c.2.2,(hb.ext x0).y (λj hj=>by rw[eF]),rfl,x0⟩
def xz(hb:Row w b (eV c) zk)(hl:l.length<=5000): Y 360 #[s,.func (.func 322) #[] #[b]] w λe w'=>(∃i:Int,e=i/\((i= -1/\∀x∈l,x.2≠c)\/∃k:Nat,i=k/\k<l.length/\(∀x∈l.take k,x.2≠c)/\∀x,l[k]? =some x->x.2=c))/\Ext w w':=by
 have hn:s.n=l.length:=by rw[h.n,aK]
 apply tZ.B;refine⟨λn a wr=>Ext w wr/\∃k:Nat,a=k/\k+n=l.length/\(∀x∈l.take k,x.2≠c),⟨l.length,Ext.M _,0,rfl,U,bo⟩,?_⟩;rintro n us a wr ⟨xr,k,rfl,h1,h2⟩;refine Z.mk (λfK=>?_) (λS5=>?_)<;>simp only[cC,fg]at*
 ·have gd:l[k]? =some (l[k]'U):=cK U;generalize l[k]'U=y at gd;refine⟨⟨h.isSome X (i:=k) m_,U,U⟩,y.1,y.2.1,y.2.2.1,y.2.2.2,RdK.item (h.ext xr) gd,?_⟩;refine bR (by kernel_rfl) rfl ((FJ y (hb.ext xr)).F λw2 x2=>?_);refine⟨_,rfl,Z.mk (λhb=>?_) (λhb=>?_)⟩
  ·refine⟨⟨_,rfl,.inr ⟨k,rfl,U,h2,λx hx=>?_⟩⟩,xr.A x2⟩;rw[gd]at hx;cases hx;simpa using hb
  ·have hw:=nE (j:=k);rw[hw];refine⟨n-1,U,xr.A x2,k+1,rfl,U,λx hx=>?_⟩;rw[dq,gd]at hx;rcases dp.1 hx with hx|hx
   ·exact h2 x hx
   ·simp at hx;subst hx;simpa using hb
 ·refine⟨⟨_,rfl,.inl ⟨rfl,?_⟩⟩,xr⟩;rw[dN U]at h2;exact h2
end
section
variable{w:au}{s:H}{l:List It}{i:Nat}(ho:ar 0 cc 4 w s (l.map fM))
def FH(hi:i<=l.length): Wr w (aE s.a i s.c 4) ((s.n-i)*4)/\∀w',w'=bB w (aE s.a i s.c 4) (bD [J,J,J,J] (s.n-i))->ar 0 cc 4 w' ⟨s.a,i,s.c⟩ ((l.take i).map fM)/\Mod (λb=>s.D=some b) w w':=by
 have hn:s.n=l.length:=by rw[(ho.rd X).n,aK]
 rw[CX];rcases ho.form X with⟨hs,Et⟩|⟨g0,cs,ha,hg0,hr,hc,Is,ht,hn'⟩
 ·have:l=[]:=by simpa using Et
  subst this;have:i=0:=by simpa using hi
  subst this;subst hs;refine⟨λj hj=>by simp at hj,λw' e=>?_⟩;have:w'=w:=by rw[e];rfl
  subst this;exact⟨ar.nil,Mod.refl _ _⟩
 ·have iK:s.D=some g0:=by unfold H.D;rw[ha];rfl
  have TS:((List.replicate (s.n-i) ((0,0,0,0):It)).map fM).flatten.length=(s.n-i)*4:=by rw[bQ (fN _)];simp
  have hcl:s.n*4<=cs.length:=cV (tf _ Is) hc;rw[ha];have hz0:s.c=i->((List.replicate (s.n-i) ((0,0,0,0):It)).map fM).flatten=[]:=λe=>by
   have:s.n-i=0:=by omega
   rw[this];rfl
  obtain⟨p1,p2,p3⟩:=hr.ac5 (l:=i) (m:=s.c) (size:=4) hz0 (by rw[TS];omega) (gy (kW _));rw[TS]at p1;refine⟨p1,λw' e=>?_⟩;rw[<-e]at p2 p3;refine⟨ar.jO (eG _) p2 (by rw[Go.Vc.db];exact hc) U ?_ (fN _),p3.mono λb _ hb=>by rw[iK,hb]⟩;rw[dX _ _ _ (by rw[TS];omega),fT,FI (by rw[cS];omega),<-JN,<-ht,List.take_take,Nat.min_eq_left U]
def ac6(hi:i<l.length)(x:It): (N s.a (i*4)).isSome=true/\Wr w (N s.a (i*4)) 4/\∀w',w'=bB w (N s.a (i*4)) (fM x)->ar 0 cc 4 w' s ((l.set i x).map fM)/\Mod (λb=>s.D=some b) w w':=by
 have⟨h1,h2,h3,h4,h5⟩:=ho.put (i:=i) (r:=fM x) (ds hi) X rfl (rT x);refine⟨h1,h2,λw' e=>?_⟩;subst e;exact⟨by rw[pM];exact h3,h4.os,h4.tape,h4.output,h4.size,λj _ hn=>h5 j hn⟩
def DG{b:Nat}{c:Cl}(hb:Row w b (eV c) zk)(hl:l.length<=5000): Y 321 #[s,.func (.func 322) #[] #[.pointer (some ⟨b,0,none⟩)]] w λe w'=>∃s':H,e=s'/\ar 0 cc 4 w' s' ((iH l c).map fM)/\Mod (λb=>s.D=some b) w w'/\s'.D=s.D:=by
 have hn:s.n=l.length:=a0t
 have TT:s.D≠some b:=λe=>by
  rcases ho.form X with⟨hs,Et⟩|⟨g0,cs,ha,hg0,hr,hc,Is,ht,hn'⟩
  ·rw[hs]at e;cases e
  ·have:g0=b:=by unfold H.D at e;rw[ha]at e;simpa using e
   exact hr.ne hb X this
 apply rU.B;refine(xz (ho.rd X) hb hl).mono ?_;rintro e w1 ⟨⟨i,rfl,hi⟩,x1⟩;refine⟨i,rfl,Z.mk (λh=>?_) (λh=>?_)⟩
 ·have hm:i= -1:=by simpa using h
  rcases hi with⟨-,wo⟩|⟨k,hk,-⟩
  ·refine⟨s,rfl,?_,Mod.P x1,rfl⟩;have:iH l c=l:=by unfold iH;rw[Ph];intro x hx;simpa using wo x hx
   rw[this];exact ho.ext x1
  ·omega
 ·have hm:i≠-1:=by simpa using h
  rcases hi with⟨hi,-⟩|⟨k,rfl,hk,aw1,hkc⟩
  ·exact absurd hi hm
  have hw:=nE (j:=k);have hq:iH (l.take (k+1)) c=l.take k:=by
   unfold iH;rw[dq,wG];have e1:(l.take k).filter (λx=>x.2 !=c)=l.take k:=by rw[Ph];intro x hx;simpa using aw1 x hx
   have gd:l[k]? =some (l[k]'hk):=cK hk;have:=hkc _ gd;rw[e1,gd];simp[this]
  refine⟨λn a d wr=>Mod (λb=>s.D=some b) w wr/\∃(j m:Nat)(l':List It),a=j/\d=m/\j+n=l.length/\m<j/\m=(iH (l.take j) c).length/\ar 0 cc 4 wr s (l'.map fM)/\l'.length=l.length/\l'.take m=iH (l.take j) c/\l'.drop j=l.drop j,⟨l.length-(k+1),Mod.P x1,k+1,k,l,hw,rfl,U,U,?_,ho.ext x1,rfl,hq.symm,rfl⟩,?_⟩
  ·rw[hq,cS];omega
  rintro n us a d wr ⟨ub,j,m,l',rfl,rfl,h1,h2,h3,ho',h4,h5,h6⟩;have hbr:Row wr b (eV c) zk:=ub.row hb TT;refine Z.mk (λfK=>?_) (λS5=>?_)
  ·replace fK:=lM fK;have gd:l[j]? =some (l[j]'U):=cK U;generalize l[j]'U=y at gd;have arE:l'[j]? =some y:=by have:=congrArg (λq:List It=>q[0]?) h6;simpa[yZ,gd]using this
   refine⟨⟨(ho'.rd X).isSome X (i:=j) m_,U,U⟩,y.1,y.2.1,y.2.2.1,y.2.2.2,RdK.item (ho'.rd X) arE,?_⟩;intro bw Dz cp yF;have cY:Ext wr cp:=(Ext.M wr|>.aZ Dz).L yF (ak _);have anz:wr.heap.size<cp:=by rw[yF,setRow_size,Dz];simp
   refine bR (by kernel_rfl) rfl ((FJ y (hbr.ext cY)).F λw2 x2=>?_);have x3:=cY.A x2;have hwj:=nE (j:=j);have hwm:=nE (j:=m);have hqj:iH (l.take (j+1)) c=iH (l.take j) c++(if y.2=c then []else [y]):=by unfold iH;rw[dq,gd,wG];congr 1;by_cases hy:y.2=c<;>simp[hy]
   refine⟨_,rfl,x2.heap anz,Z.mk (λlk=>?_) (λlk=>?_)⟩
   ·have hy:y.2≠c:=by simpa using lk
    have⟨p1,p2,p3⟩:=ac6 (ho'.ext x3) (i:=m) U y;refine⟨⟨(ho'.rd X).isSome X (i:=m) m_,U,U⟩,⟨p1,p2⟩,?_,?_⟩
    ·rw[cB];intro e;have:=ho'.own.lt (g:=wr.heap.size) e;omega
    ·intro cP ug;have⟨q1,q2⟩:=p3 cP ug;rw[hwj,hwm];refine⟨n-1,U,(ub.trans (Mod.P x3)).trans q2,j+1,m+1,l'.set m y,rfl,rfl,U,U,?_,q1,by rw[lO,h4],?_,?_⟩
     ·rw[hqj,if_neg hy,cj,<-h3];rfl
     ·rw[hqj,if_neg hy,<-h5,dq,List.take_set_of_le (ak _),uA U];rfl
     ·rw[List.drop_set_of_lt U];have:=congrArg (List.drop 1) h6;simpa[List.drop_drop]using this
   ·have hy:y.2=c:=by simpa using lk
    rw[hwj];refine⟨n-1,U,ub.trans (Mod.P x3),j+1,m,l',rfl,rfl,U,U,?_,ho'.ext x3,h4,?_,?_⟩
    ·rw[hqj,if_pos hy,oV];exact h3
    ·rw[hqj,if_pos hy,oV];exact h5
    ·have:=congrArg (List.drop 1) h6;simpa[List.drop_drop]using this
  ·replace S5:=lW S5;have hj:j=l.length:=by omega
   have afV:=(ho'.form X);have Is:s.n<=s.c:=by
    rcases afV with⟨hs,-⟩|⟨g0,cs,ha,hg0,hr,hc,Is,ht,hn'⟩
    ·rw[hs];exact ak _
    ·exact Is
   have⟨p1,p2⟩:=FH ho' (i:=m) U;refine⟨U,U,p1,λdA Ot=>?_⟩;have⟨q1,q2⟩:=p2 dA Ot;refine⟨U,U,⟨s.a,m,s.c⟩,?_,?_,ub.trans q2,rfl⟩
   ·rw[dt];rfl
   ·rw[h5,hj,kB]at q1;exact q1
def Py{n:Nat}(hi:n<=l.length)(hl:l.length<=5000): Y 218 #[s,J,(n:Int)] w λe w'=>∃s':H,e=s'/\ar 0 cc 4 w' s' ((l.drop n).map fM)/\Mod (λb=>s.D=some b) w w'/\s'.D=s.D:=by
 have hn:s.n=l.length:=by rw[(ho.rd X).n,aK]
 have Is:s.n<=s.c:=by
  rcases ho.form X with⟨hs,-⟩|⟨g0,cs,ha,hg0,hr,hc,Is,ht,hn'⟩
  ·rw[hs];exact ak _
  ·exact Is
 apply xA.B;refine⟨U,U,U,U,U,U,Z.mk (λh=>?_) (λh=>?_)⟩
 ·have:n=0:=by
   have:(0:Int)=n:=by simpa using h
   omega
  subst this;exact⟨s,rfl,ho,Mod.refl _ _,rfl⟩
 ·have CG:0<n:=by
   have:(0:Int)≠n:=by simpa using h
   omega
  rcases ho.form X with⟨hs,Et⟩|⟨g0,cs,ha,hg0,hr,hc,Is,ht,hn'⟩
  ·have:l=[]:=by simpa using Et
   subst this;simp at hi;omega
  have iK:s.D=some g0:=by unfold H.D;rw[ha];rfl
  have lE:((l.drop n).map fM).flatten.length=(s.n-n)*4:=by rw[bQ (fN _)];simp;omega
  have hcl:s.n*4<=cs.length:=cV (tf _ Is) hc;have hr':=hr.ext (Ext.K w);simp only[iI,Nat.sub_zero,dt,Int.toNat_zero];rw[ha];refine⟨U,U,U,U,((l.drop n).map fM).flatten,?_,?_,?_⟩
  ·exact hr'.amb (by intro e;rw[wH U];rfl) (FK ht hn n)
  ·refine⟨λ_=>?_,λh=>?_,λh=>?_,lE,gy (kW _)⟩
   ·show Wr _ (N (O g0) (0*4)) _;rw[aF];exact hr'.wr (by rw[lE];omega)
   ·simp only at h;omega
   ·simp only at h;omega
  ·intro s1 w2 bq
   cases bq with
   |grows hg=>simp only at hg;omega
   |fits hf=>
    dsimp only;have e0:N (some (⟨g0,0,none⟩:Addr)) (0*4)=O g0:=by rw[aF]
    rw[e0];have oD:=hr'.bB (o:=0) (vs:=((l.drop n).map fM).flatten) (by rw[lE];omega) (gy (kW _));have jT:Row (Go.Vc.bB w.drew (O g0) ((l.drop n).map fM).flatten) g0 (putCells cs 0 ((l.drop n).map fM).flatten) cc:=by rw[oD];exact hr'.set _
    have yA:Mod (λi=>i=g0) w (Go.Vc.bB w.drew (O g0) ((l.drop n).map fM).flatten):=by rw[oD];exact(Mod.P (Ext.K w)).trans ⟨rfl,rfl,rfl,by rw[setRow_size];exact ak _,λi _ hn=>setRow_other _ _ _ _ hn⟩
    generalize Go.Vc.bB w.drew (O g0) ((l.drop n).map fM).flatten=w2 at jT yA;have hz:0+(s.n-n)=s.n-n:=by omega
    rw[hz];have lF:ar 0 cc 4 w2 ⟨O g0,s.n,s.c⟩ ((l.drop n++l.drop (l.length-n)).map fM):=by refine ar.jO (eG _) jT (by rw[Go.Vc.db];exact hc) Is ?_ (fN _);rw[dX _ _ _ (by rw[lE];omega),cl,zm,JO,Pz];rw[List.take_append,dN (by rw[lE];omega),lE,eF,<-JP l (l.length-n),<-ht];congr 1;rw[List.drop_take,hn]
    obtain⟨p1,p2⟩:=FH lF (i:=s.n-n) m_;have hnn:((s.n:Nat):Int).toNat-(((s.n-n:Nat):Nat):Int).toNat=s.n-(s.n-n):=by omega
    refine⟨U,U,U,U,p1,λw3 e3=>?_⟩;obtain⟨q1,q2⟩:=p2 w3 e3;refine⟨⟨O g0,s.n-n,s.c⟩,rfl,?_,?_,iK.symm⟩
    ·rw[FI m_]at q1;exact q1
    ·refine(yA.mono λb _ hb=>by rw[iK,hb]).trans (q2.mono λb _ hb=>?_);have:g0=b:=by simpa[H.D]using hb
     rw[iK,this]
end
def gN(g m:Nat)(s:H):Nat->Prop:=λi=>i=g\/i=m\/s.D=some i
abbrev B4(q:QS)(s:H)(m:Nat):LV:=[S q.room,S q.lost,.slice s.a s.n s.c,.map (some m)]
def ql(kvs:List (aC×aC))(l:List It):Prop:=(∀c t,(cv c,tv t)∈kvs↔(t,c)∈l)/\∀e∈kvs,∃c t,e=(cv c,tv t)
structure tX(w:au)(g m:Nat)(s:H)(q:QS):Prop where
 row:Row w g (B4 q s m) nM
 own:ar 0 cc 4 w s (q.l.map fM)
 map:∃kvs,bG GC w (some m) kvs/\ql kvs q.l
section
variable{w:au}{g m:Nat}{s:H}{q:QS}{E:aB}(h:tX w g m s q)
def tX.dR{b:Nat}{cs:LV}(hb:Row w b cs E)(h1:E≠nM)(h2:E≠cc):¬gN g m s b:=by
 rintro(rfl|rfl|e)
 ·exact hb.ne h.row h1 rfl
 ·obtain⟨kvs,hm,-⟩:=h.map;exact hb.fH hm rfl
 ·have⟨cs',hr⟩:=aT h.own X e;exact hb.ne hr h2 rfl
def tX.aez{B E k:Nat}{s':H}{rows:List (LV)}(ho:ar B E k w s' rows)(hk:0<k)(h1:E≠nM)(h2:E≠cc):∀b,s'.D=some b->¬gN g m s b:=λb hb=>by
 have⟨cs,hr⟩:=aT ho hk hb
 exact h.dR hr h1 h2
def tX.lt:∀i,gN g m s i->i<w:=by
 rintro i (rfl|rfl|e)
 ·exact h.row.lt
 ·obtain⟨kvs,hm,-⟩:=h.map;exact hm.lt
 ·exact(h.own.own.lt e).2
variable{w':au}
def tX.aV{F:Nat->Prop}(hm:Mod F w w')(hn:∀i,gN g m s i->¬F i):tX w' g m s q:=by have⟨kvs,h1,h2⟩:=h.map;exact⟨hm.row h.row (hn g (.inl rfl)),hm.gR h.own λb hb=>hn b (.inr (.inr hb)),kvs,hm.map h1 (hn m (.inr (.inl rfl))),h2⟩
def tX.ext(x:Ext w w'):tX w' g m s q:=
 h.aV (F:=λ_=>False) ⟨x.os,x.tape,x.output,x.size,λi hi _=>x.heap hi⟩ λ_ _ hf=>hf
def tX.xZ:g≠m:=by obtain⟨kvs,hm,-⟩:=h.map;exact h.row.fH hm
def tX.B5:s.D≠some m:=λe=>by
 obtain⟨kvs,hm,-⟩:=h.map
 have⟨cs,hr⟩:=aT h.own X e
 exact hr.fH hm rfl
def tX.Nc:s.D≠some g:=λe=>by
 have⟨cs,hr⟩:=aT h.own X e
 exact hr.ne h.row X rfl
variable{kvs:List (aC×aC)}{l:List It}(h:ql kvs l)
def ql.look(hn:(l.map (·.2)).Nodup)(c:Cl):Gq kvs (cv c) (tv 0) (tv ((nm l c).getD 0)) (nm l c).isSome:=by
 cases hq:nm l c with
 |some t=>exact .inl ⟨rfl,(h.1 c t).2 (yb hq)⟩
 |none=>
  refine .inr ⟨rfl,rfl,λe he hk=>?_⟩;obtain⟨c',t,rfl⟩:=h.2 e he;exact sH hq (t,c') ((h.1 _ _).1 he) (G5 hk)
open Classical in
def ql.del{kvs:List (aC×aC)}{l:List It}(h:ql kvs l)(c:Cl):ql (Hr kvs (cv c)) (iH l c):=by
 refine⟨λc' t=>?_,λe he=>h.2 e (jY.1 he).1⟩;unfold Hr iH;rw[jY,jY,h.1];refine and_congr_right λ_=>?_
 rw[bne_iff_ne];refine decide_eq_true_iff.trans ?_;exact not_congr ⟨λe=>G5 e,λe=>by rw[show c'=c from e]⟩
def ql.ins{x:It}(hx:∀y∈l,y.2≠x.2):ql (oY kvs (cv x.2) (tv x.1)) (tY l x):=by
 unfold oY;rw[if_neg]
 ·refine⟨λc t=>?_,λe he=>?_⟩
  ·rw[dp,h.1,G8,ig];constructor
   ·rintro(h1|h1)
    ·exact .inr h1
    ·have⟨e1,e2⟩:=Prod.mk.inj h1;have:=G5 e1;have h2:t=x.1:=by unfold tv at e2;injection e2
     left;rw[this,h2]
   ·rintro(h1|h1)
    ·right;rw[<-h1]
    ·exact .inl h1
  ·rcases dp.1 he with he|he
   ·exact h.2 e he
   ·rw[ig]at he;exact⟨_,_,he⟩
 ·rintro⟨e,he,hk⟩;obtain⟨c',t,rfl⟩:=h.2 e he;exact hx (t,c') ((h.1 _ _).1 he) (G5 hk)
def ql.perm{l':List It}(hl:∀x,x∈l↔x∈l'):ql kvs l':=⟨λc t=>(h.1 c t).trans (hl _),h.2⟩
def Au(room:Int)(w:au):Y 174 #[room] w λe w'=>∃g m,e=dr (O g)/\tX w' g m ⟨none,0,0⟩ ⟨min (max room 1) 4096,0,[]⟩/\Ext w w'/\w<=g/\w<=m:=by
 apply aav.B;intro w0 e0 w1 e1;have hm:bG GC w0 (some w) []:=by rw[e0];exact bG.new
 have x1:=aU e1;refine⟨w0,w,rfl,⟨?_,ar.nil,[],?_,by simp[ql]⟩,(aU e0).A x1,?_,ak _⟩
 ·have:(min (max room 1) 4096)=(if 4096<(if 1>room then 1 else room)then 4096 else(if 1>room then 1 else room)):=by split<;>split<;>omega
  rw[e1,this];exact Row.new w0 [_,_,_,_] _
 ·exact hm.same (x1.heap hm.lt)
 ·rw[e0];simp
def EW(h:tX w g m s q)(hq:yN q)(c:Cl):ed 273 #[g,cv c] w (bT #[S ((nm q.l c).getD 0),.bool (nm q.l c).isSome]):=by apply Hs.B;intro w0 e0;have x0:Ext w w0.drew:=(Ext.M w|>.aZ e0).drew;have h0:=h.ext x0;have⟨kvs,hm,ht⟩:=h0.map;exact⟨some m,h0.row.at 3 rfl,GC,kvs,AD,hm,⟨c,rfl⟩,_,_,ht.look hq.nodup c,rfl,x0⟩
end
section
variable{g m:Nat}{s:H}{w:au}
def gN.uZ{s':H}{w':au}(hm:Mod (gN g m s) w w')(hs:∀b,s'.D=some b->s.D=some b\/w<=b):aJ (gN g m s) (gN g m s') w w':=
 ⟨hm,λi hi=>by
  rcases hi with h|h|h
  ·exact .inl (.inl h)
  ·exact .inl (.inr (.inl h))
  ·rcases hs i h with h|h
   ·exact .inl (.inr (.inr h))
   ·exact .inr h⟩
variable{q:QS}(h:tX w g m s q)
def Kq(hsort:q.l.Pairwise λa b=>a.1<=b.1)(hl:q.l.length<=4998){x:It}(hx:∀y∈q.l,y.2≠x.2): Y 275 #[g,.agg (fM x).toArray] w λe w'=>e=pz/\∃s',tX w' g m s' {q with l:=tY q.l x}/\aJ (gN g m s) (gN g m s') w w':=by
 apply B3.B;intro w0 e0;have x0:=aU e0;have Fb:=fD e0;have h0:=h.ext (x0.drew);refine⟨s,h0.row.at 2 rfl,?_⟩;refine(aej x (h0.own.rd X) hsort U).mono ?_;rintro e w2 ⟨⟨b,rfl⟩,x2⟩;refine⟨_,b,rfl,x2.heap (show w.heap.size<w0 by omega),?_⟩;have h2:=(h0.ext x2).ext (Ext.K _);refine⟨s,h2.row.at 2 rfl,?_⟩;intro w6 e6;have x6:=aU e6;have h6:=h2.ext x6;have de:Row w6 w2.drew.heap.size (fM x) cc:=by rw[e6];exact Row.new _ _ _
 have IB:=x2.size;have nR:w.heap.size<w2.drew.heap.size:=gK (show w.heap.size<w0 by omega) IB;have hk:=(List.takeWhile_sublist (λy:It=>decide (y.1<=x.1)) (l:=q.l)).length_le;have TT:s.D≠some w2.drew.heap.size:=λe=>a1N (h2.lt _ (.inr (.inr e)))
 refine(QW h6.own de hk U TT).mono ?_;rintro e w7 ⟨s8,rfl,KZ,hm8,hs8⟩;have azE:s.D≠some w.heap.size:=λe=>a1N (h.lt _ (.inr (.inr e)))
 have x06:Ext w w6:=((x0.drew).A x2).A ((Ext.K _).A x6);refine⟨s8,rfl,hm8.same _ (a1N x6.size) azE,?_⟩;have hr7:Row w7 g (B4 q s m) nM:=hm8.row h6.row h6.Nc;have⟨p1,p2⟩:=hr7.ft (j:=2) (v:=.slice s8.a s8.n s8.c) bo rfl;refine⟨⟨rfl,p1⟩,?_,?_⟩
 ·rw[cB];intro e;have:=h.row.lt;have:g=w.heap.size:=by simpa[bM]using e
  omega
 intro w9 e9;have⟨q1,q2⟩:=p2 w9 e9;have x9:=Ext.K w9;have hr9:=q1.ext x9;refine⟨some m,hr9.at 3 rfl,?_⟩;have⟨kvs,agV,ht⟩:=h6.map;have hmap9:bG GC w9.drew (some m) kvs:=(Mod.P (F:=λ_=>False) x9).map (q2.map (hm8.map agV h6.B5) (Ne.symm h.xZ)) bo;refine⟨GC,kvs,AD,rfl,hmap9,⟨x.2,rfl⟩,?_⟩;intro bw fL hmap13;have aph:=Mod.oX fL;refine⟨rfl,s8,⟨?_,?_,_,hmap13,ht.ins hx⟩,gN.uZ ?_ ?_⟩
 ·exact aph.row hr9 h.xZ
 ·have he:=aiz q.l x;rw[he]at KZ;have hrow8:=λb hb=>aT KZ X (b:=b) hb
  refine aph.gR ((q2.gR KZ λb hb hf=>?_).ext x9) λb hb hf=>?_
  ·have⟨cs,hr⟩:=hrow8 b hb;exact hr.ne hr7 X hf
  ·have⟨cs,hr⟩:=hrow8 b hb;exact hr.fH (hm8.map agV h6.B5) hf
 ·refine((((Mod.P x06).trans (hm8.mono λb _ hb=>.inr (.inr hb))).trans (q2.mono λb _ hb=>.inl hb)).trans (Mod.P x9)).trans (aph.mono λb _ hb=>.inr (.inl hb))
 ·intro b hb;rcases hs8 b hb with h1|h1
  ·exact .inl h1
  ·exact .inr (cV x06.size h1)
def Z5(hq:yN q)(c:Cl): Y 274 #[g,cv c] w λe w'=>e=eL (nm q.l c).isSome/\∃s',tX w' g m s' {q with l:=iH q.l c}/\aJ (gN g m s) (gN g m s') w w':=by
 apply B6.B;intro w0 e0;have x0:=aU e0;have hbox0:Row w0 w (eV c) zk:=by rw[e0];exact Row.new _ _ _
 have h0:=h.ext x0.drew;have⟨kvs,hm,ht⟩:=h0.map;refine⟨some m,h0.row.at 3 rfl,GC,kvs,AD,hm,⟨c,rfl⟩,_,_,ht.look hq.nodup c,Z.mk (λhb=>?_) (λhb=>?_)⟩
 ·have hn:nm q.l c=none:=by simpa using hb
  refine⟨by rw[hn];rfl,s,?_,aJ.P x0.drew⟩;have:iH q.l c=q.l:=by unfold iH;rw[Ph];intro y hy;simpa using sH hn y hy
  rw[this];exact h0
 ·have hsome:(nm q.l c).isSome=true:=by simpa using hb
  have h1:=h0.ext (Ext.K _);refine⟨some m,h1.row.at 3 rfl,GC,kvs,AD,rfl,(Mod.P (F:=λ_=>False) (Ext.K _)).map hm bo,⟨c,rfl⟩,?_⟩;intro w9 fL hmap9;have hm9:=Mod.oX fL;have hr9:Row w9 g (B4 q s m) nM:=hm9.row h1.row h.xZ;refine⟨s,hr9.at 2 rfl,?_⟩;have cX:=hq.len;have hroom:=hq.room;have hbox9:Row w9 w (eV c) zk:=hm9.row (hbox0.ext (Ext.K _|>.A (Ext.K _))) (λe=>by have:w=m:=e;have:=h.lt m (.inr (.inl rfl));omega);have ho9:ar 0 cc 4 w9 s (q.l.map fM):=hm9.gR h1.own λb hb hf=>h1.B5 a0y
  refine(DG ho9 hbox9 U).mono ?_;rintro e bE ⟨qo,rfl,akc,api,agO⟩;have hsm:s.D≠some m:=h.B5;have atr:Row bE g (B4 q s m) nM:=api.row hr9 h.Nc;have⟨p1,p2⟩:=atr.ft (j:=2) (v:=.slice qo.a qo.n qo.c) bo rfl;refine⟨qo,rfl,⟨rfl,p1⟩,λbw Dz=>?_⟩;have⟨q1,q2⟩:=p2 bw Dz;refine⟨by rw[hsome],qo,⟨q1,?_,_,q2.map (api.map hmap9 hsm) (Ne.symm h.xZ),ht.del c⟩,gN.uZ ?_ ?_⟩
  ·refine q2.gR akc λb hb hf=>?_
   have⟨cs,hr⟩:=aT akc X hb;exact hr.ne atr X hf
  ·exact(((Mod.P (x0.drew.drew)).trans (hm9.mono λb _ hb=>.inr (.inl hb))).trans (api.mono λb _ hb=>.inr (.inr hb))).trans (q2.mono λb _ hb=>.inl hb)
  ·intro b hb;exact .inl (agO▸hb)
end
def GV{w:au}{g m:Nat}{s:H}{q:QS}(h:tX w g m s q)(hq:yN q)(hl:0<=q.lost/\q.lost<=1000000000)(c:Cl)(t:Int): Y 219 #[g,cv c,t] w λe w'=>e=eL (lD q c t).2/\∃s',tX w' g m s' (lD q c t).1/\aJ (gN g m s) (gN g m s') w w':=by
 apply Ek.B;intro w0 e0;have x0:=aU e0;have Fb:=fD e0;have h0:=h.ext x0;have hn:s.n=q.l.length:=by rw[(h.own.rd X).n,aK]
 have cX:=hq.len;have hroom:=hq.room;have hbg:g<w:=h.row.lt;have hbf:∀{s':H}{w1 w':au},w.heap.size<w1->aJ (gN g m s) (gN g m s') w1 w'->w'.heap[w.heap.size]? =w1.heap[w.heap.size]? :=λfK ht=>
  ht.mod.same _ fK λhf=>a1N (h.lt _ hf)
 refine(EW h0 hq c).F λw1 x1=>?_
 have h1:=h0.ext x1;have lq:=x0.A x1;have hz1:w.heap.size<w1:=a1N x1.size
 refine⟨_,_,rfl,x1.heap (show w.heap.size<w0 by omega),Z.mk (λhb=>?_) (λhb=>?_)⟩
 ·have⟨was,hw⟩:=qI.1 hb;have hg:(nm q.l c).getD 0=was:=by rw[hw];rfl
  rw[hg];refine Z.mk (λhc=>?_) (λhc=>Z.mk (λ_=>?_) (λhn=>by rw[hb]at hn;cases hn))
  ·replace hc:=lM hc;have e:lD q c t=(q,false):=by unfold lD;rw[hw];simp[hc]
   rw[e];exact⟨rfl,s,h1,aJ.P lq⟩
  ·replace hc:=lW hc;have e:lD q c t=({q with l:=tY (iH q.l c) (t,c)},true):=by unfold lD;rw[hw];simp[hc]
   rw[e];refine(Z5 h1 hq c).mono ?_;rintro e w4 ⟨rfl,s4,h4,t4⟩;refine⟨_,rfl,hbf hz1 t4,?_⟩;have hq4:=hq.drop c;have hl4:=hq4.len;have hz4:=t4.mod.size;refine(Kq (x:=(t,c)) h4 hq4.sorted (by simp only at hl4⊢;omega) (λy hy=>by have:=(jY.1 hy).2;simpa using this)).mono ?_;rintro e w6 ⟨rfl,s6,h6,t6⟩;refine⟨rfl,t6.mod.same _ U (λhf=>?_),rfl,s6,h6,((aJ.P lq).trans t4).trans t6⟩;rcases t4.sub _ hf with hf|hf
   ·have:=h.lt _ hf;omega
   ·omega
 ·refine Z.mk (λhb'=>by rw[hb]at hb';cases hb') (λ_=>?_);have hw:nm q.l c=none:=by simpa using hb
  have h1d:=h1.ext (Ext.K w1);refine⟨s,h1d.row.at 2 rfl,q.room,h1d.row.at 0 rfl,?_⟩;rw[hn];apply Z.mk<;>intro hc
  ·have hc':((q.l.length:Nat):Int)=q.room:=by simpa using hc
   have e:lD q c t=({q with lost:=q.lost+1},false):=by unfold lD;rw[hw];simp[hc']
   rw[e];have⟨p1,p2⟩:=h1d.row.ft (j:=1) (v:=S (I (q.lost+1))) bo rfl;refine⟨q.lost,h1d.row.at 1 rfl,⟨rfl,p1⟩,?_,λbr vv=>?_⟩
   ·rw[cB];intro e;have:g=w.heap.size:=by simpa[bM]using e
    omega
   ·have⟨q1,q2⟩:=p2 br vv;rw[wI]at q1;have⟨kvs,hm,ht⟩:=h1d.map;refine⟨rfl,s,⟨q1,q2.gR h1d.own λb hb hf=>h.Nc a0y,kvs,q2.map hm (Ne.symm h.xZ),ht⟩,(aJ.P lq.drew).trans (gN.uZ (q2.mono λb _ hb=>.inl hb) λb hb=>.inl hb)⟩
  ·have hc':((q.l.length:Nat):Int)≠q.room:=by simpa using hc
   have e:lD q c t=({q with l:=tY q.l (t,c)},true):=by
    unfold lD;rw[hw];have:¬(q.l.length:Int)>=q.room:=by omega
    simp only;rw[if_neg this]
   rw[e];refine(Kq (x:=(t,c)) h1d hq.sorted U (sH hw)).mono ?_;rintro e w6 ⟨rfl,s6,h6,t6⟩;exact⟨rfl,hbf hz1 t6,rfl,s6,h6,(aJ.P lq.drew).trans t6⟩
def aeV{w:au}{g m:Nat}{s a:H}{q:QS}{xs:List It}(h:tX w g m s q)(hq:yN q)(hl:0<=q.lost/\q.lost+xs.length<=1000000000)(ha:RdK w a 4 (xs.map fM))(fK:∀b,a.D=some b->b<w.heap.size)(hd:∀b,a.D=some b->¬gN g m s b): Y 249 #[g,a] w λe w'=>e=S (Ea q xs).2/\∃s',tX w' g m s' (Ea q xs).1/\aJ (gN g m s) (gN g m s') w w':=by
 have hn:a.n=xs.length:=by rw[ha.n,aK]
 apply El.B;refine⟨λn x y wr=>∃(j k:Nat)(sr:H)(qr:QS),x=j/\y=k/\j+n=xs.length/\k<=j/\tX wr g m sr qr/\yN qr/\aJ (gN g m s) (gN g m sr) w wr/\0<=qr.lost/\qr.lost<=q.lost+j/\(Ea qr (xs.drop j)).1=(Ea q xs).1/\k+(Ea qr (xs.drop j)).2=(Ea q xs).2,
  ⟨xs.length,0,0,s,q,rfl,rfl,U,ak _,h,hq,aJ.refl _ _,hl.1,U,rfl,bo⟩,?_⟩
 rintro n us x y wr ⟨j,k,sr,qr,rfl,rfl,h1,h2,hqr,hok,ht,h3,h4,h5,h6⟩;have har:RdK wr a 4 (xs.map fM):=ht.mod.rdK X ha λ_ b hb=>hd b hb
 apply Z.mk<;>intro hc
 ·replace hc:=lM hc;have gd:xs[j]? =some (xs[j]'U):=cK U;have hdrop:xs.drop j=xs[j]'U::xs.drop (j+1):=zV U;generalize xs[j]'U=z at gd hdrop;refine⟨⟨har.isSome X (i:=j) m_,U,U⟩,z.1,z.2.1,z.2.2.1,z.2.2.2,RdK.item har gd,?_⟩;intro bE A8 bN ui;have cr:Ext wr bN:=(Ext.M wr|>.aZ A8).L ui (ak _);have agO:wr.heap.size<bN:=by rw[ui,setRow_size,A8];simp
  refine(GV (hqr.ext cr) hok ⟨h3,U⟩ z.2 z.1).mono ?_;rintro e bw ⟨rfl,kP,h13,t13⟩;have hlo:=BY qr z.2 z.1;have hwj:=nE (j:=j);have TY:=nE (j:=k);rw[hdrop]at h5 h6;simp only[Ea]at h5 h6;have ht':=(ht.trans (aJ.P cr)).trans t13;refine⟨_,rfl,t13.mod.same _ agO (λhf=>?_),Z.mk (λhb=>?_) (λhb=>?_)⟩
  ·have:=hqr.lt _ hf;omega
  ·rw[hb]at h6;simp only[if_true]at h6;rw[hwj,TY];exact⟨n-1,U,j+1,k+1,kP,_,rfl,rfl,U,U,h13,hok.add _ _,ht',U,U,h5,U⟩
  ·rw[hb]at h6;simp only[Bool.false_eq_true,if_false]at h6;rw[hwj];exact⟨n-1,U,j+1,k,kP,_,rfl,rfl,U,U,h13,hok.add _ _,ht',U,U,h5,U⟩
 ·replace hc:=lW hc;have hj:j=xs.length:=by omega
  rw[hj,List.drop_length]at h5 h6;simp only[Ea]at h5 h6;refine⟨by rw[<-h6];rfl,sr,?_,ht⟩;rw[<-h5];exact hqr
section
variable{w:au}{s:H}
def Vp{l:List It}(ho:ar 0 cc 4 w s (l.map fM))(hl:l.length<=5000): Y 135 #[s] w λe w'=>∃s':H,e=s'/\ar w cc 4 w' s' (l.map fM)/\Ext w w':=by
 apply AN.B;have hn:s.n=l.length:=a0t
 apply Z.mk<;>intro h
 ·rcases ho.form X with⟨hs,Et⟩|⟨g0,cs,ha,-⟩
  ·exact⟨⟨none,0,0⟩,rfl,by rw[Et];exact ar.nil,Ext.M _⟩
  ·rw[ha]at h;cases h
 ·intro w0 e0;have x0:=aU e0;have Fb:=fD e0;have hr0:Row w0 w [] cc:=by rw[e0];exact Row.new _ _ _
  have lF:ar w cc 4 w0 ⟨O w,0,0⟩ []:=ar.jO (ak _) hr0 bo (ak _) rfl bo;have⟨hp,hr⟩:=lF.FB (bytes:=32) (more:=l.map fM) x0.size (fN _) (kW _) m_ m_;rw[aK,<-hn]at hp hr;refine⟨(l.map fM).flatten,((ho.ext x0).rd X).flat X,hp,λs2 w3 bq=>?_⟩;have⟨h1,h2,h3,h4,h5⟩:=hr s2 w3 bq;refine⟨pW bq (by rw[bQ (fN _),aK,hn]) U,s2,rfl,h1,x0.trans h3⟩
variable{g m:Nat}{q:QS}(h:tX w g m s q)
def aee(hq:yN q):Y 75 #[g] w λe w'=>∃s':H,e=s'/\ar w cc 4 w' s' (q.l.map fM)/\Ext w w':=by apply Ed.B;have:=hq.len;have:=hq.room;refine⟨s,h.row.at 2 rfl,(Vp h.own U).mono ?_⟩;rintro e w1 ⟨s',rfl,h1,x1⟩;exact⟨s',rfl,s',rfl,h1,x1⟩
def late{F g_ M:Prop}(main:(F->g_)->M)(fin:F->g_):M:=main fin
def aeu(hq:yN q)(now many:Int): Y 150 #[g,now,many] w λe w'=>∃so:H,e=tr so.a so.n so.c/\∃s',ar w zk 3 w' so ((Na q now many).2.map eV)/\tX w' g m s' (Na q now many).1/\aJ (gN g m s) (gN g m s') w w':=by
 have hn:s.n=q.l.length:=by rw[(h.own.rd X).n,aK]
 have cX:=hq.len;have hroom:=hq.room;have afV:s.n<=s.c:=by
  rcases h.own.form X with⟨hs,-⟩|⟨g0,cs,ha,hg0,hr,hc,Is,-⟩
  ·rw[hs];exact ak _
  ·exact Is
 have hql:=aaa q.l now many;apply Ee.B;refine⟨λn x wr=>w=wr/\∃k:Nat,x=k/\k+n=iQ q.l now many,⟨iQ q.l now many,rfl,0,rfl,U⟩,?_⟩;rintro n0 us x wr ⟨rfl,k,rfl,hk⟩;have Yv:k<=q.l.length:=by omega
 apply late (F:=k=iQ q.l now many)
 ·intro fin;refine⟨s,h.row.at 2 rfl,Z.mk (λhc=>?_) (λhc=>?_)⟩
  ·replace hc:=lM hc;have gd:q.l[k]? =some (q.l[k]'U):=cK U;have Ir:=Z9 hq now many gd;generalize q.l[k]'U=y at gd Ir;apply Z.mk<;>intro nA
   ·replace nA:=lM nA;have gF:=h.own.rd X;refine⟨s,h.row.at 2 rfl,⟨gF.isSome X (i:=k) m_,U,U⟩,?_⟩;have hsm:(N s.a ((k:Int).toNat*4)).isSome=true:=by rw[Dj];exact gF.isSome X (i:=k) m_
    refine bO.2 ⟨rJ.2 hsm,y.1,?_,Z.mk (λLf=>?_) (λLf=>?_)⟩
    ·exact gF.at (i:=k) (r:=fM y) (by rw[aW,gd];rfl) rfl
    ·replace Lf:=lM Lf;have:=Ir.2 ⟨nA,Lf⟩;have hw:=nE (j:=k);exact⟨n0-1,U,rfl,k+1,hw,U⟩
    ·replace Lf:=lW Lf;have hkq:k=iQ q.l now many:=by
      have:¬k<iQ q.l now many:=λfK=>Lf (Ir.1 fK).2
      omega
     exact fin hkq
   ·replace nA:=lW nA;have hkq:k=iQ q.l now many:=by
     have:¬k<iQ q.l now many:=λfK=>nA (Ir.1 fK).1
     omega
    exact fin hkq
  ·replace hc:=lW hc;have hkq:k=iQ q.l now many:=by omega
   exact fin hkq
 ·intro hkq;refine⟨s,h.row.at 2 rfl,U,U,U,U,λn x so wr=>∃j:Nat,x=j/\j+n=k/\Go.Vc.Mod (λi=>i=m) w wr/\ar w zk 3 wr so ((q.l.take j).map λy=>eV y.2)/\∃kvs,bG GC wr (some m) kvs/\ql kvs (q.l.drop j),⟨k,0,rfl,U,Go.Vc.Mod.refl _ _,ar.nil,ds h.map⟩,?_⟩;rintro n us x so wr ⟨j,rfl,hj,ub,wD,kvs,agV,xk⟩;have de:Row wr g (B4 q s m) nM:=ub.row h.row h.xZ;have lF:ar 0 cc 4 wr s (q.l.map fM):=ub.gR h.own λb hb hf=>h.B5 a0y
  apply Z.mk<;>intro hc
  ·replace hc:=lM hc;have hjl:j<q.l.length:=by omega
   have gd:q.l[j]? =some (q.l[j]'hjl):=cK hjl;generalize q.l[j]'hjl=y at gd;have gF:=lF.rd X;refine⟨⟨?_,U,U⟩,y.1,y.2.1,y.2.2.1,y.2.2.2,?_,?_⟩
   ·have:=gF.isSome X (i:=j) m_;unfold aE;split<;>simpa using this
   ·rw[uD];exact RdK.item gF gd
   intro di vq dh Dy jE e23;have fk:=aU vq;have fX:Ext wr dh:=fk.L Dy (ak _);have iB:Ext wr jE:=fX.aZ e23;have aHq:dh.heap.size=wr.heap.size+1:=by rw[Dy,setRow_size,vq];simp
   have aHr:=fD e23;have hon:so.n=j:=by rw[(wD.rd X).n,aK,cS];omega
   have hzw:=ub.size;have⟨hp,hr⟩:=(wD.ext iB).append (bytes:=24) (news:=eV y.2) U rfl a1q U U;refine⟨hp,λyU dL bq=>?_⟩;have⟨h1,h2,h3,h4,h5⟩:=hr yU dL bq;have TT:∀b,so.D=some b->b<wr.heap.size:=λb hb=>(wD.own.lt hb).2
   have az6:Go.Vc.Mod (λi=>so.D=some i) jE dL:=⟨h3.os,h3.tape,h3.output,h3.size,λi hi hn=>h4 i hn hi⟩;have hsm:so.D≠some m:=λe=>by have h1:=(wD.own.lt e).1;have h2:=h.lt m (.inr (.inl rfl));omega
   refine⟨h4 _ (λe=>a1N (TT _ e)) U,h4 _ (λe=>a1N (TT _ e)) U,?_⟩;have yA:Go.Vc.Mod (λi=>so.D=some i) wr dL.drew:=((Go.Vc.Mod.P iB).trans az6).trans (Go.Vc.Mod.P (Ext.K _));have hsg:so.D≠some g:=λe=>by have h1:=(wD.own.lt e).1;have h2:=h.lt g (.inl rfl);omega
   refine⟨some m,(yA.row de hsg).at 3 rfl,GC,kvs,AD,rfl,yA.map agV hsm,⟨y.2,rfl⟩,?_⟩;intro gI fL hmap29;have atJ:=Go.Vc.Mod.oX fL;have hwj:=nE (j:=j);rw[hwj];refine⟨n-1,U,j+1,rfl,U,(ub.A yA (λi hi=>.inr (wD.own.lt hi).1)).trans atJ,?_,_,hmap29,?_⟩
   ·have e:(q.l.take (j+1)).map (λy=>eV y.2)=(q.l.take j).map (λy=>eV y.2)++[eV y.2]:=by rw[dq,gd,cl];rfl
    rw[e];refine atJ.gR (h1.ext (Ext.K _)) λb hb hf=>?_
    have hb':yU.D=some m:=a0y
    have:=h.lt m (.inr (.inl rfl));rcases h5 with h5|h5
    ·exact hsm (h5▸hb')
    ·rw[h5]at hb';have:jE.heap.size=m:=by simpa using hb'
     omega
   ·have hd:=xk.del y.2;refine hd.perm λz=>?_
    have hcons:q.l.drop j=y::q.l.drop (j+1):=by have⟨fK,he⟩:=cG.1 gd;rw[zV fK,he]
    have hnd:((y::q.l.drop (j+1)).map (·.2)).Nodup:=by rw[<-hcons];exact((List.drop_sublist j q.l).map _).nodup hq.nodup
    rw[hcons];unfold iH;rw[eH,uv]at hnd;constructor
    ·intro hz;have⟨hz1,IB⟩:=jY.1 hz;rcases cu.1 hz1 with rfl|hz1
     ·simp at IB
     ·exact hz1
    ·intro hz;refine jY.2 ⟨qQ _ hz,?_⟩;have:z.2≠y.2:=λe=>hnd.1 (e▸List.mem_map_of_mem hz)
     simpa using this
  ·replace hc:=lW hc;have hjk:j=k:=by omega
   subst hjk;refine⟨s,de.at 2 rfl,(Py lF Yv U).mono ?_⟩;rintro e ia ⟨Tw,rfl,atK,akg,az7⟩;have atL:Row ia g (B4 q s m) nM:=akg.row de h.Nc;have⟨p1,p2⟩:=atL.ft (j:=2) (v:=.slice Tw.a Tw.n Tw.c) bo rfl;refine⟨Tw,rfl,⟨rfl,p1⟩,λjV e33=>?_⟩;have⟨q1,q2⟩:=p2 jV e33;have hso:∀b,so.D=some b->w.heap.size<=b:=λb hb=>(wD.own.lt hb).1
   refine⟨so,rfl,Tw,?_,?_,?_⟩
   ·unfold Na;rw[<-hkq,pR];refine q2.gR (akg.gR wD λb hb hf=>?_) λb hb hf=>?_
    ·have:=hso b hb;have:=h.lt b (.inr (.inr hf));omega
    ·have:=hso b hb;have:=h.lt b (.inl hf);omega
   ·unfold Na;rw[<-hkq];refine⟨q1,q2.gR atK λb hb hf=>?_,kvs,q2.map (akg.map agV h.B5) (Ne.symm h.xZ),xk⟩;have⟨cs,hr⟩:=aT atK X hb;exact hr.ne atL X hf
   ·refine gN.uZ (((ub.mono λb _ hb=>.inr (.inl hb)).trans (akg.mono λb _ hb=>.inr (.inr hb))).trans (q2.mono λb _ hb=>.inl hb)) λb hb=>.inl (az7▸hb)
end
end Go.Proofs.YtjcnjlaelhdjeaaGreatDoor.Q
namespace Go.Proofs.YtjcnjlaelhdjeaaGreatDoor
open Go Go.Vc Go.RowKit Go.Proofs Go.bW Go.aN Go.Code
set_option maxRecDepth 100000
set_option maxHeartbeats 8000000
def Oa(v:mM)(w:au):kh 398 #[.int .u16 (cI v)] w (vc .u16 (cI (TR v))):=by
 apply Rk.B;have e1:qq (cI v*2^(min (1:Int).toNat 16))=cI (v<<<1):=X6 v 1;have e2:tI .u16 (cI v) 32768=cI (v &&&0x8000#16):=amY v 0x8000#16;have e3:lA .u16 (cI (v<<<1)) 4129=cI ((v<<<1) ^^^0x1021#16):=HI _ 0x1021#16;apply Z.mk<;>intro h
 ·rw[e2]at h;have hm:v.msb=true:=by
   cases q:v.msb with
   |true=>rfl
   |false=>rw[(X7 v).2 q]at h;simp at h
  rw[e1,e3];unfold TR;rw[if_pos hm];exact⟨rfl,rfl⟩
 ·rw[e2]at h;have hm:v.msb=false:=(X7 v).1 (ds h);rw[e1];unfold TR;rw[hm];exact⟨rfl,rfl⟩
abbrev R7:aB:=417
abbrev tA2:aB:=396
def itS:Nat->mM->mM
 |0,v=>v
 |k+1,v=>TR (itS k v)
def Ji(w:au):ed 394 #[] w (vI tS.toArray):=by
 apply aar.B;intro w0 e0 w1 e1;have z0:=fD e0;have x1:Ext w w1:=(aU e0).aZ e1;have ha:Row w1 w (tT 0) R7:=(by rw[e0];exact Row.new w (tT 0) _:Row w0 w (tT 0) R7).ext (aU e1);have hb:Row w1 w0 (tT 0) R7:=by rw[e1];exact Row.new w0 (tT 0) _
 refine⟨λn i wr=>∃k:Nat,i=k/\k+n=16/\Row wr w (tT 0) R7/\Row wr w0 (tT k) R7/\Ext w wr,⟨16,0,rfl,rfl,ha,hb,x1⟩,?_⟩;rintro n3 us4 x5 w6 ⟨k,rfl,hk,ha6,hb6,x6⟩;apply Z.mk<;>intro hc
 ·replace hc:=lM hc;have ek:qq (qq (k:Int)*2^(min (12:Int).toNat 16))=cI (oN (k:Int)<<<12):=by
   have:qq (k:Int)=cI (oN (k:Int)):=by rw[VH U,wrap_u16];omega
   rw[this];exact X6 _ 12
  rw[ek];refine⟨λn j c wr=>∃m:Nat,j=m/\m+n=4/\c=cI (itS m (oN (k:Int)<<<12))/\wr=w6,⟨4,0,rfl,rfl,rfl,rfl⟩,?_⟩;rintro n9 agB bS cr bw ⟨m,rfl,hm,rfl,rfl⟩;apply Z.mk<;>intro nA
  ·replace nA:=lM nA;have wk:=nE (j:=m);refine(Oa _ _).F λc9 hw=>?_
   exact⟨_,rfl,n9-1,U,m+1,wk,U,rfl,hw⟩
  ·replace nA:=lW nA;have hm4:m=4:=by omega
   subst hm4;have wk:=nE (j:=k);have cX:(tT k).length=16:=by unfold tT;rw[cj,cS,Hl];simp[tS];omega
   have⟨p1,p2⟩:=hb6.ft (j:=k) (v:=tv k) U rfl;have hj:((k:Int)).toNat*1=k:=by omega
   rw[hj];refine⟨U,U,⟨rfl,p1⟩,λcP ug=>?_⟩;have⟨q1,q2⟩:=p2 cP ug;rw[show putCells (tT k) k [tv k]=(tT k).set k (tv k)from rfl,amZ U]at q1;exact⟨n3-1,U,k+1,wk,U,q2.row ha6 (a1N x1.size),q1,q2.ext x6 (by intro i hi;omega)⟩
 ·replace hc:=lW hc;have:k=16:=by omega
  subst this;have hl:ah w6 (O w0) 0 tS:=hb6.y λj hj=>by rw[eF];rfl
  have hs:=ha6.bB (o:=0) (vs:=tS) X a0b;refine⟨_,_,_,_,_,_,_,_,_,_,_,_,_,_,_,_,hl,⟨rfl,ha6.wr (o:=0) (n:=16) X⟩,λke e34=>?_⟩;have at7:ke=w6.setRow w tS.toArray:=e34.trans hs;have hr:Row ke w tS R7:=by rw[at7];exact ha6.set tS
  have TE:ah ke (O w) 0 tS:=hr.y λj hj=>by rw[eF]
  exact⟨_,_,_,_,_,_,_,_,_,_,_,_,_,_,_,_,TE,rfl,x6.L at7 (ak _)⟩
def Ob(v:mM)(s:H)(b:ab)(w:au)(hs:jd w s b)(hb:mJ b)(hn:(b.length:Int)<=1099511627776):ed 388 #[.int .u16 (cI v),s] w (vc .u16 (cI (R8 v b))):=by
 apply(Ho.B (a1:=s));refine(Ji w).F λw0 x0=>?_
 refine⟨_,_,_,_,_,_,_,_,_,_,_,_,_,_,_,_,rfl,λcP ug=>?_⟩;have agS:Row cP w0 (tT 0) R7:=by rw[ug];exact Row.new w0 (tT 0) _
 have hS:=agS.bB (o:=0) (vs:=tS) X a0b;refine⟨⟨rfl,agS.wr (o:=0) (n:=16) X⟩,λdA Ot=>?_⟩;have at8:dA=cP.setRow w0 tS.toArray:=Ot.trans hS;have hr:Row dA w0 tS R7:=by rw[at8];exact agS.set tS
 have dc:Ext w dA:=x0.A ((aU ug).L at8 (ak _));have at9:=hs.ext dc;have tE:=hs.n;rw[aK]at tE;refine⟨λn i c wr=>∃k:Nat,i=k/\k+n=b.length/\c=cI (R8 v (b.take k))/\wr=dA,⟨b.length,0,rfl,U,rfl,rfl⟩,?_⟩;rintro n us i c wr ⟨k,rfl,hk,rfl,rfl⟩;apply Z.mk<;>intro hc
 ·replace hc:=lM hc;have⟨x,hx⟩:=bX (l:=b) (i:=k) U;have hxb:=hb x (aQ hx);have hm:(b.map yv)[k]? =some [.int .u8 x]:=by rw[aW,hx];rfl
  have pG:=at9.at hm (j:=0) rfl;rw[fu]at pG;have wk:=nE (j:=k);have ht:b.take (k+1)=b.take k++[x]:=by rw[dq,hx];rfl
  generalize hu:R8 v (b.take k)=u;refine⟨at9.jX X U hc,x,pG,?_⟩;have m1:(min (12:Int).toNat 16)=12:=rfl;have m2:(min (4:Int).toNat 8)=4:=rfl;have m3:(min (4:Int).toNat 16)=4:=rfl;rw[m1,m2,m3,ae2,awy hxb,HI,awz hxb,X6];have l1:=ae3 (ae4 u) (akZ hxb);have g1:=ak0 l1;have c1:=AY ((u>>>12) ^^^(oN x>>>4));have c1':cI ((u>>>12) ^^^(oN x>>>4))<16:=by unfold cI;omega
  refine⟨U,U,_,(by rw[aF,eF,hr.ld,zp];exact g1),?_⟩;rw[HI,ae2,HI,X6];have l2:=ae3 (ae4 ((u<<<4) ^^^Jj (((u>>>12) ^^^(oN x>>>4))<<<12))) (ak1 (oN x));have g2:=ak0 l2;have c2:=AY ((((u<<<4) ^^^Jj (((u>>>12) ^^^(oN x>>>4))<<<12))>>>12) ^^^(oN x &&&15#16));have c2':cI ((((u<<<4) ^^^Jj (((u>>>12) ^^^(oN x>>>4))<<<12))>>>12) ^^^(oN x &&&15#16))<16:=by unfold cI;omega
  refine⟨U,U,_,(by rw[aF,eF,hr.ld,zp];exact g2),n-1,U,k+1,wk,U,?_,rfl⟩;rw[HI,aaS u hxb,ht,Dq,hu];rfl
 ·replace hc:=lW hc;rw[dN U];exact⟨rfl,dc⟩
def FD(s:H)(b:ab)(w:au)(hs:jd w s b)(hb:mJ b)(hn:(b.length:Int)<=1099511627776):ed 373 #[s] w (vc .u16 (cI (qO b))):=by
 apply(amI.B (a0:=s));have st:kh 387 #[] w (vc .u16 (cI 0xFFFF#16)):=by apply aaq.B;exact⟨rfl,rfl⟩
 refine st.mono ?_;rintro e w0 ⟨rfl,rfl⟩;refine⟨_,rfl,(Ob _ s b w0 hs hb hn).mono ?_⟩;rintro e w2 ⟨rfl,x2⟩;exact⟨_,rfl,rfl,x2⟩
def Ly(s:H)(b:ab)(w:au)(hs:jd w s b)(hb:mJ b)(hn:(b.length:Int)<=1099511627776):Y 370 #[s] w λe w'=>e=eL (decide (2<=b.length/\qO b=0#16))/\Ext w w':=by
 apply(aew.B (a0:=s));have tE:=hs.n;rw[aK]at tE;apply Z.mk<;>intro h
 ·simp only[ge_iff_le,cC]at h;refine(FD s b w hs hb hn).F λw0 x0=>?_
  refine⟨_,rfl,?_,x0⟩;have:(cI (qO b)==0)=decide (2<=b.length/\qO b=0#16):=by
   rw[Bool.eq_iff_iff];simp only[beq_iff_eq,cC];constructor
   ·intro q;exact⟨U,VI.1 (q.trans rfl)⟩
   ·rintro⟨-,q⟩;rw[q];rfl
  rw[this]
 ·simp only[ge_iff_le,fg]at h;rw[decide_eq_false U];exact⟨rfl,Ext.M _⟩
def IG(v:mM)(w:au):ed 374 #[.int .u16 (cI v)] w (vI #[.int .u8 (cI v/256),.int .u8 (cI v%256)]):=by
 apply Eg.B;intro w0 e0;have hb:=AY v;have h0:Row w0 w [.int .u8 0,.int .u8 0] tA2:=Row.nw e0;have e1:qH ((cI v).fdiv (2^(min (8:Int).toNat 16)))=cI v/256:=by show qH ((cI v).fdiv (2^8))=_;rw[ae2,VJ,wrap_u8];simp only[show(2:Int)^8=256 from rfl];omega
 have e2:qH (cI v)=cI v%256:=wrap_u8 _;rw[e1,e2];have hS:=h0.bB (o:=0) (vs:=[.int .u8 (cI v/256),.int .u8 (cI v%256)]) (ak 2) (BB _ _ _ _);refine⟨⟨rfl,h0.wr (o:=0) (n:=2) X⟩,λw1 e1=>?_⟩;have e1':w1=w0.setRow w #[.int .u8 (cI v/256),.int .u8 (cI v%256)]:=e1.trans hS;have h1:Row w1 w [.int .u8 (cI v/256),.int .u8 (cI v%256)] tA2:=by rw[e1'];exact h0.set _
 exact⟨_,_,h1.y (λj hj=>by rw[eF]),rfl,(aU e0).L e1' (ak _)⟩
abbrev tSB:aB:=43
def jd.n{w:au}{s:H}{b:ab}(h:jd w s b):s.n=b.length:=by have:=RdK.n h;rwa[aK]at this
def WX{b:ab}:∀r∈b.map yv,r.length=1:=λr hr=>by obtain⟨x,_,rfl⟩:=bc.1 hr;rfl
def pV(s:H)(b:ab)(w:au)(hs:jd w s b)(hn:b.length<=1099511627776): Y 334 #[s] w λe w'=>∃s':H,e=s'/\nY w w' s' b/\Ext w w':=by
 have tE:=jd.n hs;apply(zh.B (a0:=s));apply Z.mk<;>intro h
 ·have:b=[]:=by
   rcases Fp b.length with h0|h0
   ·exact CV h0
   ·have:=RdK.isSome hs U (i:=0) (ds h0)
    cases hsa:s.a<;>simp[hsa]at h this
  subst this;exact⟨⟨none,0,0⟩,rfl,ar.nil,Ext.M w⟩
 ·rintro w0 rfl;have xa:=Ext.al w (.cells #[] jG);have hz:ar w jG 1 (w.alloc (.cells #[] jG)) ⟨O w,0,0⟩ []:=ar.jO (ak _) (Row.new w [] jG) bo (ak _) rfl (λr hr=>by cases hr);have hb:=hz.FB (bytes:=1) (more:=b.map yv) xa.size WX (ac1 _) (by simp only[aK];omega) (by simp only[aK];omega);rw[aK,<-tE]at hb;have⟨hp,hr⟩:=hb;refine⟨(b.map yv).flatten,RdK.flat (hs.ext xa) U,hp,λs2 w3 bq=>?_⟩;have⟨ho,hn2,xb,_,_⟩:=hr s2 w3 bq;exact⟨pW bq (by rw[bQ WX,aK,tE]) bo,s2,rfl,ho,xa.trans xb⟩
def Lu(n:Nat)(w:au)(hn:n<=1099511627776):Calls ka5 375 #[.slice none 0 0,S n] w λe w'=>∃s':H,e=.returned (.slice s'.a s'.n s'.c)/\nY w w' s' []/\Ext w w':=by
 apply(BA.B (a0:=⟨none,0,0⟩));have e1:IntKind.wrap .i64 ((n:Int)-IntKind.wrap .i64 (((0:Nat):Int)-((0:Nat):Int)))=n:=by rw[aL (n:=((0:Nat):Int)-((0:Nat):Int)) j_,wI];omega
 refine Z.mk (λh=>a0d) (λ_=>?_);rw[e1];refine Z.mk (λh=>?_) (λh=>?_)
 ·have h0:ar w jG 1 w ⟨none,0,0⟩ []:=ar.nil;have hb:=h0.FB (bytes:=1) (more:=(List.replicate n (yv 0))) (Nat.le_refl _) (λr hr=>by rw[(List.mem_replicate.1 hr).2];rfl) (λr hr=>by rw[(List.mem_replicate.1 hr).2];exact wE _ _) (by simp only[List.length_replicate];omega) (by simp only[List.length_replicate];omega);rw[List.length_replicate]at hb;have⟨hp,hr⟩:=hb;refine⟨U,U,⟨U,wI,U⟩,hp,λs0 w1 bq=>?_⟩;have⟨ho,hn2,xb,_,_⟩:=hr s0 w1 bq;have hle:=ar.le ho;refine⟨U,U,⟨s0.a,0,s0.c⟩,by rw[dt];rfl,?_,xb⟩;rcases ho.form (by decide)with⟨rfl,-⟩|⟨g,cs,ha,hg,de,hc,hnn,ht,hl⟩
  ·exact ar.nil
  ·rw[ha];exact ar.jO hg de hc (Nat.zero_le _) (by simp) (λr hr=>by cases hr)
 ·exact⟨⟨none,0,0⟩,rfl,ar.nil,Ext.M _⟩
abbrev tK(xs:List (H×ab)):ab:=xs.flatMap (·.2)
def JM(xs:List (H×ab)){k:Nat}{x:H×ab}(h:xs[k]? =some x):tK (xs.take (k+1))=tK (xs.take k)++x.2:=by rw[dq,h];simp[tK]
def WY(xs:List (H×ab))(k:Nat):(tK (xs.take k)).length<=(tK xs).length:=by have e:=congrArg (λl=>(tK l).length) (td k xs);simp only[List.flatMap_append,cj]at e;have h1:(tK (xs.take k)).length=(List.flatMap (λx=>x.2) (xs.take k)).length:=rfl;have h2:(tK xs).length=(List.flatMap (λx=>x.2) xs).length:=rfl;omega
def CW(s:H)(xs:List (H×ab))(w:au)(hs:RdK w s 1 (xs.map λx=>[.slice x.1.a x.1.n x.1.c]))(hr:∀x∈xs,jd w x.1 x.2)(hl:xs.length<=1000)(hn:(tK xs).length<=1099511627776): Calls ka5 344 #[.slice s.a s.n s.c] w λe w'=>∃s':H,e=.returned (.slice s'.a s'.n s'.c)/\nY w w' s' (tK xs)/\Ext w w':=by
 apply(xt.B (a0:=s));have tE:=hs.n;rw[List.length_map]at tE;have row:∀{k:Nat}{w':au},Ext w w'->k<xs.length->∃x,xs[k]? =some x/\gD s.a (k:Int) s.n/\ld w' (N s.a (((k:Nat):Int).toNat*1))=some (.slice x.1.a x.1.n x.1.c)/\jd w' x.1 x.2:=λ{k w'} x' hk=>by
  have⟨x,hx⟩:=bX (l:=xs) (i:=k) hk;have hs':=hs.ext x';have hm:(xs.map λx=>[tr x.1.a x.1.n x.1.c])[k]? =some [.slice x.1.a x.1.n x.1.c]:=by rw[List.getElem?_map,hx];rfl
  have pG:=hs'.at hm (j:=0) rfl;rw[fu]at pG;exact⟨x,hx,hs'.jX (by decide) (by omega) (by omega),pG,(hr x (List.mem_of_getElem? hx)).ext x'⟩
 refine⟨λn i z wr=>∃k:Nat,i=k/\k+n=xs.length/\z=((tK (xs.take k)).length:Nat)/\wr=w,⟨xs.length,0,rfl,U,rfl,rfl⟩,?_⟩;rintro n us i z wr ⟨k,rfl,hk,rfl,rfl⟩;refine Z.mk (λhc=>?_) (λhc=>?_)
 ·replace hc:=lM hc;have⟨x,hx,px,pG,hrx⟩:=row (k:=k) (Ext.M _) (by omega);have h1:=WY xs (k+1);have ht:=JM xs hx;have hxn:=jd.n hrx;have wz:IntKind.wrap .i64 (((tK (xs.take k)).length:Int)+((x.1.n:Nat):Int))=((tK (xs.take (k+1))).length:Nat):=by rw[ht,List.length_append];rw[ht,List.length_append]at h1;rw[wI];omega
  have wk:IntKind.wrap .i64 ((k:Int)+1)=((k+1:Nat):Int):=by rw[wI];omega
  refine⟨px,x.1,pG,?_⟩;dsimp only;rw[wz];refine Z.mk (λh=>a0d) (λ_=>⟨n-1,U,k+1,wk,U,rfl,rfl⟩)
 ·replace hc:=lW hc;rw[List.take_of_length_le (by omega)];refine(Lu _ _ hn).mono ?_;rintro e w8 ⟨s9,rfl,ho,x8⟩;refine⟨s9,rfl,λn i s Yi=>∃k:Nat,i=k/\k+n=xs.length/\nY wr Yi s (tK (xs.take k))/\Ext wr Yi,⟨xs.length,0,rfl,U,ho,x8⟩,?_⟩;rintro n11 anr i s14 c9 ⟨k2,rfl,Yj,abG,dn⟩;refine Z.mk (λnA=>?_) (λnA=>?_)
  ·replace nA:=lM nA;have⟨x,hx,px,pG,hrx⟩:=row (k:=k2) dn (by omega);have h1:=WY xs (k2+1);have ht:=JM xs hx;have hxn:=jd.n hrx;have hon:=jd.n (nY.FC abG);rw[ht,List.length_append]at h1;have wk:IntKind.wrap .i64 ((k2:Int)+1)=((k2+1:Nat):Int):=by rw[wI];omega
   have hb:=ar.FB abG (bytes:=1) (more:=x.2.map yv) dn.size WX (ac1 _) (by simp only[List.length_map];omega) (by simp only[List.length_map];omega);rw[List.length_map,<-hxn]at hb;have⟨hp,bq⟩:=hb;refine⟨px,x.1,pG,(x.2.map yv).flatten,RdK.flat hrx (by omega),hp,λs19 eQ awV=>?_⟩;have⟨awW,_,xb,_,_⟩:=bq s19 eQ awV;refine⟨n11-1,U,k2+1,wk,U,?_,dn.trans xb⟩;rw[ht];show ar _ _ _ _ _ _;rw[List.map_append];exact awW
  ·replace nA:=lW nA;rw[List.take_of_length_le (by omega)]at abG;exact⟨s14,rfl,abG,dn⟩
def Pq(s:H)(b:ab)(w:au)(hs:jd w s b)(hb:mJ b)(hn:b.length+2<=1099511627776):Y 343 #[s] w λe w'=>∃s':H,e=s'/\nY w w' s' (gL b)/\Ext w w':=by
 apply(ahO.B (a0:=s));refine(FD s b w hs hb U).F λw0 x0=>?_
 refine⟨_,rfl,(IG _ w0).F λw2 x2=>?_⟩;refine⟨_,_,rfl,λw5 e5=>?_⟩;have h5:Row w5 w2 [.int .u8 0,.int .u8 0] tA2:=Row.nw e5;have hS:=h5.bB (o:=0) (vs:=[.int .u8 (cI (qO b)/256),.int .u8 (cI (qO b)%256)]) (ak 2) (BB _ _ _ _);refine⟨⟨rfl,h5.wr (o:=0) (n:=2) X⟩,λw6 e6 w7 e7=>?_⟩;have e6':w6=w5.setRow w2 #[.int .u8 (cI (qO b)/256),.int .u8 (cI (qO b)%256)]:=e6.trans hS;have h6:Row w6 w2 [.int .u8 (cI (qO b)/256),.int .u8 (cI (qO b)%256)] tA2:=by rw[e6'];exact h5.set _
 have jl:Ext w2 w6:=(aU e5).L e6' (ak _);have yB:=aU e7;have x7:=x0.A (x2.A (jl.A yB));have hc:jd w7 ⟨O w2,2,2⟩ (Lw b):=by
  refine⟨rfl,WX,λi r hi j v hj=>?_⟩;have h7:=h6.ext yB;rw[aF,eF,h7.ld]
  match i,hi with
  |0,hi=>cases hi;match j,hj with
   |0,hj=>cases hj;rfl
  |1,hi=>cases hi;match j,hj with
   |0,hj=>cases hj;rfl
  |i+2,hi=>simp[Lw]at hi
 have hl:RdK w7 ⟨O w6,2,2⟩ 1 ([(s,b),(⟨O w2,2,2⟩,Lw b)].map λx=>[.slice x.1.a x.1.n x.1.c]):=by
  have h7:Row w7 w6 [s,.slice (O w2) 2 2] tSB:=by rw[e7,dt];exact Row.new w6 [_,_] _
  refine⟨rfl,λr hr=>a0g,λi r hi j v hj=>?_⟩;rw[aF,eF,h7.ld]
  match i,hi with
  |0,hi=>cases hi;match j,hj with
   |0,hj=>cases hj;rfl
  |1,hi=>cases hi;match j,hj with
   |0,hj=>cases hj;rfl
  |i+2,hi=>simp at hi
 have afQ:tK [(s,b),(⟨O w2,2,2⟩,Lw b)]=gL b:=by simp[tK,gL]
 refine(CW ⟨O w6,2,2⟩ [(s,b),(⟨O w2,2,2⟩,Lw b)] w7 hl (λx hx=>by
  simp at hx;rcases hx with rfl|rfl
  ·exact hs.ext x7
  ·exact hc) (show 2<=1000 by decide) (by rw[afQ,BC];exact hn)).mono ?_
 rintro e w8 ⟨s9,rfl,ho,x8⟩;rw[afQ]at ho;exact⟨s9,rfl,s9,rfl,ar.low ho x7.size,x7.A x8⟩
def Lx(s:H)(b:ab)(w:au)(hs:jd w s b)(hb:mJ b)(hc:s.n<=s.c)(hn:b.length<=1099511627776):Y 335 #[s] w λe w'=>∃s':H,e=bT #[s',S (te b).2]/\nY w w' s' (te b).1/\Ext w w':=by
 apply(ac2.B (a0:=s));have tE:=jd.n hs;apply Z.mk<;>intro h
 ·replace h:=lM h;have e:te b=([],3):=by unfold te;rw[if_pos U]
  rw[e];exact⟨⟨none,0,0⟩,rfl,ar.nil,Ext.M _⟩
 ·replace h:=lW h;refine(Ly s b w hs hb U).F λw0 x0=>?_
  refine⟨_,rfl,Z.mk (λh2=>?_) (λh2=>?_)⟩
  ·have e:te b=([],4):=by unfold te;rw[if_neg U,if_neg];intro q;rw[decide_eq_true ⟨U,q⟩]at h2;cases h2
   rw[e];exact⟨⟨none,0,0⟩,rfl,ar.nil,x0⟩
  ·have q:qO b=0#16:=by simp at h2;exact h2.2
   have e:te b=(b.take (b.length-2),0):=by unfold te;rw[if_neg U,if_pos q]
   have wk:I (((s.n:Nat):Int)-2)=((b.length-2:Nat):Int):=by rw[wI];omega
   rw[wk,e];have mF:jd w0 ⟨aE s.a 0 s.c 1,b.length-2,s.c-0⟩ (b.take (b.length-2)):=by have:=(hs.ext x0).cut (m:=b.length-2) (c':=s.c) (c'':=s.c-0) (by rw[aK];omega);rw[<-List.map_take]at this;exact this
   refine⟨U,U,(pV ⟨aE s.a 0 s.c 1,b.length-2,s.c-0⟩ _ w0 mF (by rw[cS];omega)).mono ?_⟩;rintro e w2 ⟨s3,rfl,ho,x2⟩;exact⟨s3,rfl,s3,rfl,ar.low ho x0.size,x0.A x2⟩
def awA(n:Int){k:Nat}(hk:k<=4):n.fdiv (2^(min ((8*(k:Int))).toNat 64))=n/256^k:=by
 have e:(2:Int)^(min ((8*(k:Int))).toNat 64)=256^k:=by
  rcases k with _|_|_|_|_|k
  ·rfl
  ·rfl
  ·rfl
  ·rfl
  ·rfl
  ·omega
 rw[e,tj];exact Int.le_of_lt (Int.pow_pos X)
def Sb(B:Nat)(s:H)(b:ab)(n:Int)(m:Nat)(hm:m<=4)(w:au)(hB:B<=w)(ho:nY B w s b)(hb:b.length<=1000): Calls ka5 342 #[.slice s.a s.n s.c,S n,S m] w λe w'=>∃s':H,e=.returned (.slice s'.a s'.n s'.c)/\nY B w' s' (b++be m n)/\Below B w w':=by
 apply(aap.B (a0:=s));have w1:IntKind.wrap .i64 ((m:Int)-1)=(m:Int)-1:=wI;refine⟨λl x o wr=>∃k:Nat,l=k/\x=(k:Int)-1/\k<=m/\∃pre,pre++be k n=be m n/\nY B wr o (b++pre)/\Below B w wr,⟨m,m,rfl,w1,Nat.le_refl _,[],rfl,by rw[List.append_nil];exact ho,Below.refl _ _⟩,?_⟩;rintro k us x s4 w5 ⟨k',rfl,rfl,hk,pre,hp,ho5,x5⟩;have cX:=congrArg List.length hp;rw[List.length_append,sV,sV]at cX;have hon:=jd.n (nY.FC ho5);rw[List.length_append]at hon;refine Z.mk (λhc=>?_) (λhc=>?_)
 ·simp only[ge_iff_le,decide_eq_true_eq]at hc;obtain⟨j,rfl⟩:∃j,k=j+1:=⟨k-1,U⟩;have e8:IntKind.wrap .i64 (8*(((j+1:Nat):Int)-1))=8*(j:Int):=by rw[wI];omega
  rw[e8,awA n (by omega),wrap_u8];refine bO.2 ⟨EJ.2 (by omega),λw7 e7=>?_⟩;subst e7;have⟨hpre,bq⟩:=ar.l6 ho5 (bytes:=1) (news:=yv (n/256^j%256)) (.cells #[.int .u8 (n/256^j%256)] jG) (a1N x5.size) rfl (wE _ _) (by omega) (by omega);refine⟨hpre,λs8 w9 hr=>?_⟩;obtain⟨f1,ho9,hn9,xb,-,-⟩:=bq s8 w9 hr;refine⟨f1,j,U,j,rfl,by rw[wI];omega,U,pre++[n/256^j%256],?_,?_,x5.trans xb⟩
  ·rw[<-hp,List.append_assoc];rfl
  ·rw[<-List.append_assoc];show ar _ _ _ _ _ _;rw[List.map_append];exact ho9
 ·simp only[ge_iff_le,decide_eq_false_iff_not]at hc;have:k=0:=by omega
  subst this;have hp':pre=be m n:=by simpa[be]using hp
  rw[hp']at ho5;exact⟨s4,rfl,ho5,x5⟩
def KJ(s:H)(b:ab)(w:au)(hs:jd w s b)(hb:mJ b)(hn:b.length<=4):kh 336 #[s] w (S (eh b)):=by
 apply(Vq.B (a0:=s));have tE:=jd.n hs;refine⟨λl i n wr=>∃k:Nat,i=k/\k+l=b.length/\n=eh (b.take k)/\wr=w,⟨b.length,0,rfl,U,rfl,rfl⟩,?_⟩;rintro l us i n wr ⟨k,rfl,hk,rfl,rfl⟩;apply Z.mk<;>intro hc
 ·replace hc:=lM hc;have⟨x,hx⟩:=bX (l:=b) (i:=k) U;have hxb:=hb x (aQ hx);have hm:(b.map yv)[k]? =some [.int .u8 x]:=by rw[aW,hx];rfl
  have pG:=hs.at hm (j:=0) rfl;rw[fu]at pG;have wk:=nE (j:=k);have hsm:=VN hb (k:=k) U;have ht:b.take (k+1)=b.take k++[x]:=by rw[dq,hx];rfl
  refine⟨RdK.jX hs X U hc,x,pG,l-1,U,k+1,wk,U,?_,rfl⟩;have e1:I (eh (b.take k)*2^(min (8:Int).toNat 64))=eh (b.take k)*256:=by show I (eh (b.take k)*256)=_;exact wI
  have e2:I x=x:=wI;rw[e1,e2,Sc U hxb,ht,HJ]
 ·replace hc:=lW hc;rw[dN U];exact⟨rfl,rfl⟩
def Se(v:Int)(s:H)(b:ab)(w:au)(hs:jd w s b)(hb:mJ b)(hn:b.length<=1099511627776): Calls ka5 292 #[S v,.slice s.a s.n s.c] w λe w'=>∃s':H,e=.returned (.tuple #[.slice s'.a s'.n s'.c,S (zf v b).2])/\nY w w' s' (zf v b).1/\Ext w w':=by
 apply(Rj.B (a1:=s));have tE:=jd.n hs;have no:(v<1\/v>1073741824\/(b.length:Int)>65536)->∃s':H,Sl (.tuple #[.slice none 0 0,S 1])=.returned (.tuple #[.slice s'.a s'.n s'.c,S (zf v b).2])/\nY w w s' (zf v b).1/\Ext w w:=λh=>by
  have e:zf v b=([],1):=by unfold zf;rw[if_pos h]
  rw[e];exact⟨⟨none,0,0⟩,rfl,ar.nil,Ext.M _⟩
 refine Z.mk (λh=>?_) (λh1=>Z.mk (λh=>?_) (λh2=>Z.mk (λh=>?_) (λh3=>?_)))
 ·simp only[decide_eq_true_eq]at h;exact no (.inl h)
 ·simp only[gt_iff_lt,decide_eq_true_eq]at h;exact no (.inr (.inl h))
 ·simp only[gt_iff_lt,decide_eq_true_eq]at h;exact no (.inr (.inr (by omega)))
 ·simp only[gt_iff_lt,decide_eq_false_iff_not]at h1 h2 h3;have e:zf v b=(gL (dy v b),0):=by unfold zf;rw[if_neg (by omega)]
  rw[e];have p4:=Sb w ⟨none,0,0⟩ [] v 4 (by decide) w (Nat.le_refl _) ar.nil (by simp);refine p4.mono ?_;rintro e w0 ⟨s1,rfl,o1,x0⟩;have p3:=Sb w s1 ([]++be 4 v) ((s.n:Nat):Int) 3 (by decide) w0 x0.size o1 (by simp[sV]);refine⟨s1,rfl,p3.mono ?_⟩;rintro e w2 ⟨s3,rfl,o3,x2⟩;refine⟨s3,rfl,λw4 e4=>?_⟩;have yz:Ext w w2:=x0.trans x2;have jn:Ext w2 w4:=(Ext.M _).aZ e4;have x4:=yz.A jn;have r4:Row w4 w2 [.slice s3.a s3.n s3.c,.slice s.a s.n s.c] tSB:=by rw[e4];exact Row.new w2 [_,_] _
  have hl:RdK w4 ⟨some ⟨w2,0,none⟩,2,2⟩ 1 ([(s3,[]++be 4 v++be 3 ((s.n:Nat):Int)),(s,b)].map λx=>[.slice x.1.a x.1.n x.1.c]):=by
   refine⟨rfl,λr hr=>a0g,λi r hi j v hj=>?_⟩;rw[aF,Nat.zero_add,r4.ld]
   match i,hi with
   |0,hi=>cases hi;match j,hj with
    |0,hj=>cases hj;rfl
   |1,hi=>cases hi;match j,hj with
    |0,hj=>cases hj;rfl
   |i+2,hi=>simp at hi
  have afQ:tK [(s3,[]++be 4 v++be 3 ((s.n:Nat):Int)),(s,b)]=dy v b:=by simp[tK,dy,tE]
  have hrl:=rj v b;refine(CW ⟨some ⟨w2,0,none⟩,2,2⟩ [(s3,[]++be 4 v++be 3 ((s.n:Nat):Int)),(s,b)] w4 hl (λx hx=>by
   simp only[List.mem_cons,List.not_mem_nil,or_false]at hx;rcases hx with rfl|rfl
   ·exact RdK.ext (nY.FC o3) jn
   ·exact hs.ext x4) (show 2<=1000 by decide) (by rw[afQ];omega)).mono ?_
  rintro e w5 ⟨s6,rfl,o6,x5⟩;rw[afQ]at o6;refine⟨s6,rfl,(Pq s6 (dy v b) w5 (nY.FC o6) (Ya hb) (by omega)).mono ?_⟩;rintro e w7 ⟨s8,rfl,o8,x7⟩;have xm:=x4.A x5;exact⟨s8,rfl,s8,rfl,ar.low o8 xm.size,xm.A x7⟩
def ae6{b:ab}(h:mJ b):mJ (te b).1:=by
 unfold te;split
 ·intro c hc;cases hc
 ·split
  ·exactλc hc=>h c (nZ hc)
  ·intro c hc;cases hc
def ae7(b:ab):(te b).1.length<=b.length:=by
 unfold te;split
 ·simp
 ·split
  ·simp only[cS];omega
  ·simp
def am3{b:ab}(h:mJ b):mJ (pT b).2.1:=by
 unfold pT;split
 ·intro c hc;cases hc
 ·split
  ·intro c hc;cases hc
  ·split
   ·intro c hc;cases hc
   ·exactλc hc=>ae6 h c (zo hc)
def am4(b:ab):(pT b).2.1.length<=b.length:=by
 have:=ae7 b;unfold pT;split
 ·simp
 ·split
  ·simp
  ·split
   ·simp
   ·simp only[wU];omega
def VO(s:H)(b:ab)(w:au)(hs:jd w s b)(hb:mJ b)(hc:s.n<=s.c)(hn:b.length<=1099511627776): Y 285 #[s] w λe w'=>∃s':H,e=bT #[S (pT b).1,s',S (pT b).2.2]/\jd w' s' (pT b).2.1/\s'.n<=s'.c/\(∀g,s'.D=some g->w<=g)/\Ext w w':=by
 apply(US.B (a0:=s));refine(Lx s b w hs hb hc hn).mono ?_;rintro e w0 ⟨s1,rfl,o1,x0⟩;have hi:=ae6 hb;have hle:=ae7 b;have nil:jd w0 ⟨none,0,0⟩ []:=nY.FC (ar.nil (B:=0));have h1:pT b=if(te b).2≠0 then(0,[],(te b).2)else if(te b).1.length<7 then(0,[],3)else if eh ((te b).1.take 4)<1\/eh ((te b).1.take 4)>1073741824\/eh (((te b).1.drop 4).take 3)>65536\/eh (((te b).1.drop 4).take 3)≠(((te b).1.drop 7).length:Int)then(0,[],2)else(eh ((te b).1.take 4),(te b).1.drop 7,0):=rfl;rw[h1];generalize te b=t at*;have⟨t1,t2⟩:=t;simp only at*;have hon:=jd.n (nY.FC o1);have hoc:=ar.le o1;refine⟨s1,_,rfl,Z.mk (λh=>?_) (λh=>?_)⟩
 ·have:t2≠0:=by simpa using h
  rw[if_pos this];exact⟨⟨none,0,0⟩,rfl,nil,ak _,(λg hg=>by cases hg),x0⟩
 ·have:t2=0:=by simpa using h
  subst this;rw[if_neg bo];apply Z.mk<;>intro h
  ·replace h:=lM h;rw[if_pos U];exact⟨⟨none,0,0⟩,rfl,nil,ak _,(λg hg=>by cases hg),x0⟩
  ·replace h:=lW h;rw[if_neg U];have rd:=RdK.ext (nY.FC o1) (Ext.K w0);have c4:jd w0.drew ⟨aE s1.a 0 s1.c 1,4-0,s1.c-0⟩ (t1.take 4):=by have:=RdK.cut rd (m:=4) (c':=s1.c) (c'':=s1.c-0) (by rw[aK];omega);rw[<-List.map_take]at this;exact this
   have c3:jd w0.drew ⟨aE s1.a 4 s1.c 1,7-4,s1.c-4⟩ ((t1.drop 4).take 3):=by have r4:=RdK.rest rd (l:=4) (m:=s1.c) (n':=t1.length-4) (c':=s1.c-4) (by rw[aK]) (by rw[aK];omega);have:=RdK.cut r4 (m:=3) (c':=7) (c'':=s1.c-4) (by rw[wU,aK];omega);rw[dt,<-List.map_drop,<-List.map_take]at this;exact this
   have c7:∀w',Ext w0 w'->jd w' ⟨aE s1.a 7 s1.c 1,s1.n-7,s1.c-7⟩ (t1.drop 7):=λw' x'=>by have:=RdK.rest (RdK.ext (nY.FC o1) x') (l:=7) (m:=s1.c) (n':=s1.n-7) (c':=s1.c-7) (by rw[aK];omega) (by rw[aK];omega);rw[<-List.map_drop]at this;exact this
   refine⟨U,U,U,U,U,U,U,U,(KJ ⟨aE s1.a 0 s1.c 1,4-0,s1.c-0⟩ _ w0.drew c4 (λc hc=>hi c (nZ hc)) (by rw[cS];omega)).F λw3 hw=>?_⟩;subst hw;refine⟨_,rfl,(KJ ⟨aE s1.a 4 s1.c 1,7-4,s1.c-4⟩ _ w0.drew c3 (λc hc=>hi c (zo (nZ hc))) (by rw[cS];omega)).F λw5 hw=>?_⟩;subst hw;have yG:∀g,(H.mk (aE s1.a 7 s1.c 1) (s1.n-7) (s1.c-7)).D=some g->w<=g:=λg hg=>by
    have:s1.D=some g:=by
     unfold H.D at hg⊢;simp only[aE]at hg;split at hg
     ·exact hg
     ·cases ha:s1.a with
      |none=>rw[ha]at hg;cases hg
      |some a=>
       rw[ha]at hg;simp only[mT,Option.some.injEq,Addr.add]at hg⊢;rw[<-hg];split<;>rfl
    exact(o1.own.lt this).1
   have xd:=x0.A (Ext.K w0);have nil':jd w0.drew ⟨none,0,0⟩ []:=nY.FC (ar.nil (B:=0));have hdl:(t1.drop 7).length=s1.n-7:=by rw[wU];omega
   have no:(eh (t1.take 4)<1\/eh (t1.take 4)>1073741824\/eh ((t1.drop 4).take 3)>65536\/eh ((t1.drop 4).take 3)≠((t1.drop 7).length:Int))->∃s':H,Sl (.tuple #[J,.slice none 0 0,(2:Int)])=bT #[S (if eh (t1.take 4)<1\/eh (t1.take 4)>1073741824\/eh ((t1.drop 4).take 3)>65536\/eh ((t1.drop 4).take 3)≠((t1.drop 7).length:Int)then((0:Int),([]:ab),(2:Int))else(eh (t1.take 4),t1.drop 7,0)).1,s',S (if eh (t1.take 4)<1\/eh (t1.take 4)>1073741824\/eh ((t1.drop 4).take 3)>65536\/eh ((t1.drop 4).take 3)≠((t1.drop 7).length:Int)then((0:Int),([]:ab),(2:Int))else(eh (t1.take 4),t1.drop 7,0)).2.2]/\
     jd w0.drew s' (if eh (t1.take 4)<1\/eh (t1.take 4)>1073741824\/eh ((t1.drop 4).take 3)>65536\/eh ((t1.drop 4).take 3)≠((t1.drop 7).length:Int)then((0:Int),([]:ab),(2:Int))else(eh (t1.take 4),t1.drop 7,0)).2.1/\s'.n<=s'.c/\(∀g,s'.D=some g->w<=g)/\Ext w w0.drew:=λh=>by
    rw[if_pos h];exact⟨⟨none,0,0⟩,rfl,nil',ak _,(λg hg=>by cases hg),xd⟩
   refine⟨_,rfl,Z.mk (λh=>no ?_) (λq1=>Z.mk (λh=>no ?_) (λq2=>Z.mk (λh=>no ?_) (λq3=>Z.mk (λh=>no ?_) (λq4=>?_))))⟩
   ·exact .inl (ds h)
   ·exact .inr (.inl (ds h))
   ·exact .inr (.inr (.inl (ds h)))
   ·refine .inr (.inr (.inr ?_));rw[hdl];simpa using h
   ·simp only[gt_iff_lt,fg,bne_eq_false_iff_eq]at q1 q2 q3 q4;rw[if_neg (by
     rw[hdl];simp only[not_or];exact⟨q1,q2,q3,by rw[q4];simp⟩)]
    exact⟨_,rfl,c7 _ (Ext.K w0),hX,yG,xd⟩
def ZR{P:Program}{m since c0 clock r:Nat}{seen:Array Nat}{es:Array MapEntry}{w:au}{ty:aB}{v:aC}{w':au}(hr:w.heap[r]? =some (.mapIter (some m) since seen c0))(hm:w.heap[m]? =some (.map es clock)) (h:(Instr.next (.pointer (O r)) false ty).run P w=.ok v w'):w'.tape=w.tape:=by
 simp only[Instr.next,getObj,Aw,Sem.run,hr,hm,Result.andThen]at h;split at h
 ·cases h
 ·generalize (Array.filter (λe=> !seen.contains e.born) es)=L at h;generalize (if(Array.filter (λx=>decide (x.born<since)) L).isEmpty=true then #[none]else #[])++Array.map some (Array.filter (λx=>decide (x.born<since)) L++Array.filter (λx=>decide (x.born>=since)) L)=C at h;have hch:∀j w1,(choose (Question.mapNext C.size)).run P w=.ok j w1->w1.tape=w.tape:=λj w1 h1=>by
   by_cases hf:C.size<=1
   ·simp only[choose,Sem.run,Question.forced,cC,hf,if_true]at h1
    cases h1;rfl
   ·simp only[choose,Sem.run,Question.forced,cC,hf,if_false,Question.cut]at h1
    cases h1;rfl
  rw[Aw]at h
  cases hc:(choose (Question.mapNext C.size)).run P w with
  |ok j w1=>
   have ht:=hch j w1 hc;rw[hc]at h;simp only[Result.andThen]at h;split at h
   ·rw[Aw]at h;simp only[setObj,Sem.run]at h;split at h
    all_goals first
     |(simp[Result.andThen]at h;done)
     |(simp only[Result.andThen,ka3]at h;cases h;exact ht)
   ·rw[ka3]at h;cases h;exact ht
   ·cases h
  |_=>rw[hc]at h;cases h
def I_:aC->Int| .slice _ n _=>(n:Int)|_=>0
def dZ:List MapEntry->Array Nat->Int
 | [],_=>0
 |x::l,seen=>(if seen.contains x.born then I_ x.val else 0)+dZ l seen
def wR(seen:Array Nat)(b:Nat):∀(es:List MapEntry),b∉es.map (·.born)->dZ es (seen.push b)=dZ es seen
 | [],_=>rfl
 |x::l,h=>by
  have hx:(x.born==b)=false:=by
   cases hc:x.born==b with
   |false=>rfl
   |true=>exact absurd (cu.2 (Or.inl (beq_iff_eq.1 hc).symm)) h
  have ih:=wR seen b l (λe=>h (cu.2 (Or.inr e)));simp only[dZ,contains_push,hx,Bool.or_false,ih]
def Ar(seen:Array Nat)(e:MapEntry)(hs:seen.contains e.born=false):∀(es:List MapEntry),(es.map (·.born)).Nodup->e∈es->dZ es (seen.push e.born)=dZ es seen+I_ e.val
 |x::l,hn,he=>by
  have hn':x.born∉l.map (·.born)/\(l.map (·.born)).Nodup:=uv.1 hn
  rcases cu.1 he with rfl|h
  ·rw[dZ,dZ,wR seen _ l hn'.1,contains_push,beq_self_eq_true,Bool.or_true,hs]
   simp;omega
  ·have hx:(x.born==e.born)=false:=by
    cases hc:x.born==e.born with
    |false=>rfl
    |true=>exact absurd (bc.2 ⟨e,h,(beq_iff_eq.1 hc).symm⟩) hn'.1
   rw[dZ,dZ,Ar seen e hs l hn'.2 h,contains_push,hx,Bool.or_false];omega
def As:∀es:List MapEntry,dZ es #[]=0
 | []=>rfl
 |x::l=>by rw[dZ,As l];simp
def U4{es:List MapEntry}(hv:∀x∈es,0<=I_ x.val)(seen:Array Nat):0<=dZ es seen/\dZ es seen<=(es.map λx=>I_ x.val).sum:=by
 induction es with
 |nil=>exact⟨jI _,jI _⟩
 |cons x l ih=>
  have h1:=ih λy hy=>hv y (.tail _ hy)
  have h2:=hv x (.head _);rw[dZ,eH,List.sum_cons];split<;>omega
def QJ(es:Array MapEntry)(seen:Array Nat)(h:(leftOf es seen).size=0):dZ es.toList seen=(es.toList.map λx=>I_ x.val).sum:=by
 have wo:∀x∈es.toList,seen.contains x.born=true:=by
  intro x hx
  cases hc:seen.contains x.born with
  |true=>rfl
  |false=>
   have:x∈leftOf es seen:=Array.mem_filter.2 ⟨Array.mem_toList_iff.1 hx,by rw[hc];rfl⟩;have h0:=Array.eq_empty_of_size_eq_zero h;rw[h0]at this;simp at this
 generalize es.toList=l at wo
 induction l with
 |nil=>rfl
 |cons x l ih=>
  rw[dZ,wo x (.head _),eH,List.sum_cons,ih λy hy=>wo y (.tail _ hy)];simp
set_option maxRecDepth 1000000 in
def U5(bm:Nat)(es:Array MapEntry)(clock:Nat)(w:au)(hb:w.heap[bm]? =some (.map es clock))(gm:MapKept.Stamped es clock)(hv:∀x∈es.toList,∃a n c,x.val=.slice a n c)(hs:(es.toList.map λx=>I_ x.val).sum<=1099511627776): Y 346 #[.map (some bm)] w λe w'=>e=S ((es.toList.map λx=>I_ x.val).sum)/\∃(w1:au)(seen:Array Nat),w1.Alike w/\w1.tape=w.tape/\w'=w1.alloc (.mapIter (some bm) clock seen clock):=by
 have hrg:=run_range_map (P:=ka5) w 234 Mr 43 bm es clock Tryz.underlying234 hb;have hnn:∀x∈es.toList,0<=I_ x.val:=λx hx=>by have⟨a,n,c,e⟩:=hv x hx;rw[e];exact Int.natCast_nonneg n
 go_enter Tryz.func346,Tryz.ntmps346;go_wp2;go_loopw [3] (λs w'=>∃(w1:au)(seen:Array Nat),w1.Alike w/\w1.tape=w.tape/\w'=w1.alloc (.mapIter (some bm) clock seen clock)/\s=S (dZ es.toList seen)) (λ_ w'=>(leftOf es (w'.iterSeen w)).size)
 case atStart=>exact⟨w,#[],⟨rfl,rfl,rfl⟩,rfl,rfl,by rw[As]⟩
 case round=>
  obtain⟨w1,seen,hal,htp,rfl,rfl⟩:=hrel;have nR:w1.heap.size=w.heap.size:=by rw[hal.1]
  have Yx:w1.heap[bm]? =some (.map es clock):=by rw[hal.1];exact hb
  have law:=run_next_map (P:=ka5) w1 0 bm clock clock seen es clock Yx gm.1 (ak _);rw[nR]at law;rcases law with⟨h0,sX⟩|⟨e,he,w2,hal2,sX⟩
  ·have hnx:∀ty,(Instr.next (.pointer (O w)) false ty).run ka5 (w1.alloc (.mapIter (some bm) clock seen clock))=_:=λ_=>sX
   go_wp2;go_ret;rw[QJ es seen h0];exact⟨rfl,w1,seen,hal,htp,rfl⟩
  ·have⟨va,vn,B,hval⟩:=hv e (mem_left he).1;have hr1:(w1.alloc (.mapIter (some bm) clock seen clock)).heap[w.heap.size]? =some (.mapIter (some bm) clock seen clock):=by rw[<-nR];exact heap_alloc_new w1 _
   have hm1:(w1.alloc (.mapIter (some bm) clock seen clock)).heap[bm]? =some (.map es clock):=by rw[heap_alloc_old w1 _ (a1N ((oQ.1 Yx).1))];exact Yx
   have htp2:w2.tape=w1.tape:=by have:=ZR hr1 hm1 sX;exact this
   rw[hval]at sX;have hnx:∀ty,(Instr.next (.pointer (O w)) false ty).run ka5 (w1.alloc (.mapIter (some bm) clock seen clock))=_:=λ_=>sX
   have hsz2:w2.heap.size=w.heap.size:=by rw[hal2.1,hal.1]
   have lk:w2.heap[bm]? =some (.map es clock):=by rw[hal2.1];exact Yx
   have hen:=run_entry_map (P:=ka5) w2 bm clock seen es clock e lk (mem_left he).1 gm.2.1;rw[hsz2,hval]at hen;go_wp2;go_roundw
   case rel=>
    refine⟨w2,seen.push e.born,⟨hal2.1.trans hal.1,hal2.2.1.trans hal.2.1,hal2.2.2.trans hal.2.2⟩,htp2.trans htp,rfl,?_⟩;have hp:=Ar seen e (mem_left he).2 es.toList gm.2.1 (mem_left he).1;have yQ:=U4 hnn (seen.push e.born);rw[hval]at hp;have hp:dZ es.toList (seen.push e.born)=dZ es.toList seen+(vn:Int):=hp;have hw:Go.RowKit.wrap64 (dZ es.toList seen+(vn:Int))=dZ es.toList (seen.push e.born):=by unfold Go.RowKit.wrap64;omega
    exact congrArg _ hw
   case measure=>
    rw[<-hsz2,World.iterSeen_alloc,hsz2,<-nR,World.iterSeen_alloc];exact left_shrinks es seen e he
abbrev tW:aB:=337
abbrev Bl:=Int×H×ab
def mw(x:Bl):aC×aC:=(x.1,.slice x.2.1.a x.2.1.n x.2.1.c)
abbrev wV(x:Bl):LV:=[S x.1,.slice x.2.1.a x.2.1.n x.2.1.c]
abbrev kb(x:Bl):ki:=(x.1,x.2.2)
structure D7(w:au)(x:Bl):Prop where
 o:nY 0 w x.2.1 x.2.2
 b:mJ x.2.2
structure Dm where
 r:Nat
 ls:H
 E:List Bl
 W:List Bl
structure DO(w:au)(d:Nat)(m:Dm)(D:Dk):Prop where
 rd:Row w d [D.room,D.k9,D.wait,.map (some m.r),.slice m.ls.a m.ls.n m.ls.c] tg
 rm:bG GI w (some m.r) (m.E.map mw)
 ol:ar 0 tW 2 w m.ls (m.W.map wV)
 sf:(m.E.map kb).Perm D.safe
 sl:m.W.map kb=D.l
 bl:∀x∈m.E++m.W,D7 w x
 ok:nN D
def dF(d:Nat)(m:Dm)(i:Nat):Prop:=i=d\/i=m.r\/m.ls.D=some i\/∃x∈m.E++m.W,x.2.1.D=some i
section
variable{w:au}{d i:Nat}{m:Dm}{D:Dk}(h:DO w d m D)
def DO.lt(hi:dF d m i):i<w:=by
 rcases hi with rfl|rfl|e|⟨x,hx,e⟩
 ·exact h.rd.lt
 ·exact h.rm.lt
 ·exact(h.ol.own.lt e).2
 ·exact((h.bl x hx).o.own.lt e).2
variable{w':au}
def DO.same(hs:∀i,dF d m i->w'.heap[i]? =w.heap[i]?):DO w' d m D:=
 ⟨h.rd.same (hs _ (.inl rfl)),h.rm.same (hs _ (.inr (.inl rfl))),ar.aV h.ol λb hb=>hs b (.inr (.inr (.inl hb))),h.sf,h.sl,λx hx=>⟨ar.aV (h.bl x hx).o λb hb=>hs b (.inr (.inr (.inr ⟨x,hx,hb⟩))),(h.bl x hx).b⟩,h.ok⟩
def DO.ext(x:Ext w w'):DO w' d m D:=h.same λi hi=>x.heap (h.lt hi)
def DO.nW:m.ls.n=m.W.length/\m.W.length=D.l.length:=by have h1:=(h.ol.rd X).n;rw[aK]at h1;exact⟨h1,by rw[<-h.sl,aK]⟩
def DO.kind(hi:dF d m i):bG GI w (some i) (m.E.map mw)\/∃cs τ,Row w i cs τ/\(τ=tg\/τ=tW\/τ=jG):=by
 rcases hi with e|e|e|⟨x,hx,e⟩
 ·exact .inr ⟨_,_,e▸h.rd,.inl rfl⟩
 ·exact .inl (e▸h.rm)
 ·have⟨cs,hr⟩:=aT h.ol X e;exact .inr ⟨_,_,hr,.inr (.inl rfl)⟩
 ·have⟨cs,hr⟩:=aT (h.bl x hx).o X e;exact .inr ⟨_,_,hr,.inr (.inr rfl)⟩
def QK(E:List Bl)(x:Bl):oY (E.map mw) (x.1) (.slice x.2.1.a x.2.1.n x.2.1.c)=(DD (λy:Bl=>y.1) E x).map mw:=by
 have key:∀y:Bl,(mw y).1=S x.1↔y.1=x.1:=λy=>by unfold mw;simp
 have ex:(∃e∈E.map mw,e.1=S x.1)↔∃y∈E,y.1=x.1:=by
  constructor
  ·rintro⟨e,he,q⟩;obtain⟨y,hy,rfl⟩:=bc.1 he;exact⟨y,hy,(key y).1 q⟩
  ·rintro⟨y,hy,q⟩;exact⟨_,bc.2 ⟨y,hy,rfl⟩,(key y).2 q⟩
 unfold oY DD;by_cases h:∃y∈E,y.1=x.1
 ·rw[if_pos (ex.2 h),if_pos h,pR,pR];refine CP λy _=>?_
  simp only[Function.comp];by_cases q:y.1=x.1
  ·rw[if_pos ((key y).2 q),if_pos q];unfold mw;rw[q]
  ·rw[if_neg λq'=>q ((key y).1 q'),if_neg q]
 ·rw[if_neg λq=>h (ex.1 q),if_neg h,cl];rfl
variable{s:List ki}
def GH{l:List ki}{k:Nat}{x:ki}(h:l[k]? =some x):(l.take (k+1)).foldl lay s=lay ((l.take k).foldl lay s) x:=by rw[dq,h,og];rfl
def BU(hW:D.l.length<=1000000000):Y 333 #[d] w λe w'=>∃(r':Nat)(E':List Bl),e=Value.map (some r')/\bG GI w' (some r') (E'.map mw)/\(E'.map kb).Perm (tU D)/\(∀x∈E',x∈m.E++m.W)/\Ext w w'/\w<=r':=by
 apply IV.B;have⟨n1,n2⟩:=h.nW;refine⟨some m.r,h.rd.at 3 rfl,(GJ h.rm).mono ?_⟩;rintro e w1 ⟨rfl,hm,x1⟩;refine⟨_,rfl,m.ls,(h.ext x1).rd.at 4 rfl,λn i wr=>∃(k:Nat)(E':List Bl),i=k/\k+n=m.W.length/\bG GI wr (some w) (E'.map mw)/\(E'.map kb).Perm ((D.l.take k).foldl lay D.safe)/\(∀x∈E',x∈m.E++m.W)/\Ext w wr,
  ⟨m.W.length,0,m.E,rfl,U,hm,h.sf,λx hx=>dp.2 (.inl hx),x1⟩,?_⟩
 rintro n us i wr ⟨k,E',rfl,hk,hm,hp,dP,xr⟩;apply Z.mk<;>intro hc
 ·replace hc:=lM hc;have⟨x,hx⟩:=bX (l:=m.W) (i:=k) U;have hr:=(h.ext xr).ol.rd (show 0<2 by decide);have yA:(m.W.map wV)[k]? =some (wV x):=by rw[aW,hx];rfl
  have wk:=nE (j:=k);have hl:D.l[k]? =some (kb x):=by rw[<-h.sl,aW,hx];rfl
  refine⟨RdK.jX hr X U hc,x.1,x.2.1,RdK.y hr yA,λbN ui bw Dz=>?_⟩;have cJ:Ext wr bw:=(aU ui).L Dz (ak _);refine⟨GI,E'.map mw,GK,rfl,hm.same (cJ.heap hm.lt),⟨_,rfl⟩,λbZ fL atf=>?_⟩;rw[QK]at atf;refine⟨n-1,U,k+1,_,wk,U,atf,?_,λy hy=>?_,(Mod.oX fL).ext (xr.A cJ) λi hi=>by rw[hi];exact ak _⟩
  ·rw[GH hl];exact Pk (f:=λy:Bl=>y.1) (g:=λy:Bl=>y.2.2) x hp (uV _ h.ok.nd)
  ·rcases Pj hy with rfl|hy
   ·exact dp.2 (.inr (aQ hx))
   ·exact dP y hy
 ·replace hc:=lW hc;rw[dN U]at hp;exact⟨w,E',rfl,hm,hp,dP,xr,ak _⟩
def ad9(E:List Bl):((ee (E.map kb):Nat):Int)=(E.map λx=>(x.2.2.length:Int)).sum:=by
 induction E with
 |nil=>rfl
 |cons x t ih=>
  rw[eH,ml,eH,List.sum_cons,<-ih];have:(kb x).2.length=x.2.2.length:=rfl;omega
variable{E:List Bl}
def QL{r:Nat}(hm:bG GI w (some r) (E.map mw))(hb:∀x∈E,D7 w x)(hn:ee (E.map kb)<=1099511627776):ed 346 #[.map (some r)] w (S (ee (E.map kb):Nat)):=by
 have⟨es,clock,h1,h2,h3,h4,h5,h6⟩:=hm;have hk:es.toList.map (·.key)=(E.map mw).map (·.1):=by rw[<-h2,pR];rfl
 have hv:∀x∈es.toList,∃y∈E,x.val=.slice y.2.1.a y.2.1.n y.2.1.c:=λx hx=>by
  have:(x.key,x.val)∈E.map mw:=by rw[<-h2];exact bc.2 ⟨x,hx,rfl⟩
  have⟨y,hy,e⟩:=bc.1 this;refine⟨y,hy,?_⟩;have:=congrArg Prod.snd e;exact this.symm
 have hs:(es.toList.map λx=>I_ x.val).sum=(ee (E.map kb):Nat):=by
  rw[ad9];have e1:(es.toList.map λx=>I_ x.val)=(E.map mw).map λe=>I_ e.2:=by rw[<-h2,pR];rfl
  rw[e1,pR];congr 1;refine CP λx hx=>?_
  show((x.2.1.n:Nat):Int)=_;rw[jd.n (nY.FC (hb x hx).o)]
 have gm:MapKept.Stamped es clock:=⟨h6,h5.imp λh=>Nat.ne_of_lt h,by rw[hk];exact h4⟩;refine(U5 r es clock w h1 gm (λx hx=>by have⟨y,_,e⟩:=hv x hx;exact⟨_,_,_,e⟩) (by rw[hs];omega)).mono ?_;rintro e w' ⟨rfl,w1,seen,⟨a1,a2,a3⟩,a4,rfl⟩;refine⟨by rw[hs],?_⟩;have x1:Ext w w1:=⟨a2,a4,a3,by rw[a1];exact ak _,λi _=>by rw[a1]⟩;exact x1.aZ rfl
def QM(hp:(E.map kb).Perm s)(hn:(gS s).Nodup)(k:Int)(w:au)(hb:∀x∈E,D7 w x):∃(t:H)(b:aX),Gq (E.map mw) (k) (.slice none 0 0) (t) b/\nY 0 w t ((pg s k).getD [])/\mJ ((pg s k).getD [])/\b=(pg s k).isSome:=by
 have gl:(gS (E.map kb)).Nodup:=(hp.map λx:ki=>x.1).nodup_iff.2 hn;rw[<-ZV hp gl]
 cases q:pg (E.map kb) k with
 |none=>
  refine⟨⟨none,0,0⟩,false,.inr ⟨rfl,rfl,λe he=>?_⟩,ar.nil,(λc hc=>by cases hc),rfl⟩;obtain⟨x,hx,rfl⟩:=bc.1 he;have:=BV.1 q (kb x) (bc.2 ⟨x,hx,rfl⟩);unfold mw;simpa using this
 |some b=>
  have⟨x,hx,e⟩:=bc.1 ((BW gl).1 q);have e1:x.1=k:=congrArg Prod.fst e;have e2:x.2.2=b:=congrArg Prod.snd e;refine⟨x.2.1,true,.inl ⟨rfl,bc.2 ⟨x,hx,by unfold mw;rw[e1]⟩⟩,?_,?_,rfl⟩
  ·have:=(hb x hx).o;rw[e2]at this;exact this
  ·have:=(hb x hx).b;rw[e2]at this;exact this
def Xw(hn:(gS s).Nodup)(k:Int):((pg s k).getD []).length<=ee s:=a1N (Dd hn k)
def ZW(hW:D.l.length<=1000000000)(k:Int):Y 284 #[d,k] w λe w'=>∃(s:H)(b:aX),e=bT #[s,b]/\nY w w' s (getD D k)/\mJ (getD D k)/\(getD D k).length<=1048576/\Ext w w':=by
 apply IU.B;refine(BU h hW).mono ?_;rintro e w0 ⟨r',E',rfl,hm,hp,dP,x0,hr⟩;have hb:∀x∈E',D7 w0 x:=λx hx=>(h.ext x0).bl x (dP x hx)
 obtain⟨t,b,hl,ho,WE,-⟩:=QM hp h.ok.now k w0 hb;have hle:=Xw h.ok.now k;have hnl:=h.ok.amA;have hrm:=h.ok.r;refine⟨_,rfl,GI,_,GK,hm,⟨k,rfl⟩,t,b,hl,(pV t _ w0 (nY.FC ho) U).mono ?_⟩;rintro e w6 ⟨s7,rfl,o7,x6⟩;refine⟨s7,rfl,s7,b,rfl,ar.low o7 x0.size,WE,?_,x0.A x6⟩;show((pg (tU D) k).getD []).length<=_;omega
def DO.row{F W:Int}(hm:Mod (λi=>i=d) w w')(hr:Row w' d [D.room,F,W,.map (some m.r),.slice m.ls.a m.ls.n m.ls.c] tg)(hok:nN {D with k9:=F,wait:=W}):DO w' d m {D with k9:=F,wait:=W}:=by
 refine⟨hr,hm.map h.rm λe=>h.rd.fH h.rm e.symm,hm.gR h.ol λb hb e=>?_,h.sf,h.sl,λx hx=>⟨hm.gR (h.bl x hx).o λb hb e=>?_,(h.bl x hx).b⟩,hok⟩
 ·have⟨cs,hr'⟩:=aT h.ol X hb;exact hr'.ne h.rd X e
 ·have⟨cs,hr'⟩:=aT (h.bl x hx).o X hb;exact hr'.ne h.rd X e
def De:Y 345 #[d] w λe w'=>e=eL (jN D).2/\DO w' d m (jN D).1/\Mod (λi=>i=d) w w':=by
 apply BX.B;have hok:=h.ok.ask;have hw:=h.ok.w;have hf:=h.ok.f;refine⟨D.wait,h.rd.at 2 rfl,Z.mk (λhc=>?_) (λhc=>?_)⟩
 ·simp only[gt_iff_lt,cC]at hc;have e:jN D=({D with wait:=0},false):=by unfold jN;rw[if_pos hc]
  have e1:I (D.wait-1)=0:=by rw[wI];omega
  rw[e]at hok⊢;have⟨p1,p2⟩:=h.rd.ft (j:=2) (v:=S 0) bo rfl;refine⟨_,h.rd.at 2 rfl,?_⟩;dsimp only;rw[e1];refine⟨⟨rfl,p1⟩,λw2 e2=>⟨rfl,?_⟩⟩;have⟨q1,q2⟩:=p2 w2 e2;exact⟨h.row q2 q1 hok,q2⟩
 ·simp only[gt_iff_lt,fg]at hc;refine⟨D.k9,h.rd.at 1 rfl,Z.mk (λnA=>?_) (λnA=>?_)⟩
  ·simp only[gt_iff_lt,cC]at nA;have e:jN D=({D with k9:=D.k9-1},true):=by unfold jN;rw[if_neg hc,if_pos nA]
   rw[e]at hok⊢;have⟨p1,p2⟩:=h.rd.ft (j:=1) (v:=S (I (D.k9-1))) bo rfl;refine⟨_,h.rd.at 1 rfl,⟨rfl,p1⟩,λw2 e2=>⟨by rw[decide_eq_true nA],?_⟩⟩;have⟨q1,q2⟩:=p2 w2 e2;have e1:I (D.k9-1)=D.k9-1:=wI;rw[e1]at q1;exact⟨h.row q2 q1 hok,q2⟩
  ·simp only[gt_iff_lt,fg]at nA;have e:jN D=(D,false):=by unfold jN;rw[if_neg hc,if_neg nA]
   rw[e];exact⟨by rw[decide_eq_false nA],h,Mod.refl _ _⟩
end
def FW{w:au}{p:ai}{v:aC}(h:ld w p=some v):ah w p 0 [v]:=by show ld w (N p 0)=_;rw[fu];exact h
def aen(k:Int)(a:ai)(n c:Nat):One [S k,tr a n c]:=a1y
def Xy(D:Dk):tU (jN D).1=tU D:=by obtain⟨e1,e2,-⟩:=jq D;unfold tU;rw[e1,e2]
def DO.akN{w:au}{d:Nat}{m:Dm}{D:Dk}(h:DO w d m D):∀b,m.ls.D=some b->b≠d:=λb hb=>by
 have⟨cs,hr⟩:=aT h.ol X hb
 exact hr.ne h.rd X
def amC(w:au)(d:Nat)(m:Dm)(D:Dk)(w':au):Prop:=∃m',DO w' d m' D/\Mod (λi=>i=d\/m.ls.D=some i) w w'/\(∀i,dF d m' i->dF d m i\/w<=i)/\∀i,m'.ls.D=some i->m.ls.D=some i\/w<=i
def Z7{w:au}{d:Nat}{m:Dm}{D:Dk}(h:DO w d m D)(hW:D.l.length<=1000000000)(key:Int)(s:H)(b:ab)(hs:jd w s b)(hb:mJ b)(hn:b.length<=1099511627776)(hsd:s.D≠some d): Y 293 #[.pointer (O d),key,s] w λe w'=>e=.returned (S (kV D key b).2)/\amC w d m (kV D key b).1 w':=by
 apply(Jd.B (a2:=s));have hsn:=jd.n hs;refine(De h).mono ?_;rintro e wb ⟨rfl,h0,m0⟩;have z0:=m0.size;have m0':Mod (λi=>i=d\/m.ls.D=some i) w wb:=m0.mono λi _ hi=>.inl hi
 refine⟨_,rfl,Z.mk (λhf=>?_) (λhf=>?_)⟩
 ·have e:kV D key b=((jN D).1,9):=by unfold kV;rw[if_pos hf]
  rw[e];exact⟨rfl,m,h0,m0',λi hi=>.inl hi,λi hi=>.inl hi⟩
 have⟨e1,e2,e3⟩:=jq D;have hs0:jd wb s b:=m0.rdK X hs λ_ g hg e=>hsd (e▸hg)
 refine(BU h0 (e2▸hW)).mono ?_;rintro e N6 ⟨r',E',rfl,hm2,hp,acH,x2,hr'⟩;rw[Xy]at hp;have hnd:=h.ok.now;have hnl:=h.ok.amA;have hrm:=h.ok.r;have hbE:∀x∈E',D7 N6.drew x:=λx hx=>(h0.ext (x2.A (Ext.K N6))).bl x (acH x hx)
 have ajk:bG GI N6.drew (some r') (E'.map mw):=hm2.same ((Ext.K N6).heap hm2.lt);obtain⟨t,tb,hl,hto,htb,-⟩:=QM hp hnd key N6.drew hbE;have htn:=jd.n (nY.FC hto);have hll:=G0 hnd (key,b);have hlE:ee (E'.map kb)=ee (tU D):=B8 hp;simp only at hll;have hg:((pg (tU D) key).getD []).length<=ee (tU D):=Xw hnd key;rw[<-htn]at hll hg;have wl:IntKind.wrap .i64 (((ee (E'.map kb):Nat):Int)-((t.n:Nat):Int))=((ee (tU D):Nat):Int)-t.n:=by rw[hlE,wI j_]
 have wr:IntKind.wrap .i64 (D.room-((s.n:Nat):Int))=D.room-s.n:=wI j_;have hd0:∀{v:au},Ext wb v->ld v (N (O d) 0)=some (S D.room):=λx=>by have:=(h0.ext x).rd.at 0 rfl;rw[e3]at this;exact this
 have x2d:=x2.A (Ext.K N6);have hby:=QL (w:=N6.drew) ajk hbE (by rw[hlE];omega);refine⟨_,rfl,D.room,hd0 x2d,hby.mono ?_,GI,_,GK,ajk,⟨key,rfl⟩,t,tb,hl,FW (hd0 x2d),hby.mono ?_⟩
 all_goals
  rintro e v ⟨rfl,xv⟩
  have xv0:=x2d.A xv
  first|refine⟨_,rfl,FW (hd0 xv0),GI,_,GK,ajk.same (xv.heap ajk.lt),⟨key,rfl⟩,t,tb,hl,FW (hd0 xv0),?_⟩|refine⟨_,rfl,FW (hd0 xv0),?_⟩
  rw[wl,wr]
  refine Z.mk (λhc=>?_) (λhc=>?_)
  ·simp only[gt_iff_lt,decide_eq_true_eq]at hc
   have e:kV D key b=((jN D).1,8):=by unfold kV;rw[if_neg (by rw[hf];decide),if_pos U]
   rw[e]
   have zv:=xv0.size
   exact⟨rfl,m,h0.ext xv0,m0'.trans (Mod.P xv0),λi hi=>.inl hi,λi hi=>.inl hi⟩
  ·simp only[gt_iff_lt,decide_eq_false_iff_not]at hc
   have e:kV D key b=({(jN D).1 with l:=D.l++[(key,b)]},0):=by unfold kV;rw[if_neg (by rw[hf];decide),if_neg U]
   have hok:=h.ok.put key b
   rw[e]at hok⊢
   have xvd:=xv0.A (Ext.K v)
   refine⟨m.ls,(h0.ext xvd).rd.at 4 rfl,(pV s b v.drew (hs0.ext xvd) hn).mono ?_⟩
   rintro e IH ⟨s13,rfl,o13,x12⟩
   have aky:=xvd.A x12
   have h12:=h0.ext aky
   have⟨n1,n2⟩:=h12.nW
   rw[e2]at n2
   refine⟨s13,rfl,FW (h12.rd.at 4 rfl),λw14 e14=>?_⟩
   subst e14
   have⟨hp2,abK⟩:=ar.l6 h12.ol (bytes:=32) (news:=wV (key,s13,b)) (.cells #[key,s13] tW) (eG _) rfl (aen _ _ _ _) U U
   refine⟨hp2,λs15 w16 hr=>?_⟩
   have⟨f1,alC,arI,xb,aoG,ahr⟩:=abK s15 w16 hr
   have m16:Mod (λj=>m.ls.D=some j) IH w16:=Mod.xq xb aoG
   have alD:=m16.row h12.rd λq=>h12.akN _ q rfl
   have⟨p1,p2⟩:=alD.ft (j:=4) (v:=.slice s15.a s15.n s15.c) bo rfl
   have z12:=aky.size
   have hdl:=h.rd.lt
   refine⟨f1,⟨rfl,p1⟩,λq=>?_,λK8 e17=>⟨rfl,{m with ls:=s15,W:=m.W++[(key,s13,b)]},?_,?_,?_,?_⟩⟩
   ·rw[cB]at q
    have:d=IH:=by simpa[bM]using q
    omega
   ·have⟨q1,q2⟩:=p2 K8 e17
    have mm:Mod (λj=>j=d\/m.ls.D=some j) IH K8:=(m16.mono λi _ hi=>.inr hi).trans (q2.mono λi _ hi=>.inl hi)
    have off:∀{g:Nat}{cs:af}{τ:aB},Row IH g cs τ->τ≠tg->τ≠tW->¬(g=d\/m.ls.D=some g):=λhr' t1 t2 q=>by
     rcases q with q|q
     ·exact hr'.ne h12.rd t1 q
     ·have⟨cs',hr2⟩:=aT h12.ol X q;exact hr'.ne hr2 t2 rfl
    refine⟨q1,mm.map h12.rm λq=>?_,?_,h12.sf,?_,λx hx=>?_,hok⟩
    ·rcases q with q|q
     ·exact h12.rd.fH h12.rm q.symm
     ·have⟨cs',hr2⟩:=aT h12.ol X q;exact hr2.fH h12.rm rfl
    ·show ar 0 tW 2 K8 s15 ((m.W++[(key,s13,b)]).map wV);rw[cl];refine q2.gR alC λg hg=>?_
     have⟨cs',hr2⟩:=aT alC X hg;exact hr2.ne alD X
    ·show(m.W++[(key,s13,b)]).map kb=D.l++[(key,b)];rw[cl,h.sl];rfl
    ·have hx:x∈m.E++m.W\/x=(key,s13,b):=by
      simp only[dp,cu,iT,or_false]at hx⊢;rcases hx with hx|hx|hx
      ·exact .inl (.inl hx)
      ·exact .inl (.inr hx)
      ·exact .inr hx
     have hbx:D7 IH x:=by
      rcases hx with hx|rfl
      ·exact h12.bl x hx
      ·exact⟨ar.low o13 (eG _),hb⟩
     refine⟨mm.gR hbx.o λg hg=>?_,hbx.b⟩;have⟨cs',hr2⟩:=aT hbx.o X hg;exact off hr2 X X
   ·have⟨q1,q2⟩:=p2 K8 e17;refine(m0'.trans (Mod.P aky)).trans ((m16.mono λi _ hi=>.inr hi).trans (q2.mono λi _ hi=>.inl hi))
   ·rintro i (q|q|q|⟨x,hx,q⟩)
    ·exact .inl (.inl q)
    ·exact .inl (.inr (.inl q))
    ·rcases ahr with q'|q'
     ·exact .inl (.inr (.inr (.inl (q'▸q))))
     ·rw[q']at q;cases q;exact .inr U
    ·simp only[dp,cu,iT,or_false]at hx;rcases hx with hx|hx|rfl
     ·exact .inl (.inr (.inr (.inr ⟨x,List.mem_append.2 (.inl hx),q⟩)))
     ·exact .inl (.inr (.inr (.inr ⟨x,List.mem_append.2 (.inr hx),q⟩)))
     ·have:=(o13.own.lt q).1;have zv:=xvd.size;exact .inr U
   ·intro i q;rcases ahr with q'|q'
    ·exact .inl (q'▸q)
    ·have q:s15.D=some i:=q;rw[q']at q;cases q;exact .inr U
end Go.Proofs.YtjcnjlaelhdjeaaGreatDoor
