import Derived.Test.YtalpkjfpmdpbiaaGreatDoorC
import Derived.Test.YtalpkjfpmdpbiaaGreatDoorP
import Derived.Test.YtalpkjfpmdpbiaaGreatDoorLib
set_option linter.all false
namespace Go.Proofs.YtalpkjfpmdpbiaaGreatDoor
open Go Go.Vc Go.RowKit Go.Proofs Go.bf
abbrev eW:TypeId:=166
abbrev qC:TypeId:=3
abbrev rv(r:Rn):LV:=[.int .i64 r.1,.int .i64 r.2]
abbrev iv(b:Int):LV:=[.int .i64 b]
abbrev ei(w:World)(s:Sl)(l:List Rn):Prop:=RdK w s 2 (l.map rv)
abbrev xk(w:World)(s:Sl)(c:List Int):Prop:=RdK w s 1 (c.map iv)
abbrev lS(B:Nat)(w:World)(s:Sl)(l:List Rn):Prop:=ak B eW 2 w s (l.map rv)
abbrev UG(B:Nat)(w:World)(s:Sl)(c:List Int):Prop:=ak B qC 1 w s (c.map iv)
def lS.rA{B:Nat}{w:World}{s:Sl}{l:List Rn}(h:lS B w s l):ei w s l:=ak.rd h aa
def UG.UH{B:Nat}{w:World}{s:Sl}{c:List Int}(h:UG B w s c):xk w s c:=ak.rd h aa
def ei.len{w:World}{s:Sl}{l:List Rn}(h:ei w s l):s.n=l.length:=by have:=h.n;simpa using this
def xk.len{w:World}{s:Sl}{c:List Int}(h:xk w s c):s.n=c.length:=by have:=h.n;simpa using this
def ei.get{w:World}{s:Sl}{l:List Rn}(_:ei w s l){i:Nat}{r:Rn}(hi:l[i]? =some r):(l.map rv)[i]? =some (rv r):=by rw [aX,hi];rfl
def ei.c0{w:World}{s:Sl}{l:List Rn}(h:ei w s l){i:Nat}{r:Rn}(hi:l[i]? =some r):ld w (ae (ae s.a (i*2)) 0)=some (.int .i64 r.1):=RdK.at h (ei.get h hi) (j:=0) rfl
def ei.c1{w:World}{s:Sl}{l:List Rn}(h:ei w s l){i:Nat}{r:Rn}(hi:l[i]? =some r):ld w (ae (ae s.a (i*2)) 1)=some (.int .i64 r.2):=RdK.at h (ei.get h hi) (j:=1) rfl
def ei.ll{w:World}{s:Sl}{l:List Rn}(h:ei w s l){i:Nat}{r:Rn}(hi:l[i]? =some r):av w (ae s.a (i*2)) 0 [r.1,r.2]:=RdK.bk h (ei.get h hi)
def xk.c0{w:World}{s:Sl}{l:List Int}(h:xk w s l){i:Nat}{b:Int}(hi:l[i]? =some b):ld w (ae s.a (i*1))=some (.int .i64 b):=by have:=h.rd i (iv b) (by rw [aX,hi];rfl) 0 _ rfl;simpa using this
def ei.fN{w:World}{s:Sl}{l:List Rn}(h:ei w s l){i:Nat}(hi:i<l.length):cB s.a (i:Int) s.n:=RdK.fN h aa aa (by have:=ei.len h;omega)
def xk.fN{w:World}{s:Sl}{l:List Int}(h:xk w s l){i:Nat}(hi:i<l.length):cB s.a (i:Int) s.n:=RdK.fN h aa aa (by have:=xk.len h;omega)
def ei.some{w:World}{s:Sl}{l:List Rn}(h:ei w s l){i:Nat}(hi:i<l.length):(ae s.a (i*2)).isSome=true:=by rw [dX];exact RdK.isSome h aa (i:=i) (by simpa using hi)
def bh{α:Type}{l:List α}{i:Nat}(h:i<l.length):∃r,l[i]? =some r:=⟨_,cr h⟩
abbrev Bd(n:Nat):Prop:=n<=1099511627776
def mG(s:Sl)(l:List Rn)(w:World)(hs:ei w s l)(hb:Bd l.length)(hl:∀r ∈ l,0<=r.1)(AX:ba l<=1099511627776):
  ah 191 #[s] w λe w'=>e=Value.int .i64 (ba l)/\Ext w w':=by
 have j6:=ei.len hs;apply Q7.vc;refine ⟨λn x y wr=>∃k:Nat,x=k/\k+n=l.length/\Ext w wr/\y=ba (l.take k),⟨l.length,0,rfl,by omega,Ext.ck w,rfl⟩,?_⟩;rintro n us x y wr ⟨k,rfl,hk,xr,rfl⟩;have hw:=az (n:=(k:Int)+1) (by unfold inI;omega);apply Br.mk<;>intro h<;>simp at h
 ·obtain ⟨r,hr⟩:=bh (l:=l) (i:=k) aa;refine ⟨ei.fN hs aa,_,_,ei.ll (hs.ext xr) hr,?_⟩;rintro w9 rfl bL rfl;have e:ba (l.take (k+1))=ba (l.take k)+r.1:=by rw [cu,hr];simp [ba]
  have h0:0<=ba (l.take k)/\0<=r.1/\ba (l.take (k+1))<=ba l:=by
   refine ⟨?_,hl r (bc hr),?_⟩
   ·rw [dq λq hq=>hl q (kh hq)];omega
   ·have:=HD (l.take (k+1)) (l.drop (k+1));rw [kf] at this;have h2:0<=ba (l.drop (k+1)):=by rw [dq λq hq=>hl q (ow hq)];omega
    omega
  have yd:=az (n:=ba (l.take k)+r.1) (by unfold inI;omega);refine ⟨n-1,by omega,k+1,by omega,by omega,((xr.tr (Ext.al _ _)).setRow xr.size _),by rw [yd,e]⟩
 ·obtain rfl:k=l.length:=by omega
  rw [kg];exact ⟨rfl,xr⟩
end Go.Proofs.YtalpkjfpmdpbiaaGreatDoor
namespace Go.Proofs.YtalpkjfpmdpbiaaGreatDoor
open Go Go.Vc Go.RowKit Go.Proofs Go.bf
abbrev Zm(s:Sl)(w w':World):Prop:=∀j,s.bg≠some j->j<w.heap.size->w'.heap[j]? =w.heap[j]?
def zV(B:Nat)(s:Sl)(l:List Rn)(r:Rn)(w:World)(hB:B<=w)(ho:lS B w s l)(hn:Bd l.length)(hl:∀q ∈ l,0<=q.1/\q.1<=1099511627776)(hr:r.1<=1099511627776):
  ah 210 #[s,.agg #[r.1,r.2]] w λe w'=>∃s':Sl,e=s'/\lS B w' s' (gk l r)/\Below B w w'/\Zm s w w':=by
 have j6:=ei.len ho.rA;apply NQ.vc;rintro w0 rfl;have xa:=Ext.al w (.cells #[r.1,r.2] eW);have xd:=xa.drew;have hz:(w.alloc (.cells #[r.1,r.2] eW)).drew.heap.size=w.heap.size+1:=by simp [World.drew]
 have hw:=az (n:=((s.n:Nat):Int)-1) (by unfold inI;omega);have grow:∀(_:1<=r.1)(_:∀q,l.getLast? =some q->q.2≠r.2),(∀w4:World,w4=(w.alloc (.cells #[r.1,r.2] eW)).drew.alloc (.cells #[r.1,r.2] eW)->
   aF 16 2 w4 ⟨s.a,s.n,s.c⟩ 1 [r.1,r.2]/\∀(s5:Sl)(w6:World),aD eW 2 w4 ⟨s.a,s.n,s.c⟩ 1 [r.1,r.2] s5 w6->w6.heap[w.heap.size]? =w4.heap[w.heap.size]?/\w6.heap[(w.alloc (.cells #[r.1,r.2] eW)).drew.heap.size]? =w4.heap[(w.alloc (.cells #[r.1,r.2] eW)).drew.heap.size]?/\
   ∃s':Sl,Ending.returned (.slice s5.a s5.n s5.c)=s'/\lS B w6 s' (gk l r)/\Below B w w6/\Zm s w w6):=by
  rintro h1 h2 w4 rfl;obtain ⟨hp,aS⟩:=(ak.ext ho xd).kD (bytes:=16) (news:=rv r) (.cells #[r.1,r.2] eW) (fy hB xd.size) rfl (nI _ _ _ _) aa aa;refine ⟨hp,λs5 w6 hr'=> ?_⟩;obtain ⟨k1,ho',hn',xb,hk,hb⟩:=aS s5 w6 hr';refine ⟨?_,k1,s5,rfl,?_,(Below.mono xd hB).trans xb,λj hj ft=> ?_⟩
  ·rw [hk _ (λhb=>absurd (ho.own.lt hb).2 (sQ _)) aa];symm;exact (Ext.al _ _).heap aa
  ·rw [eA h1 h2];show ak B eW 2 w6 s5 ((l++ [r]).map rv);rw [aT];exact ho'
  ·rw [hk j hj aa];exact xd.heap ft
 apply Br.mk<;>intro h<;>simp at h
 ·exact ⟨s,rfl,by rw [jS h];exact ak.ext ho xa,Below.mono xa hB,λj _ hj=>xa.heap hj⟩
 rw [hw];refine Br.mk (λh'=> ?_) (λh'=> ?_)<;>simp at h'
 ·rcases nK l with rfl|⟨m,q,rfl⟩
  ·simp at j6;omega
  rw [eK] at j6;simp at j6;have aac:(((s.n:Nat):Int)-1).toNat=m.length:=by omega
  have hq:(m++ [q])[m.length]? =some q:=by simp
  have cV:cB s.a (((s.n:Nat):Int)-1) s.n:=by have:=ei.fN ho.rA (i:=m.length) cy;rwa [show ((m.length:Nat):Int)=((s.n:Nat):Int)-1 from by omega] at this
  have hsome:=ei.some ho.rA (i:=m.length) cy;rw [aac];have r1:=RdK.ext ho.rA xd;have r2:=RdK.ext ho.rA xd.drew;refine ⟨cV,dS.2 ⟨hsome,_,ei.c1 r1 hq,Br.mk (λh2=> ?_) (λh2=> ?_)⟩⟩
  ·simp at h2;obtain ⟨q1,q2,q3,q4,q5⟩:=(ak.ext ho xd.drew).set (i:=m.length) (j:=0) (r:=rv q) (v:=.int .i64 (ai (q.1+r.1))) (by rw [aX,hq];rfl) aa rfl (fy hB xd.drew.size);refine ⟨cV,dS.2 ⟨hsome,_,ei.c0 r2 hq,cV,dS.2 ⟨hsome,⟨q1,q2⟩,?_,?_⟩⟩⟩
   ·intro hb;have:s.bg=some w.heap.size:=by rw [da,da] at hb;exact hb
    exact absurd (ho.own.lt this).2 (sQ _)
   ·rintro w3 rfl;have hwq:=az (n:=q.1+r.1) (by have:=hl q cy;unfold inI;omega);rw [hwq] at q3 q4 q5 ⊢;refine ⟨s,rfl,?_,(Below.mono xd.drew hB).trans q4,λj hj ft=> ?_⟩
    ·rw [fZ h h2];show ak B eW 2 _ s ((m++ [(q.1+r.1,q.2)]).map rv);have e:((m++ [q]).map rv).set m.length ((rv q).set 0 (.int .i64 (q.1+r.1)))=(m++ [(q.1+r.1,q.2)]).map rv:=by rw [aT,aT,List.set_append_right _ _ cy];simp
     rw [<-e];exact q3
    ·rw [q5 j hj];exact xd.drew.heap ft
  ·exact grow h (by intro p hp;simp at hp;subst hp;simpa using h2)
 ·have:l=[]:=by apply sN;omega
  subst this;exact grow h cy
def nR(B:Nat)(s:Sl)(c:List Int)(r:Rn)(w:World)(hB:B<=w)(ho:lS B w s (cK c))(hn:Bd c.length)(hr:r.1<=1099511627776):
  ah 210 #[s,.agg #[r.1,r.2]] w λe w'=>∃s':Sl,e=s'/\lS B w' s' (cK (c++List.replicate r.1.toNat r.2))/\Below B w w'/\Zm s w w':=by
 rw [<-sV];refine zV B s _ r w hB ho (by have:=j1 c;unfold Bd at*;omega) (λq hq=> ?_) hr;have:=iH hq;unfold Bd at hn;omega
def zW(n b:Int)(w:World)(hn:n<=1099511627776):
  ah 228 #[n,b] w λe w'=>∃s':Sl,e=s'/\lS w w' s' (cK (List.replicate n.toNat b))/\Ext w w':=by
 apply NS.vc;refine (nR w ⟨none,0,0⟩ [] (n,b) w (ax _) ak.nil cy hn).mono ?_;rintro e w' ⟨s',rfl,ho,x,_⟩;exact ⟨s',rfl,s',rfl,by simpa using ho,x⟩
def DR(s:Sl)(c:List Int)(w:World)(hs:xk w s c)(hn:Bd c.length):
  ah 164 #[s] w λe w'=>∃s':Sl,e=s'/\lS w w' s' (cK c)/\Ext w w':=by
 have j6:=xk.len hs;apply VE.vc;refine ⟨λn x o wr=>∃k:Nat,x=k/\k+n=c.length/\Ext w wr/\lS w wr o (cK (c.take k)),⟨c.length,0,rfl,by omega,Ext.ck w,ak.nil⟩,?_⟩;rintro n us x o wr ⟨k,rfl,hk,xr,ho⟩;unfold Bd at hn;have hw:=az (n:=(k:Int)+1) (by unfold inI;omega);apply Br.mk<;>intro h<;>simp at h
 ·obtain ⟨b,hb⟩:=bh (l:=c) (i:=k) aa;refine ⟨xk.fN hs aa,_,xk.c0 (hs.ext xr) hb,?_⟩;refine (nR w o _ (1,b) wr xr.size ho (by rw [bG];unfold Bd;omega) (by show (1:Int)<=_;omega)).mono ?_;rintro e w' ⟨s',rfl,ho',x',_⟩;refine ⟨s',rfl,n-1,by omega,k+1,by omega,by omega,xr.trans x',?_⟩;rw [cu,hb];exact ho'
 ·obtain rfl:k=c.length:=by omega
  rw [kg] at ho;exact ⟨o,rfl,ho,xr⟩
end Go.Proofs.YtalpkjfpmdpbiaaGreatDoor
namespace Go.Proofs.YtalpkjfpmdpbiaaGreatDoor
open Go Go.Vc Go.RowKit Go.Proofs Go.bf
def gG{l:List Rn}{k:Nat}{r:Rn}(hr:l[k]? =some r):ba (l.take (k+1))=ba (l.take k)+r.1:=by rw [cu,hr];simp [ba]
def Mv{l:List Rn}(hl:∀r ∈ l,0<=r.1):0<=ba l:=by rw [dq hl];omega
def fg{l:List Rn}(hl:∀r ∈ l,0<=r.1)(k:Nat):0<=ba (l.take k)/\ba (l.take k)<=ba l:=by
 refine ⟨Mv λq hq=>hl q (kh hq),?_⟩;have:=HD (l.take k) (l.drop k);rw [kf] at this;have h2:=Mv (l:=l.drop k) λq hq=>hl q (ow hq)
 omega
def iG{l:List Rn}{k:Nat}{r:Rn}(hr:l[k]? =some r):aW (l.take (k+1))=aW (l.take k)++List.replicate r.1.toNat r.2:=by rw [cu,hr,fk];exact congrArg _ (gL r)
def Zq(c:List Int)(a b:Int):(BU c a b).length<=c.length:=by unfold BU;simp;omega
def qW(s:Sl)(l:List Rn)(a b:Int)(w:World)(hs:ei w s l)(hn:Bd l.length)(hl:∀r ∈ l,0<=r.1)(AX:ba l<=1099511627776)(ha:0<=a)(hb:0<=b):
  ah 227 #[s,a,b] w λe w'=>∃s':Sl,e=s'/\lS w w' s' (cK (BU (aW l) a b))/\Ext w w':=by
 have j6:=ei.len hs;unfold Bd at hn;apply Q8.vc;refine ⟨λn x y o wr=>∃k:Nat,x=k/\k+n=l.length/\Ext w wr/\y=ba (l.take k)/\lS w wr o (cK (BU (aW (l.take k)) a b)),⟨l.length,0,rfl,by omega,Ext.ck w,rfl,?_⟩,?_⟩
 ·have:BU (aW (l.take 0)) a b=[]:=by simp [BU,aW]
  rw [this];exact ak.nil
 rintro n us x y o wr ⟨k,rfl,hk,xr,rfl,ho⟩;have hw:=az (n:=(k:Int)+1) (by unfold inI;omega);apply Br.mk<;>intro h<;>simp at h
 ·obtain ⟨r,hr⟩:=bh (l:=l) (i:=k) aa;have e:=gG hr;have hr0:=hl r (bc hr);have b1:=fg hl k;have b2:=fg hl (k+1);have yd:=az (n:=ba (l.take k)+r.1) (by unfold inI;omega);have hc:((aW (l.take k)).length:Int)=ba (l.take k):=(dq λq hq=>hl q (kh hq)).symm;have aey:BU (aW (l.take (k+1))) a b=BU (aW (l.take k)) a b++List.replicate (min b (ba (l.take k)+r.1)-max a (ba (l.take k))).toNat r.2:=by rw [iG hr,Sc _ _ _ _ _ ha hb];congr 2;omega
  refine ⟨ei.fN hs aa,_,_,ei.ll (hs.ext xr) hr,?_⟩;rintro w9 rfl bL rfl;rw [yd];have br:=((xr.tr (Ext.al _ (.cells #[af,af] eW))).setRow xr.size #[r.1,r.2]);have e1:(if ba (l.take k)+r.1<b then ba (l.take k)+r.1 else b)=min b (ba (l.take k)+r.1):=by split<;>omega
  have e2:(if ba (l.take k)>a then ba (l.take k) else a)=max a (ba (l.take k)):=by split<;>omega
  rw [e1,e2];have hkeep:∀g,o.bg=some g->(((wr.alloc (.cells #[af,af] eW)).setRow wr.heap.size #[r.1,r.2]).drew).heap[g]? =wr.heap[g]? :=by intro g hg;have:=(ho.own.lt hg).2;show ((wr.alloc _).setRow wr.heap.size _).heap[g]? =_;rw [setRow_other _ _ _ _ aa];exact (Ext.al _ _).heap this
  have Fy:=ak.bP ho hkeep;have dY:(BU (aW (l.take k)) a b).length<=1099511627776:=by have:=Zq (aW (l.take k)) a b;omega
  apply Br.mk<;>intro h2<;>simp only [bB,bQ] at h2
  ·have Jo:=az (n:=min b (ba (l.take k)+r.1)-max a (ba (l.take k))) (by unfold inI;omega);rw [Jo];refine (nR w o _ (min b (ba (l.take k)+r.1)-max a (ba (l.take k)),r.2) _ br.drew.size Fy dY (by show min b (ba (l.take k)+r.1)-max a (ba (l.take k))<=_;omega)).mono ?_;rintro e w' ⟨s',rfl,ho',x',Ji⟩;refine ⟨s',rfl,Ji _ (λhb=>absurd (ho.own.lt hb).2 (sQ _)) (by simp [World.drew,World.setRow]),n-1,by omega,k+1,by omega,by omega,br.drew.trans x',by omega,?_⟩;rw [aey];exact ho'
  ·refine ⟨n-1,by omega,k+1,by omega,by omega,br.drew,by omega,?_⟩;rw [aey,show (min b (ba (l.take k)+r.1)-max a (ba (l.take k))).toNat=0 from by omega];simpa using Fy
 ·obtain rfl:k=l.length:=by omega
  rw [kg] at ho;exact ⟨o,rfl,ho,xr⟩
def jU(s:Sl)(l:List Rn)(w:World)(hs:ei w s l)(hn:Bd l.length):
  ah 162 #[s] w λe w'=>∃s':Sl,e=s'/\lS w w' s' l/\Ext w w':=by
 have j6:=ei.len hs;unfold Bd at hn;apply uX.vc;apply Br.mk<;>intro h
 ·have:l=[]:=by
   rcases sJ l.length with h0|h0
   ·exact sN h0
   ·have:=RdK.isSome hs aa (i:=0) (by simpa using h0)
    cases hsa:s.a<;>simp [hsa] at h this
  subst this;exact ⟨⟨none,0,0⟩,rfl,ak.nil,Ext.ck w⟩
 ·rintro w0 rfl;have xa:=Ext.al w (.cells #[] eW);have hz:Go.Vc.Own w eW 2 (w.alloc (.cells #[] eW)) ⟨bu w.heap.size,0,0⟩ []:=.row w.heap.size 0 0 [] (ax _) (Row.new w [] eW) cy (ax _);have hf:(l.map rv).flatten.length=s.n*2:=by rw [bJ hs.wd];simp [j6]
  have h1:One (l.map rv).flatten:=fc λr hr=>by obtain ⟨q,_,rfl⟩:=aR.1 hr;exact nI _ _ _ _
  obtain ⟨hp,hr⟩:=hz.append (bytes:=16) (m:=s.n) (news:=(l.map rv).flatten) xa.size hf h1 (by simp;omega) (by simp;omega);refine ⟨(l.map rv).flatten,RdK.flat (hs.ext xa) aa,hp,λs2 w3 aS=> ?_⟩;obtain ⟨ho,Fu,xb,_,_⟩:=hr s2 w3 aS;refine ⟨po aS hf cy,s2,rfl,⟨by simpa using ho,hs.wd⟩,xa.trans xb⟩
def Ag(s:Sl)(ss:List Sl)(cs:List (List Int))(w:World)(hs:RdK w s 1 (ss.map λt=> [.slice t.a t.n t.c]))(dY:ss.length=cs.length)
  (hr:∀(i:Nat)(t:Sl)(c:List Int),ss[i]? =some t->cs[i]? =some c->ei w t (cK c))(hb:Bd ss.length)(hn:Bd cs.flatten.length):
  ah 226 #[s] w λe w'=>∃s':Sl,e=s'/\lS w w' s' (cK cs.flatten)/\Ext w w':=by
 have j6:s.n=ss.length:=by have:=hs.n;simpa using this
 unfold Bd at hn hb;apply NR.vc;refine ⟨λn x o wr=>∃k:Nat,x=k/\k+n=ss.length/\Ext w wr/\lS w wr o (cK (cs.take k).flatten),⟨ss.length,0,rfl,by omega,Ext.ck w,ak.nil⟩,?_⟩;rintro n us x o wr ⟨k,rfl,hk,xr,ho⟩;have hw:=az (n:=(k:Int)+1) (by unfold inI;omega);apply Br.mk<;>intro h<;>simp at h
 ·obtain ⟨t,ht⟩:=bh (l:=ss) (i:=k) aa;obtain ⟨c,hc⟩:=bh (l:=cs) (i:=k) aa;have hrt:=hr k t c ht hc;have htn:=ei.len hrt;have hfl:(cs.take (k+1)).flatten=(cs.take k).flatten++c:=by rw [cu,hc];simp
  have hle:(cs.take k).flatten.length+c.length<=cs.flatten.length:=by have e:=congrArg List.length (congrArg List.flatten (kf (k+1) cs));rw [CC,hfl] at e;simp only [eK] at e;omega
  have Pp:=j1 c;have mH:=hs.rd k [.slice t.a t.n t.c] (by rw [aX,ht];rfl) 0 _ rfl;refine ⟨RdK.fN hs aa aa aa,t,xr.ld (by simpa using mH),?_⟩;refine ⟨λn x o wr=>∃j:Nat,x=j/\j+n=(cK c).length/\Ext w wr/\lS w wr o (cK ((cs.take k).flatten++aW ((cK c).take j))),⟨(cK c).length,0,rfl,by omega,xr,by simpa [aW] using ho⟩,?_⟩;rintro n2 oX x2 o2 w2 ⟨j,rfl,hj,x2,Fy⟩;have yd:=az (n:=(j:Int)+1) (by unfold inI;omega);apply Br.mk<;>intro h2<;>simp at h2
  ·obtain ⟨r,WL⟩:=bh (l:=cK c) (i:=j) aa;have hrm:=iH (bc WL);refine ⟨ei.fN hrt aa,_,_,ei.ll (hrt.ext x2) WL,?_⟩;rintro w9 rfl bL rfl;have br:=((x2.tr (Ext.al _ (.cells #[af,af] eW))).setRow x2.size #[r.1,r.2]);have ho3:=ak.bP (w':=(w2.alloc (.cells #[af,af] eW)).setRow w2.heap.size #[r.1,r.2]) Fy (by
    intro g hg;have:=(Fy.own.lt hg).2;rw [setRow_other _ _ _ _ aa];exact (Ext.al _ _).heap this)
   have Fe:((cs.take k).flatten++aW ((cK c).take j)).length<=1099511627776:=by rw [eK];have h3:=fg (l:=cK c) (λq hq=>by have:=iH hq;omega) j;rw [iu,dq λq hq=>by have:=iH (kh hq);omega] at h3;omega
   refine (nR w o2 _ r _ br.size ho3 Fe aa).mono ?_;rintro e w' ⟨s',rfl,ho',x',Ji⟩;refine ⟨s',rfl,Ji _ (λhb=>absurd (Fy.own.lt hb).2 (sQ _)) (by simp [World.setRow]),n2-1,by omega,j+1,by omega,by omega,br.trans x',?_⟩;rw [iG WL,<-mU];exact ho'
  ·obtain rfl:j=(cK c).length:=by omega
   refine ⟨n-1,by omega,k+1,by omega,by omega,x2,?_⟩;rw [kg,iX] at Fy;rw [hfl];exact Fy
 ·obtain rfl:k=ss.length:=by omega
  rw [dY,kg] at ho;exact ⟨o,rfl,ho,xr⟩
end Go.Proofs.YtalpkjfpmdpbiaaGreatDoor
namespace Go.Proofs.YtalpkjfpmdpbiaaGreatDoor
open Go Go.Vc Go.RowKit Go.Proofs Go.bf
def AK(s:Sl)(c:List Int)(a b x:Int)(w:World)(hs:ei w s (cK c))(hn:Bd c.length)(ha:inI a)(hb:inI b):
  ah 192 #[s,a,b,x] w λe w'=>∃s':Sl,e=s'/\lS w w' s' (cK (if aY x then tE c a b x else c))/\Ext w w':=by
 have hl:Bd (cK c).length:=fy (j1 c) hn;have hp:∀r ∈ cK c,0<=r.1:=λr hr=>by have:=iH hr;omega
 have AX:ba (cK c)<=1099511627776:=by rw [iu];unfold Bd at hn;omega
 unfold Bd at hn;unfold inI at ha hb;apply NP.vc;refine (mG s _ w hs hl hp AX).mono ?_;rintro e w1 ⟨rfl,x1⟩;rw [iu];refine ⟨_,rfl,(gK x w1).mono ?_⟩;rintro e w2 ⟨rfl,x2⟩;have bT:=x1.tr x2;have e1:(if ((c.length:Nat):Int)<(if 0>a then 0 else a) then ((c.length:Nat):Int) else (if 0>a then 0 else a))=min (max a 0) (c.length:Int):=by split<;>split<;>omega
 have e2:(if ((c.length:Nat):Int)<(if 0>b then 0 else b) then ((c.length:Nat):Int) else (if 0>b then 0 else b))=min (max b 0) (c.length:Int):=by split<;>split<;>omega
 rw [e1,e2];refine ⟨_,rfl,Br.mk (λh=> ?_) (λh=>Br.mk (λh2=> ?_) (λh2=> ?_))⟩
 ·simp at h;refine (jU s _ w2 (hs.ext bT) hl).mono ?_;rintro e w3 ⟨s',rfl,ho,x3⟩;refine ⟨s',rfl,s',rfl,?_,bT.tr x3⟩;rw [h];exact ak.low ho bT.size
 ·simp at h h2;refine (jU s _ w2 (hs.ext bT) hl).mono ?_;rintro e w3 ⟨s',rfl,ho,x3⟩;refine ⟨s',rfl,s',rfl,?_,bT.tr x3⟩;rw [h,if_pos rfl,KR c a b x aa];exact ak.low ho bT.size
 ·replace h2:=fh h2;have hm:aY x=true:=by simpa using h
  have hw:=az (n:=min (max b 0) (c.length:Int)-min (max a 0) (c.length:Int)) (by unfold inI;omega);rw [hw];refine (qW s _ 0 (min (max a 0) (c.length:Int)) w2 (hs.ext bT) hl hp AX aa aa).mono ?_;rintro e w3 ⟨s1,rfl,o1,x3⟩;refine ⟨s1,rfl,(zW (min (max b 0) (c.length:Int)-min (max a 0) (c.length:Int)) x w3 aa).mono ?_⟩;rintro e w4 ⟨s2,rfl,o2,x4⟩;refine ⟨s2,rfl,(qW s _ (min (max b 0) (c.length:Int)) c.length w4 (((hs.ext bT).ext x3).ext x4) hl hp AX aa aa).mono ?_⟩;rintro e w5 ⟨s3,rfl,o3,x5⟩;refine ⟨s3,rfl,?_⟩;rintro w6 rfl;have x6:=Ext.al w5 (.cells #[s1,s2,s3] 106);rw [iX] at o1 o3;have jx:=Row.new w5 [s1,s2,s3] 106;have eZ:RdK (w5.alloc (.cells #[s1,s2,s3] 106)) ⟨bu w5.heap.size,3,3⟩ 1 ([s1,s2,s3].map λt=> [.slice t.a t.n t.c]):=by
   refine ⟨rfl,by simp,λi r hi j v hj=> ?_⟩;show ld _ (ae (bu w5.heap.size) _)=_;rw [bW,jx.ld];rcases i with _|_|_|i<;>simp at hi
   all_goals subst hi
   all_goals rcases j with _|j<;>simp at hj
   all_goals subst hj;rfl
  refine (Ag _ [s1,s2,s3] [BU c 0 (min (max a 0) (c.length:Int)),List.replicate (min (max b 0) (c.length:Int)-min (max a 0) (c.length:Int)).toNat x,BU c (min (max b 0) (c.length:Int)) c.length] _ eZ rfl ?_ cy ?_).mono ?_
  ·intro i t d ht hd;rcases i with _|_|_|i<;>simp at ht hd
   ·subst ht;subst hd;exact (((o1.ext x4).ext x5).ext x6).rd aa
   ·subst ht;subst hd;exact ((o2.ext x5).ext x6).rd aa
   ·subst ht;subst hd;exact (o3.ext x6).rd aa
  ·have e:=congrArg List.length (CY c a b x aa);rw [OH] at e;simp only [CE,List.flatten_nil,F9,eK] at e ⊢;unfold Bd;omega
  ·rintro e w7 ⟨s',rfl,ho,x7⟩;have xx:=(((bT.tr x3).tr x4).tr x5).tr x6;refine ⟨s',rfl,s',rfl,?_,xx.tr x7⟩;rw [if_pos hm,CY c a b x aa];have ho:=ak.low ho xx.size;simpa using ho
def rB(c:List Int)(i x:Int):List Int:=if aY x=true/\0<=i/\i<(c.length:Int) then c.set i.toNat x else c
def B0(s:Sl)(c:List Int)(i x:Int)(w:World)(hs:ei w s (cK c))(hn:Bd c.length)(hi:inI i):
  ah 150 #[s,i,x] w λe w'=>∃s':Sl,e=s'/\lS w w' s' (cK (rB c i x))/\Ext w w':=by
 have hl:Bd (cK c).length:=fy (j1 c) hn;have hp:∀r ∈ cK c,0<=r.1:=λr hr=>by have:=iH hr;omega
 have AX:ba (cK c)<=1099511627776:=by rw [iu];unfold Bd at hn;omega
 have hi':=hi;have hn':=hn;unfold Bd at hn';unfold inI at hi';apply Q4.vc;apply Br.mk<;>intro h<;>simp at h
 ·refine (jU s _ w hs hl).mono ?_;rintro e w3 ⟨s',rfl,ho,x3⟩;refine ⟨s',rfl,s',rfl,?_,x3⟩;unfold rB;rw [if_neg aa];exact ho
 ·refine (mG s _ w hs hl hp AX).mono ?_;rintro e w1 ⟨rfl,x1⟩;rw [iu];refine ⟨_,rfl,Br.mk (λh2=> ?_) (λh2=> ?_)⟩<;>simp at h2
  ·refine (jU s _ w1 (hs.ext x1) hl).mono ?_;rintro e w3 ⟨s',rfl,ho,x3⟩;refine ⟨s',rfl,s',rfl,?_,x1.tr x3⟩;unfold rB;rw [if_neg aa];exact ak.low ho x1.size
  ·have hw:=az (n:=i+1) (by unfold inI;omega);rw [hw];refine (AK s c i (i+1) x w1 (hs.ext x1) hn hi (by unfold inI;omega)).mono ?_;rintro e w3 ⟨s',rfl,ho,x3⟩;refine ⟨s',rfl,s',rfl,?_,x1.tr x3⟩;unfold rB;have:=ak.low ho x1.size;rw [OI c i x h h2] at this
   cases hm:aY x
   ·rw [hm] at this;rw [if_neg cy];exact this
   ·rw [hm] at this;rw [if_pos ⟨rfl,h,h2⟩];exact this
def Tk(a b:Int):ai (ai a-b)=ai (a-b):=by unfold IntKind.wrap;simp only [IntKind.bits,IntKind.signed,qO];split<;>split<;>split<;>simp_all<;>omega
def ES(s:Sl)(l:List Rn)(i:Int)(w:World)(hs:ei w s l)(hn:Bd l.length)(hl:∀r ∈ l,0<=r.1)(AX:ba l<=1099511627776)(hi:inI i):
  ah 130 #[s,i] w λe w'=>e=Value.int .i64 (NV (aW l) i)/\Ext w w':=by
 have j6:=ei.len hs;unfold Bd at hn;apply VD.vc;refine ⟨λn x y wr=>∃k:Nat,x=k/\k+n=l.length/\Ext w wr/\y=ai (i-ba (l.take k))/\(i<0\/ba (l.take k)<=i),⟨l.length,0,rfl,by omega,Ext.ck w,?_,?_⟩,?_⟩
 ·rw [show ba (l.take 0)=0 from rfl,Int.sub_zero,az hi]
 ·rw [show ba (l.take 0)=0 from rfl];omega
 rintro n us x y wr ⟨k,rfl,hk,xr,rfl,my⟩;have hw:=az (n:=(k:Int)+1) (by unfold inI;omega);unfold inI at hi;have hc:∀k,((aW (l.take k)).length:Int)=ba (l.take k):=λk=>(dq λq hq=>hl q (kh hq)).symm
 apply Br.mk<;>intro h<;>simp at h
 ·obtain ⟨r,hr⟩:=bh (l:=l) (i:=k) aa;have e:=gG hr;have hr0:=hl r (bc hr);have b1:=fg hl k;have b2:=fg hl (k+1);refine ⟨ei.fN hs aa,_,_,ei.ll (hs.ext xr) hr,?_⟩;rintro w9 rfl bL rfl;have br:=((xr.tr (Ext.al _ (.cells #[af,af] eW))).setRow xr.size #[r.1,r.2]);have hwi:=Sj (i-ba (l.take k));unfold inI at hwi;have Xo:i<0->(0<=ai (i-ba (l.take k))->ai (i-ba (l.take k))<r.1->False):=by intro h0 h1 h2;revert h1 h2;unfold IntKind.wrap;simp only [IntKind.bits,IntKind.signed,qO];split<;>simp_all<;>omega
  have LB:0<=i->ba (l.take k)<=i->ai (i-ba (l.take k))=i-ba (l.take k):=λ_ _=>wI
  have nx:(i<0\/ba (l.take (k+1))<=i)->∃n6,n6<n/\∃k_1:Nat,ai ((k:Int)+1)=k_1/\k_1+n6=l.length/\Ext w ((wr.alloc (.cells #[af,af] eW)).setRow wr.heap.size #[r.1,r.2])/\
    ai (ai (i-ba (l.take k))-r.1)=ai (i-ba (l.take k_1))/\(i<0\/ba (l.take k_1)<=i):=
   λhh=>⟨n-1,by omega,k+1,by omega,by omega,br,by rw [Tk,e,Int.sub_sub],hh⟩
  refine Br.mk (λh1=>Br.mk (λh2=> ?_) (λh2=> ?_)) (λh1=> ?_)<;>simp only [bB,bQ] at*
  ·rcases ox i 0 with h0|h0
   ·exact (Xo h0 h1 h2).elim
   ·have hle:ba (l.take k)<=i:=by omega
    have:=LB h0 hle;have ht:l=l.take k++ [r]++l.drop (k+1):=by have:=kf (k+1) l;rw [cu,hr] at this;exact this.symm
    refine ⟨?_,br⟩;have hcell:aW l=aW (l.take k)++List.replicate r.1.toNat r.2++aW (l.drop (k+1)):=by rw [<-gL r,<-fk,<-fk,<-ht]
    rw [hcell,Zp _ _ _ _ _ (by rw [hc];exact hle) (by rw [hc];omega)]
  ·refine nx ?_;rcases ox i 0 with h0|h0
   ·exact .inl h0
   ·have:=LB h0 aa;right;omega
  ·refine nx ?_;rcases ox i 0 with h0|h0
   ·exact .inl h0
   ·have:=LB h0 aa;omega
 ·obtain rfl:k=l.length:=by omega
  refine ⟨?_,xr⟩;have:=hc l.length;rw [kg] at this my;rw [VU _ _ aa]
def Dc(may:Int->Bool)(prev:Option Int)(left:Int)(r:Rn)(t:List Rn):lZ may prev left (r::t)=if r.1<1\/r.1>left\/may r.2=false\/prev=some r.2 then false else lZ may (some r.2) (left-r.1) t:=rfl
def q6(s:Sl)(l:List Rn)(m:Int)(w:World)(hs:ei w s l)(hn:Bd l.length)(hm:inI m):
  ah 161 #[s,m] w λe w'=>e=Value.bool (jv aY l m)/\Ext w w':=by
 have j6:=ei.len hs;unfold Bd at hn;unfold inI at hm;apply Q6.vc;have hprev:∀k,k<l.length->(l.take k).getLast? =if k=0 then none else l[k-1]? :=by
  intro k hk;rw [List.getLast?_eq_getElem?,mT,bG,Nat.min_eq_left aa];rcases sJ k with rfl|h0
  ·simp
  ·rw [if_pos aa,if_neg aa]
 refine ⟨λn x y wr=>∃k:Nat,x=k/\k+n=l.length/\Ext w wr/\y<=max m 0/\(min m 0<=y)/\lZ aY ((l.take k).getLast?.map (·.2)) y (l.drop k)=lZ aY none m l,⟨l.length,0,rfl,by omega,Ext.ck w,by omega,by omega,rfl⟩,?_⟩;rintro n us x y wr ⟨k,rfl,hk,xr,hy,hy0,heq⟩;have hw:=az (n:=(k:Int)+1) (by unfold inI;omega);apply Br.mk<;>intro h<;>simp at h
 ·obtain ⟨r,hr⟩:=bh (l:=l) (i:=k) aa;have hd:l.drop k=r::l.drop (k+1):=by
   rw [kT aa];rw [cr aa] at hr
   cases hr;rfl
  rw [hd] at heq;rw [Dc] at heq;refine ⟨ei.fN hs aa,_,_,ei.ll (hs.ext xr) hr,?_⟩;rintro w9 rfl bL rfl;have br:=((xr.tr (Ext.al _ (.cells #[af,af] eW))).setRow xr.size #[r.1,r.2]).drew;have fin:∀w',Ext w w'->(r.1<1\/r.1>y\/aY r.2=false\/(l.take k).getLast?.map (·.2)=some r.2)->Ending.returned (.bool false)=Value.bool (jv aY l m)/\Ext w w':=by intro w' x' hh;rw [if_pos hh] at heq;refine ⟨?_,x'⟩;unfold jv;rw [<-heq];simp
  refine Br.mk (λh1=> ?_) (λh1=>Br.mk (λh2=> ?_) (λh2=> ?_))<;>simp only [bB,bQ] at*
  ·exact fin _ br (.inl h1)
  ·exact fin _ br (.inr (.inl h2))
  ·refine (gK r.2 _).mono ?_;rintro e w3 ⟨rfl,x3⟩;have x4:=br.tr x3;have jx:Row ((wr.alloc (.cells #[af,af] eW)).setRow wr.heap.size #[r.1,r.2]).drew wr.heap.size [r.1,r.2] eW:=(Row.new wr [af,af] eW).set [r.1,r.2];have hrow3:=jx.ext x3;have hkeep:=x3.heap jx.lt;have M6:av w3 (bu wr.heap.size) 0 [r.1]:=by
    refine hrow3.bk (o:=0) λj hj=> ?_
    have:j=0:=by simpa using hj
    subst this;rfl
   have nx:((l.take k).getLast?.map (·.2)≠some r.2)->aY r.2=true->∃n6,n6<n/\∃k_1:Nat,ai ((k:Int)+1)=k_1/\k_1+n6=l.length/\Ext w w3/\ai (y-r.1)<=max m 0/\min m 0<=ai (y-r.1)/\lZ aY ((l.take k_1).getLast?.map (·.2)) (ai (y-r.1)) (l.drop k_1)=lZ aY none m l:=by
    intro dI hbm;have hwy:=az (n:=y-r.1) (by unfold inI;omega);refine ⟨n-1,by omega,k+1,by omega,by omega,x4,by omega,by omega,?_⟩;rw [hwy];rw [if_neg (by
     rintro (h|h|h|h)
     ·omega
     ·omega
     ·rw [hbm] at h;cases h
     ·exact dI h)] at heq
    rw [<-heq,cu,hr];simp
   refine ⟨_,rfl,hkeep,M6,M6,Br.mk (λh3=> ?_) (λh3=> ?_)⟩
   ·exact fin _ x4 (.inr (.inr (.inl (by simpa using h3))))
   ·have hbm:aY r.2=true:=by simpa using h3
    apply Br.mk<;>intro h4<;>simp at h4
    ·have Bp:=az (n:=(k:Int)-1) (by unfold inI;omega);rw [Bp];obtain ⟨q,hq⟩:=bh (l:=l) (i:=k-1) aa;have cV:=ei.fN hs (i:=k-1) aa;rw [show ((k-1:Nat):Int)=(k:Int)-1 from by omega] at cV;have hcq:=ei.c1 (hs.ext x4) hq;have q7:=ei.some hs (i:=k-1) aa;rw [show ((k:Int)-1).toNat=k-1 from by omega];have hlast:=hprev k aa;rw [if_neg aa,hq] at hlast;refine ⟨cV,dS.2 ⟨q7,_,hcq,Br.mk (λh5=> ?_) (λh5=> ?_)⟩⟩
     ·exact fin _ x4 (.inr (.inr (.inr (by rw [hlast];simpa using h5))))
     ·exact nx (by rw [hlast];simpa using h5) hbm
    ·refine nx ?_ hbm;have:k=0:=by omega
     subst this;simp
 ·obtain rfl:k=l.length:=by omega
  rw [List.drop_length] at heq;apply Br.mk<;>intro h1<;>simp at h1
  ·refine ⟨?_,xr⟩;unfold jv;rw [<-heq,decide_eq_true h1];rfl
  ·refine ⟨?_,xr⟩;unfold jv;rw [decide_eq_false aa];rfl
end Go.Proofs.YtalpkjfpmdpbiaaGreatDoor
namespace Go.Proofs.YtalpkjfpmdpbiaaGreatDoor
open Go Go.Vc Go.RowKit Go.Proofs Go.bf
def uS(s:Sl)(l:List Rn)(w:World)(hs:ei w s l)(hn:Bd l.length)(hl:∀r ∈ l,0<=r.1)(AX:ba l<=1099511627776):
  ah 224 #[s] w λe w'=>∃s':Sl,e=s'/\UG w w' s' (aW l)/\Ext w w':=by
 have j6:=ei.len hs;unfold Bd at hn;apply Gh.vc;refine ⟨λn x o wr=>∃k:Nat,x=k/\k+n=l.length/\Ext w wr/\UG w wr o (aW (l.take k)),⟨l.length,0,rfl,by omega,Ext.ck w,ak.nil⟩,?_⟩;rintro n us x o wr ⟨k,rfl,hk,xr,ho⟩;have hw:=az (n:=(k:Int)+1) (by unfold inI;omega);apply Br.mk<;>intro h<;>simp at h
 ·obtain ⟨r,hr⟩:=bh (l:=l) (i:=k) aa;have hr0:=hl r (bc hr);have b2:=fg hl (k+1);have b3:ba (l.take (k+1))=_:=dq λq hq=>hl q (kh hq)
  rw [iG hr,eK,sU] at b3;refine ⟨λn x o wr=>∃j:Nat,x=j/\j+n=r.1.toNat/\Ext w wr/\UG w wr o (aW (l.take k)++List.replicate j r.2),⟨r.1.toNat,0,rfl,by omega,xr,by simpa using ho⟩,?_⟩;rintro n2 oX x2 o2 w2 ⟨j,rfl,hj,x2,Fy⟩;have yd:=az (n:=(j:Int)+1) (by unfold inI;omega);have cV:=ei.fN hs (i:=k) aa;have q7:=ei.some hs (i:=k) aa;have Bm:=xk.len Fy.UH;rw [eK,sU] at Bm;refine ⟨cV,dS.2 ⟨q7,_,ei.c0 (hs.ext x2) hr,Br.mk (λh2=> ?_) (λh2=> ?_)⟩⟩<;>simp only [bB,bQ] at h2
  ·refine ⟨cV,dS.2 ⟨q7,_,ei.c1 (hs.ext x2) hr,?_⟩⟩;rintro dy rfl;obtain ⟨hp,aS⟩:=ak.kD Fy (bytes:=8) (news:=iv r.2) (.cells #[r.2] qC) x2.size rfl (lG _ _) aa aa;refine ⟨hp,λgZ dJ hr'=> ?_⟩;obtain ⟨k1,ho',_,xb,_,_⟩:=aS gZ dJ hr';refine ⟨k1,n2-1,by omega,j+1,by omega,by omega,x2.trans xb,?_⟩;show ak _ _ 1 _ _ ((aW (l.take k)++List.replicate (j+1) r.2).map iv);rw [List.replicate_succ',<-mU,aT];exact ho'
  ·have:j=r.1.toNat:=by omega
   subst this;exact ⟨n-1,by omega,k+1,by omega,by omega,x2,by rw [iG hr];exact Fy⟩
 ·obtain rfl:k=l.length:=by omega
  rw [kg] at ho;exact ⟨o,rfl,ho,xr⟩
def qR{c:List Int}{k:Nat}{b:Int}(hb:c[k]? =some b):cK (c.take (k+1))=gk (cK (c.take k)) (1,b):=by rw [cu,hb,sV];rfl
def QV{c:List Int}{b:Int}:∃m q,cK (c++ [b])=m++ [q]/\q.2=b:=by
 have e:cK (c++ [b])=gk (cK c) (1,b):=by rw [sV];rfl
 rw [e];rcases nK (cK c) with h|⟨m,q,h⟩
 ·rw [h,eA (l:=[]) (r:=(1,b)) (by show (1:Int)<=1;omega) cy];exact ⟨[],(1,b),rfl,rfl⟩
 ·rw [h];by_cases e:q.2=b
  ·rw [fZ (r:=(1,b)) (by show (1:Int)<=1;omega) e];exact ⟨m,_,rfl,e⟩
  ·rw [eA (r:=(1,b)) (by show (1:Int)<=1;omega) (by intro p hp;simp at hp;subst hp;exact e)];exact ⟨m++ [q],(1,b),rfl,rfl⟩
def mB(s:Sl)(c:List Int)(w:World)(hs:xk w s c)(hn:Bd c.length):
  ah 176 #[s] w λe w'=>∃s':Sl,e=s'/\lS w w' s' (cK c)/\Ext w w':=by
 have j6:=xk.len hs;unfold Bd at hn;apply QW.vc;refine ⟨λn x o wr=>∃k:Nat,x=k/\k+n=c.length/\Ext w wr/\lS w wr o (cK (c.take k)),⟨c.length,0,rfl,by omega,Ext.ck w,ak.nil⟩,?_⟩;rintro n us x o wr ⟨k,rfl,hk,xr,ho⟩;have hw:=az (n:=(k:Int)+1) (by unfold inI;omega);have xd:=xr.drew;have hod:=ak.ext ho (Ext.dr wr);have Bm:=ei.len ho.rA;have xN:=j1 (c.take k);rw [bG] at xN;apply Br.mk<;>intro h<;>simp at h
 ·obtain ⟨b,hb⟩:=bh (l:=c) (i:=k) aa;have cV:=xk.fN hs (i:=k) aa;have TE:=xk.c0 (hs.ext xd) hb;have grow:(∀q,(cK (c.take k)).getLast? =some q->q.2≠b)->∀bR:World,bR=wr.drew.alloc (.cells #[(1:Int),b] eW)->
    aF 16 2 bR ⟨o.a,o.n,o.c⟩ 1 [(1:Int),b]/\∀(gf:Sl)(cm:World),aD eW 2 bR ⟨o.a,o.n,o.c⟩ 1 [(1:Int),b] gf cm->cm.heap[wr.drew.heap.size]? =bR.heap[wr.drew.heap.size]?/\
    ∃n6,n6<n/\∃k_1:Nat,ai ((k:Int)+1)=k_1/\k_1+n6=c.length/\Ext w cm/\lS w cm ⟨gf.a,gf.n,gf.c⟩ (cK (c.take k_1)):=by
   rintro dI bR rfl;obtain ⟨hp,aS⟩:=ak.kD hod (bytes:=16) (news:=rv (1,b)) (.cells #[(1:Int),b] eW) xd.size rfl (nI _ _ _ _) aa aa;refine ⟨hp,λgZ dJ hr'=> ?_⟩;obtain ⟨k1,ho',_,xb,_,_⟩:=aS gZ dJ hr';refine ⟨k1,n-1,by omega,k+1,by omega,by omega,xd.trans xb,?_⟩;rw [qR hb,eA (r:=(1,b)) (by show (1:Int)<=1;omega) dI];show ak _ _ 2 _ _ ((cK (c.take k)++ [(1,b)]).map rv);rw [aT];exact ho'
  apply Br.mk<;>intro h1<;>simp at h1
  ·obtain ⟨a,ha⟩:=bh (l:=c) (i:=k-1) aa;have Bp:=az (n:=(k:Int)-1) (by unfold inI;omega);rw [Bp];have hin2:=xk.fN hs (i:=k-1) aa;rw [show ((k-1:Nat):Int)=(k:Int)-1 from by omega] at hin2;have hca:=xk.c0 (hs.ext xd) ha;have LA:c.take k=c.take (k-1)++ [a]:=by
    have:k=k-1+1:=by omega
    rw [this,cu,Nat.add_sub_cancel,ha];rfl
   obtain ⟨m,q,XZ,hqa⟩:=QV (c:=c.take (k-1)) (b:=a);rw [<-LA] at XZ;refine ⟨hin2,a,by rw [show ((k:Int)-1).toNat=k-1 from by omega];exact hca,cV,b,TE,Br.mk (λh2=> ?_) (λh2=> ?_)⟩
   ·simp at h2;have TD:o.n=m.length+1:=by rw [Bm,XZ];simp
    have hwo:=az (n:=((o.n:Nat):Int)-1) (by unfold inI;omega);rw [hwo];have aac:(((o.n:Nat):Int)-1).toNat=m.length:=by omega
    have hgq:(cK (c.take k))[m.length]? =some q:=by rw [XZ];simp
    have hin3:=ei.fN ho.rA (i:=m.length) (by rw [XZ];simp);rw [show ((m.length:Nat):Int)=((o.n:Nat):Int)-1 from by omega] at hin3;have q7:=ei.some ho.rA (i:=m.length) (by rw [XZ];simp);rw [aac];have hqm:=iH (bc hgq);rw [bG] at hqm;have hwq:=az (n:=q.1+1) (by unfold inI;omega);obtain ⟨q1,q2,q3,q4,q5⟩:=ak.set hod (i:=m.length) (j:=0) (r:=rv q) (v:=.int .i64 (q.1+1)) (by rw [aX,hgq];rfl) aa rfl xd.size;refine ⟨hin3,dS.2 ⟨q7,_,ei.c0 (lS.rA hod) hgq,hin3,dS.2 ⟨q7,⟨q1,q2⟩,?_⟩⟩⟩;rintro bL rfl;rw [hwq];refine ⟨n-1,by omega,k+1,by omega,by omega,xd.trans q4,?_⟩;rw [qR hb,XZ,fZ (r:=(1,b)) (by show (1:Int)<=1;omega) (hqa.trans h2)];show ak _ _ 2 _ _ ((m++ [(q.1+1,q.2)]).map rv);have e:((m++ [q]).map rv).set m.length ((rv q).set 0 (.int .i64 (q.1+1)))=(m++ [(q.1+1,q.2)]).map rv:=by rw [aT,aT,List.set_append_right _ _ cy];simp
    rw [<-e,<-XZ];exact q3
   ·refine ⟨cV,b,TE,grow ?_⟩;intro p hp;rw [XZ] at hp;simp at hp;subst hp;rw [hqa];simpa using h2
  ·refine ⟨cV,b,TE,grow ?_⟩;have:k=0:=by omega
   subst this;intro p hp;simp [cK] at hp
 ·obtain rfl:k=c.length:=by omega
  rw [kg] at ho;exact ⟨o,rfl,ho,xr⟩
def zq(s:Sl)(c:List Int)(i x:Int)(w:World)(hs:ei w s (cK c))(hn:Bd c.length):
  Calls Tryz.prog 189 #[.slice s.a s.n s.c,.int .i64 i,.int .i64 x] w λe w'=>∃s':Sl,e=.returned (.slice s'.a s'.n s'.c)/\lS w.heap.size w' s' (cK (rB c i x))/\Ext w w':=by
 have hl:Bd (cK c).length:=Nat.le_trans (j1 c) hn;apply Ny.vc;refine (uS s _ w hs hl (λr hr=>by have:=iH hr;omega) (by rw [iu];unfold Bd at hn;omega)).mono ?_;rintro e w1 ⟨s1,rfl,o1,x1⟩;rw [iX] at o1;have hn1:=xk.len o1.UH;refine ⟨s1,rfl,(gE x w1).mono ?_⟩;rintro e w2 ⟨rfl,rfl⟩;have same:rB c i x=c->Calls Tryz.prog 176 #[.slice s1.a s1.n s1.c] w2 (λe w7=>∃(s8:Sl),e=.returned (.slice s8.a s8.n s8.c)/\∃s':Sl,Ending.returned (.slice s8.a s8.n s8.c)=.returned (.slice s'.a s'.n s'.c)/\lS w.heap.size w7 s' (cK (rB c i x))/\Ext w w7):=by intro e;refine (mB s1 c w2 o1.UH hn).mono ?_;rintro _ w3 ⟨s',rfl,ho,x3⟩;exact ⟨s',rfl,s',rfl,by rw [e];exact ak.low ho x1.size,x1.tr x3⟩
 refine ⟨_,rfl,Br.mk (λh1=>Br.mk (λh2=>Br.mk (λh3=> ?_) (λh3=> ?_)) (λh2=> ?_)) (λh1=> ?_)⟩<;>try simp only [decide_eq_true_eq,decide_eq_false_iff_not] at*
 ·obtain ⟨b,hb⟩:=bh (l:=c) (i:=i.toNat) (by omega);have cV:=xk.fN o1.UH (i:=i.toNat) (by omega);rw [show ((i.toNat:Nat):Int)=i from by omega] at cV;obtain ⟨q1,q2,q3,q4,q5⟩:=ak.set o1 (i:=i.toNat) (j:=0) (r:=iv b) (v:=.int .i64 x) (by rw [List.getElem?_map,hb];rfl) (by omega) rfl x1.size;have e0:ae (ae s1.a (i.toNat*1)) 0=ae s1.a (i.toNat*1):=by rw [eF];rfl
  rw [e0] at q1 q2 q3 q4 q5;refine ⟨cV,⟨q1,q2⟩,?_⟩;rintro w4 rfl;have e1:(c.map iv).set i.toNat ((iv b).set 0 (.int .i64 x))=(c.set i.toNat x).map iv:=by rw [List.map_set];rfl
  rw [e1] at q3;have q3':UG w.heap.size _ s1 (c.set i.toNat x):=q3;refine (mB s1 _ _ q3'.UH (by simpa using hn)).mono ?_;rintro _ w5 ⟨s',rfl,ho,x5⟩;have hx:Ext w (aZ w2 (ae s1.a (i.toNat*1)) [.int .i64 x]):=x1.trans q4;refine ⟨s',rfl,s',rfl,?_,hx.tr x5⟩;unfold rB;rw [if_pos ⟨h1,h2,by omega⟩];exact ak.low ho hx.size
 ·exact same (by unfold rB;rw [if_neg (by omega)])
 ·exact same (by unfold rB;rw [if_neg (by omega)])
 ·exact same (by unfold rB;rw [if_neg (by rw [h1];simp)])
end Go.Proofs.YtalpkjfpmdpbiaaGreatDoor
namespace Go.Proofs.YtalpkjfpmdpbiaaGreatDoor
open Go Go.Vc Go.RowKit Go.Proofs Go.bf
def AJ(s:Sl)(l:List Rn)(m:Int)(w:World)(hs:ei w s l)(hn:Bd l.length)(hm:inI m):
  ah 166 #[s,m] w λe w'=>e=Value.bool (jv aY l m)/\Ext w w':=by
 have j6:=ei.len hs;unfold Bd at hn;unfold inI at hm;apply NO.vc;refine ⟨λn x y wr=>∃k:Nat,x=k/\k+n=l.length/\Ext w wr/\y<=max m 0/\(min m 0<=y)/\lZ aY ((l.take k).getLast?.map (·.2)) y (l.drop k)=lZ aY none m l,⟨l.length,0,rfl,by omega,Ext.ck w,by omega,by omega,rfl⟩,?_⟩;rintro n us x y wr ⟨k,rfl,hk,xr,hy,hy0,heq⟩;have hw:=az (n:=(k:Int)+1) (by unfold inI;omega);apply Br.mk<;>intro h<;>simp at h
 ·obtain ⟨r,hr⟩:=bh (l:=l) (i:=k) aa;have hd:l.drop k=r::l.drop (k+1):=by
   rw [kT aa];rw [cr aa] at hr
   cases hr;rfl
  rw [hd,Dc] at heq;have cV:=ei.fN hs (i:=k) aa;have q7:=ei.some hs (i:=k) aa;have xd:=xr.drew;have fin:∀w',Ext w w'->(r.1<1\/r.1>y\/aY r.2=false\/(l.take k).getLast?.map (·.2)=some r.2)->Ending.returned (.bool false)=Value.bool (jv aY l m)/\Ext w w':=by intro w' x' hh;rw [if_pos hh] at heq;refine ⟨?_,x'⟩;unfold jv;rw [<-heq];simp
  refine ⟨cV,dS.2 ⟨q7,_,ei.c1 (hs.ext xr) hr,(gE r.2 wr).mono ?_⟩⟩;rintro e w3 ⟨rfl,rfl⟩;refine ⟨_,rfl,Br.mk (λh0=> ?_) (λh0=> ?_)⟩
  ·exact fin _ xr (.inr (.inr (.inl (by simpa using h0))))
  have hbm:aY r.2=true:=by simpa using h0
  refine ⟨cV,dS.2 ⟨q7,_,ei.c0 (hs.ext xr) hr,Br.mk (λh1=> ?_) (λh1=>⟨cV,dS.2 ⟨q7,_,ei.c0 (hs.ext xr) hr,Br.mk (λh2=> ?_) (λh2=> ?_)⟩⟩)⟩⟩<;>simp only [bB,bQ] at*
  ·exact fin _ xr (.inl h1)
  ·exact fin _ xr (.inr (.inl h2))
  ·have nx:((l.take k).getLast?.map (·.2)≠some r.2)->∃n6,n6<n/\∃k_1:Nat,ai ((k:Int)+1)=k_1/\k_1+n6=l.length/\Ext w w3.drew/\ai (y-r.1)<=max m 0/\min m 0<=ai (y-r.1)/\lZ aY ((l.take k_1).getLast?.map (·.2)) (ai (y-r.1)) (l.drop k_1)=lZ aY none m l:=by
    intro dI;have hwy:=az (n:=y-r.1) (by unfold inI;omega);refine ⟨n-1,by omega,k+1,by omega,by omega,xd,by omega,by omega,?_⟩;rw [hwy];rw [if_neg (by
     rintro (h|h|h|h)
     ·omega
     ·omega
     ·rw [hbm] at h;cases h
     ·exact dI h)] at heq
    rw [<-heq,cu,hr];simp
   apply Br.mk<;>intro h4<;>simp only [bB,bQ] at h4
   ·have Bp:=az (n:=(k:Int)-1) (by unfold inI;omega);rw [Bp];obtain ⟨q,hq⟩:=bh (l:=l) (i:=k-1) aa;have hin2:=ei.fN hs (i:=k-1) aa;rw [show ((k-1:Nat):Int)=(k:Int)-1 from by omega] at hin2;have hcq:=ei.c1 (hs.ext xd) hq;have hsm2:=ei.some hs (i:=k-1) aa;rw [show ((k:Int)-1).toNat=k-1 from by omega];have hlast:(l.take k).getLast? =some q:=by rw [List.getLast?_eq_getElem?,mT,bG,Nat.min_eq_left aa,if_pos aa,hq]
    refine ⟨cV,dS.2 ⟨q7,_,ei.c1 (hs.ext xd) hr,hin2,dS.2 ⟨hsm2,_,hcq,Br.mk (λh5=> ?_) (λh5=>⟨cV,dS.2 ⟨q7,_,ei.c0 (hs.ext xd) hr,?_⟩⟩)⟩⟩⟩
    ·refine fin _ xd (.inr (.inr (.inr ?_)));rw [hlast];simp at h5;simp [h5]
    ·refine nx ?_;rw [hlast];simp at h5;intro e;exact h5 (Option.some.inj e).symm
   ·refine ⟨cV,dS.2 ⟨q7,_,ei.c0 (hs.ext xd) hr,nx ?_⟩⟩;have:k=0:=by omega
    subst this;simp
 ·obtain rfl:k=l.length:=by omega
  rw [List.drop_length] at heq;apply Br.mk<;>intro h1<;>simp at h1
  ·refine ⟨?_,xr⟩;unfold jv;rw [<-heq,h1];simp [lZ]
  ·refine ⟨?_,xr⟩;unfold jv;rw [<-heq];simp [lZ,h1]
end Go.Proofs.YtalpkjfpmdpbiaaGreatDoor
namespace Go.Proofs.YtalpkjfpmdpbiaaGreatDoor
open Go Go.Vc Go.RowKit Go.Proofs Go.bf
def Rh{l:List Rn}{k:Nat}{r:Rn}(hr:l[k]? =some r){j:Nat}(hj:j<r.1.toNat):(aW l)[(aW (l.take k)).length+j]? =some r.2:=by
 have e:l=l.take k++r::l.drop (k+1):=by have:=kf k l;rw [kT (bF.1 hr).1] at this;rw [<-(bF.1 hr).2];exact this.symm
 have e2:aW l=aW (l.take k)++(List.replicate r.1.toNat r.2++aW (l.drop (k+1))):=by
  conv=>lhs;rw [e]
  rw [fk];simp [aW]
 rw [e2,mS aa,Nat.add_sub_cancel_left,kP (by rw [sU];exact hj),Mt,if_pos hj]
end Go.Proofs.YtalpkjfpmdpbiaaGreatDoor
namespace Go.Proofs.YtalpkjfpmdpbiaaGreatDoor
open Go Go.Vc Go.RowKit Go.Proofs Go.bf
end Go.Proofs.YtalpkjfpmdpbiaaGreatDoor
