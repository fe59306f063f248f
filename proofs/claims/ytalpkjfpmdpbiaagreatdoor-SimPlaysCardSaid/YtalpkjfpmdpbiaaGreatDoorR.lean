import Derived.Test.YtalpkjfpmdpbiaaGreatDoorC
import Derived.Test.YtalpkjfpmdpbiaaGreatDoorP
import Derived.Test.YtalpkjfpmdpbiaaGreatDoorLib
set_option linter.all false
namespace Go.Proofs.YtalpkjfpmdpbiaaGreatDoor
open Go Go.Vc Go.RowKit Go.Proofs Go.bh
abbrev fb:TypeId:=166
abbrev qT:TypeId:=3
abbrev rv(r:Rn):LV:=[.int .i64 r.1,.int .i64 r.2]
abbrev iv(b:Int):LV:=[.int .i64 b]
abbrev ep(w:World)(s:Sl)(l:List Rn):Prop:=RdK w s 2 (l.map rv)
abbrev xI(w:World)(s:Sl)(c:List Int):Prop:=RdK w s 1 (c.map iv)
abbrev lS(B:Nat)(w:World)(s:Sl)(l:List Rn):Prop:=aj B fb 2 w s (l.map rv)
abbrev Vk(B:Nat)(w:World)(s:Sl)(c:List Int):Prop:=aj B qT 1 w s (c.map iv)
def lS.rS{B:Nat}{w:World}{s:Sl}{l:List Rn}(h:lS B w s l):ep w s l:=aj.rd h aa
def Vk.Vl{B:Nat}{w:World}{s:Sl}{c:List Int}(h:Vk B w s c):xI w s c:=aj.rd h aa
def ep.len{w:World}{s:Sl}{l:List Rn}(h:ep w s l):s.n=l.length:=by have:=h.n;simpa using this
def xI.len{w:World}{s:Sl}{c:List Int}(h:xI w s c):s.n=c.length:=by have:=h.n;simpa using this
def ep.get{w:World}{s:Sl}{l:List Rn}(_:ep w s l){i:Nat}{r:Rn}(hi:l[i]? =some r):(l.map rv)[i]? =some (rv r):=by rw [aV,hi];rfl
def ep.c0{w:World}{s:Sl}{l:List Rn}(h:ep w s l){i:Nat}{r:Rn}(hi:l[i]? =some r):ld w (ae (ae s.a (i*2)) 0)=some (.int .i64 r.1):=RdK.at h (ep.get h hi) (j:=0) rfl
def ep.c1{w:World}{s:Sl}{l:List Rn}(h:ep w s l){i:Nat}{r:Rn}(hi:l[i]? =some r):ld w (ae (ae s.a (i*2)) 1)=some (.int .i64 r.2):=RdK.at h (ep.get h hi) (j:=1) rfl
def ep.ll{w:World}{s:Sl}{l:List Rn}(h:ep w s l){i:Nat}{r:Rn}(hi:l[i]? =some r):au w (ae s.a (i*2)) 0 [r.1,r.2]:=RdK.aY h (ep.get h hi)
def xI.c0{w:World}{s:Sl}{l:List Int}(h:xI w s l){i:Nat}{b:Int}(hi:l[i]? =some b):ld w (ae s.a (i*1))=some (.int .i64 b):=by have:=h.rd i (iv b) (by rw [aV,hi];rfl) 0 _ rfl;simpa using this
def ep.fp{w:World}{s:Sl}{l:List Rn}(h:ep w s l){i:Nat}(hi:i<l.length):cA s.a (i:Int) s.n:=RdK.fp h aa aa (by have:=ep.len h;omega)
def xI.fp{w:World}{s:Sl}{l:List Int}(h:xI w s l){i:Nat}(hi:i<l.length):cA s.a (i:Int) s.n:=RdK.fp h aa aa (by have:=xI.len h;omega)
def ep.some{w:World}{s:Sl}{l:List Rn}(h:ep w s l){i:Nat}(hi:i<l.length):(ae s.a (i*2)).isSome=true:=by rw [ea];exact RdK.isSome h aa (i:=i) (by simpa using hi)
def aZ{α:Type}{l:List α}{i:Nat}(h:i<l.length):∃r,l[i]? =some r:=⟨_,cy h⟩
abbrev Bd(n:Nat):Prop:=n<=1099511627776
def mK(s:Sl)(l:List Rn)(w:World)(hs:ep w s l)(hb:Bd l.length)(hl:∀r ∈ l,0<=r.1)(Bk:bg l<=1099511627776):
  ah 191 #[s] w λe w'=>e=Value.int .i64 (bg l)/\Ext w w':=by
 have kf:=ep.len hs;apply R3.vc;refine ⟨λn x y wr=>∃k:Nat,x=k/\k+n=l.length/\Ext w wr/\y=bg (l.take k),⟨l.length,0,rfl,by omega,Ext.bX w,rfl⟩,?_⟩;rintro n us x y wr ⟨k,rfl,hk,xr,rfl⟩;have hw:=az (n:=(k:Int)+1) (by unfold inI;omega);apply Br.mk<;>intro h<;>simp at h
 ·obtain ⟨r,hr⟩:=aZ (l:=l) (i:=k) aa;refine ⟨ep.fp hs aa,_,_,ep.ll (hs.ext xr) hr,?_⟩;rintro w9 rfl bL rfl;have e:bg (l.take (k+1))=bg (l.take k)+r.1:=by rw [cm,hr];simp [bg]
  have h0:0<=bg (l.take k)/\0<=r.1/\bg (l.take (k+1))<=bg l:=by
   refine ⟨?_,hl r (bf hr),?_⟩
   ·rw [dz λq hq=>hl q (kq hq)];omega
   ·have:=H3 (l.take (k+1)) (l.drop (k+1));rw [jK] at this;have h2:0<=bg (l.drop (k+1)):=by rw [dz λq hq=>hl q (oE hq)];omega
    omega
  have yE:=az (n:=bg (l.take k)+r.1) (by unfold inI;omega);refine ⟨n-1,by omega,k+1,by omega,by omega,((xr.tr (Ext.al _ _)).setRow xr.size _),by rw [yE,e]⟩
 ·obtain rfl:k=l.length:=by omega
  rw [ko];exact ⟨rfl,xr⟩
end Go.Proofs.YtalpkjfpmdpbiaaGreatDoor
namespace Go.Proofs.YtalpkjfpmdpbiaaGreatDoor
open Go Go.Vc Go.RowKit Go.Proofs Go.bh
abbrev Z6(s:Sl)(w w':World):Prop:=∀j,s.bj≠some j->j<w.heap.size->w'.heap[j]? =w.heap[j]?
def Ar(B:Nat)(s:Sl)(l:List Rn)(r:Rn)(w:World)(hB:B<=w)(ho:lS B w s l)(hn:Bd l.length)(hl:∀q ∈ l,0<=q.1/\q.1<=1099511627776)(hr:r.1<=1099511627776):
  ah 210 #[s,.agg #[r.1,r.2]] w λe w'=>∃s':Sl,e=s'/\lS B w' s' (gu l r)/\Below B w w'/\Z6 s w w':=by
 have kf:=ep.len ho.rS;apply OA.vc;rintro w0 rfl;have xa:=Ext.al w (.cells #[r.1,r.2] fb);have xd:=xa.drew;have hz:(w.alloc (.cells #[r.1,r.2] fb)).drew.heap.size=w.heap.size+1:=by simp [World.drew]
 have hw:=az (n:=((s.n:Nat):Int)-1) (by unfold inI;omega);have grow:∀(_:1<=r.1)(_:∀q,l.getLast? =some q->q.2≠r.2),(∀w4:World,w4=(w.alloc (.cells #[r.1,r.2] fb)).drew.alloc (.cells #[r.1,r.2] fb)->
   aF 16 2 w4 ⟨s.a,s.n,s.c⟩ 1 [r.1,r.2]/\∀(s5:Sl)(w6:World),aE fb 2 w4 ⟨s.a,s.n,s.c⟩ 1 [r.1,r.2] s5 w6->w6.heap[w.heap.size]? =w4.heap[w.heap.size]?/\w6.heap[(w.alloc (.cells #[r.1,r.2] fb)).drew.heap.size]? =w4.heap[(w.alloc (.cells #[r.1,r.2] fb)).drew.heap.size]?/\
   ∃s':Sl,Ending.returned (.slice s5.a s5.n s5.c)=s'/\lS B w6 s' (gu l r)/\Below B w w6/\Z6 s w w6):=by
  rintro h1 h2 w4 rfl;obtain ⟨hp,aR⟩:=(aj.ext ho xd).kJ (bytes:=16) (news:=rv r) (.cells #[r.1,r.2] fb) (fA hB xd.size) rfl (nO _ _ _ _) aa aa;refine ⟨hp,λs5 w6 hr'=> ?_⟩;obtain ⟨k1,ho',hn',xb,hk,hb⟩:=aR s5 w6 hr';refine ⟨?_,k1,s5,rfl,?_,(Below.mono xd hB).trans xb,λj hj fH=> ?_⟩
  ·rw [hk _ (λhb=>absurd (ho.own.lt hb).2 (tA _)) aa];symm;exact (Ext.al _ _).heap aa
  ·rw [eD h1 h2];show aj B fb 2 w6 s5 ((l++ [r]).map rv);rw [aT];exact ho'
  ·rw [hk j hj aa];exact xd.heap fH
 apply Br.mk<;>intro h<;>simp at h
 ·exact ⟨s,rfl,by rw [jW h];exact aj.ext ho xa,Below.mono xa hB,λj _ hj=>xa.heap hj⟩
 rw [hw];refine Br.mk (λh'=> ?_) (λh'=> ?_)<;>simp at h'
 ·rcases nQ l with rfl|⟨m,q,rfl⟩
  ·simp at kf;omega
  rw [eP] at kf;simp at kf;have aaL:(((s.n:Nat):Int)-1).toNat=m.length:=by omega
  have hq:(m++ [q])[m.length]? =some q:=by simp
  have cX:cA s.a (((s.n:Nat):Int)-1) s.n:=by have:=ep.fp ho.rS (i:=m.length) cx;rwa [show ((m.length:Nat):Int)=((s.n:Nat):Int)-1 from by omega] at this
  have hsome:=ep.some ho.rS (i:=m.length) cx;rw [aaL];have r1:=RdK.ext ho.rS xd;have r2:=RdK.ext ho.rS xd.drew;refine ⟨cX,dW.2 ⟨hsome,_,ep.c1 r1 hq,Br.mk (λh2=> ?_) (λh2=> ?_)⟩⟩
  ·simp at h2;obtain ⟨q1,q2,q3,q4,q5⟩:=(aj.ext ho xd.drew).set (i:=m.length) (j:=0) (r:=rv q) (v:=.int .i64 (ai (q.1+r.1))) (by rw [aV,hq];rfl) aa rfl (fA hB xd.drew.size);refine ⟨cX,dW.2 ⟨hsome,_,ep.c0 r2 hq,cX,dW.2 ⟨hsome,⟨q1,q2⟩,?_,?_⟩⟩⟩
   ·intro hb;have:s.bj=some w.heap.size:=by rw [dj,dj] at hb;exact hb
    exact absurd (ho.own.lt this).2 (tA _)
   ·rintro w3 rfl;have hwq:=az (n:=q.1+r.1) (by have:=hl q cx;unfold inI;omega);rw [hwq] at q3 q4 q5 ⊢;refine ⟨s,rfl,?_,(Below.mono xd.drew hB).trans q4,λj hj fH=> ?_⟩
    ·rw [gi h h2];show aj B fb 2 _ s ((m++ [(q.1+r.1,q.2)]).map rv);have e:((m++ [q]).map rv).set m.length ((rv q).set 0 (.int .i64 (q.1+r.1)))=(m++ [(q.1+r.1,q.2)]).map rv:=by rw [aT,aT,List.set_append_right _ _ cx];simp
     rw [<-e];exact q3
    ·rw [q5 j hj];exact xd.drew.heap fH
  ·exact grow h (by intro p hp;simp at hp;subst hp;simpa using h2)
 ·have:l=[]:=by apply tu;omega
  subst this;exact grow h cx
def nY(B:Nat)(s:Sl)(c:List Int)(r:Rn)(w:World)(hB:B<=w)(ho:lS B w s (cM c))(hn:Bd c.length)(hr:r.1<=1099511627776):
  ah 210 #[s,.agg #[r.1,r.2]] w λe w'=>∃s':Sl,e=s'/\lS B w' s' (cM (c++List.replicate r.1.toNat r.2))/\Below B w w'/\Z6 s w w':=by
 rw [<-tF];refine Ar B s _ r w hB ho (by have:=j7 c;unfold Bd at*;omega) (λq hq=> ?_) hr;have:=iK hq;unfold Bd at hn;omega
def As(n b:Int)(w:World)(hn:n<=1099511627776):
  ah 228 #[n,b] w λe w'=>∃s':Sl,e=s'/\lS w w' s' (cM (List.replicate n.toNat b))/\Ext w w':=by
 apply OC.vc;refine (nY w ⟨none,0,0⟩ [] (n,b) w (ax _) aj.nil cx hn).mono ?_;rintro e w' ⟨s',rfl,ho,x,_⟩;exact ⟨s',rfl,s',rfl,by simpa using ho,x⟩
def Ej(s:Sl)(c:List Int)(w:World)(hs:xI w s c)(hn:Bd c.length):
  ah 164 #[s] w λe w'=>∃s':Sl,e=s'/\lS w w' s' (cM c)/\Ext w w':=by
 have kf:=xI.len hs;apply Wl.vc;refine ⟨λn x o wr=>∃k:Nat,x=k/\k+n=c.length/\Ext w wr/\lS w wr o (cM (c.take k)),⟨c.length,0,rfl,by omega,Ext.bX w,aj.nil⟩,?_⟩;rintro n us x o wr ⟨k,rfl,hk,xr,ho⟩;unfold Bd at hn;have hw:=az (n:=(k:Int)+1) (by unfold inI;omega);apply Br.mk<;>intro h<;>simp at h
 ·obtain ⟨b,hb⟩:=aZ (l:=c) (i:=k) aa;refine ⟨xI.fp hs aa,_,xI.c0 (hs.ext xr) hb,?_⟩;refine (nY w o _ (1,b) wr xr.size ho (by rw [bF];unfold Bd;omega) (by show (1:Int)<=_;omega)).mono ?_;rintro e w' ⟨s',rfl,ho',x',_⟩;refine ⟨s',rfl,n-1,by omega,k+1,by omega,by omega,xr.trans x',?_⟩;rw [cm,hb];exact ho'
 ·obtain rfl:k=c.length:=by omega
  rw [ko] at ho;exact ⟨o,rfl,ho,xr⟩
end Go.Proofs.YtalpkjfpmdpbiaaGreatDoor
namespace Go.Proofs.YtalpkjfpmdpbiaaGreatDoor
open Go Go.Vc Go.RowKit Go.Proofs Go.bh
def gR{l:List Rn}{k:Nat}{r:Rn}(hr:l[k]? =some r):bg (l.take (k+1))=bg (l.take k)+r.1:=by rw [cm,hr];simp [bg]
def Ni{l:List Rn}(hl:∀r ∈ l,0<=r.1):0<=bg l:=by rw [dz hl];omega
def fk{l:List Rn}(hl:∀r ∈ l,0<=r.1)(k:Nat):0<=bg (l.take k)/\bg (l.take k)<=bg l:=by
 refine ⟨Ni λq hq=>hl q (kq hq),?_⟩;have:=H3 (l.take k) (l.drop k);rw [jK] at this;have h2:=Ni (l:=l.drop k) λq hq=>hl q (oE hq)
 omega
def iJ{l:List Rn}{k:Nat}{r:Rn}(hr:l[k]? =some r):aX (l.take (k+1))=aX (l.take k)++List.replicate r.1.toNat r.2:=by rw [cm,hr,fm];exact congrArg _ (gY r)
def aab(c:List Int)(a b:Int):(Co c a b).length<=c.length:=by unfold Co;simp;omega
def ru(s:Sl)(l:List Rn)(a b:Int)(w:World)(hs:ep w s l)(hn:Bd l.length)(hl:∀r ∈ l,0<=r.1)(Bk:bg l<=1099511627776)(ha:0<=a)(hb:0<=b):
  ah 227 #[s,a,b] w λe w'=>∃s':Sl,e=s'/\lS w w' s' (cM (Co (aX l) a b))/\Ext w w':=by
 have kf:=ep.len hs;unfold Bd at hn;apply R4.vc;refine ⟨λn x y o wr=>∃k:Nat,x=k/\k+n=l.length/\Ext w wr/\y=bg (l.take k)/\lS w wr o (cM (Co (aX (l.take k)) a b)),⟨l.length,0,rfl,by omega,Ext.bX w,rfl,?_⟩,?_⟩
 ·have:Co (aX (l.take 0)) a b=[]:=by simp [Co,aX]
  rw [this];exact aj.nil
 rintro n us x y o wr ⟨k,rfl,hk,xr,rfl,ho⟩;have hw:=az (n:=(k:Int)+1) (by unfold inI;omega);apply Br.mk<;>intro h<;>simp at h
 ·obtain ⟨r,hr⟩:=aZ (l:=l) (i:=k) aa;have e:=gR hr;have hr0:=hl r (bf hr);have b1:=fk hl k;have b2:=fk hl (k+1);have yE:=az (n:=bg (l.take k)+r.1) (by unfold inI;omega);have hc:((aX (l.take k)).length:Int)=bg (l.take k):=(dz λq hq=>hl q (kq hq)).symm;have ae9:Co (aX (l.take (k+1))) a b=Co (aX (l.take k)) a b++List.replicate (min b (bg (l.take k)+r.1)-max a (bg (l.take k))).toNat r.2:=by rw [iJ hr,S1 _ _ _ _ _ ha hb];congr 2;omega
  refine ⟨ep.fp hs aa,_,_,ep.ll (hs.ext xr) hr,?_⟩;rintro w9 rfl bL rfl;rw [yE];have bq:=((xr.tr (Ext.al _ (.cells #[af,af] fb))).setRow xr.size #[r.1,r.2]);have e1:(if bg (l.take k)+r.1<b then bg (l.take k)+r.1 else b)=min b (bg (l.take k)+r.1):=by split<;>omega
  have e2:(if bg (l.take k)>a then bg (l.take k) else a)=max a (bg (l.take k)):=by split<;>omega
  rw [e1,e2];have hkeep:∀g,o.bj=some g->(((wr.alloc (.cells #[af,af] fb)).setRow wr.heap.size #[r.1,r.2]).drew).heap[g]? =wr.heap[g]? :=by intro g hg;have:=(ho.own.lt hg).2;show ((wr.alloc _).setRow wr.heap.size _).heap[g]? =_;rw [setRow_other _ _ _ _ aa];exact (Ext.al _ _).heap this
  have Gc:=aj.bM ho hkeep;have ed:(Co (aX (l.take k)) a b).length<=1099511627776:=by have:=aab (aX (l.take k)) a b;omega
  apply Br.mk<;>intro h2<;>simp only [bA,bV] at h2
  ·have J1:=az (n:=min b (bg (l.take k)+r.1)-max a (bg (l.take k))) (by unfold inI;omega);rw [J1];refine (nY w o _ (min b (bg (l.take k)+r.1)-max a (bg (l.take k)),r.2) _ bq.drew.size Gc ed (by show min b (bg (l.take k)+r.1)-max a (bg (l.take k))<=_;omega)).mono ?_;rintro e w' ⟨s',rfl,ho',x',JV⟩;refine ⟨s',rfl,JV _ (λhb=>absurd (ho.own.lt hb).2 (tA _)) (by simp [World.drew,World.setRow]),n-1,by omega,k+1,by omega,by omega,bq.drew.trans x',by omega,?_⟩;rw [ae9];exact ho'
  ·refine ⟨n-1,by omega,k+1,by omega,by omega,bq.drew,by omega,?_⟩;rw [ae9,show (min b (bg (l.take k)+r.1)-max a (bg (l.take k))).toNat=0 from by omega];simpa using Gc
 ·obtain rfl:k=l.length:=by omega
  rw [ko] at ho;exact ⟨o,rfl,ho,xr⟩
def jY(s:Sl)(l:List Rn)(w:World)(hs:ep w s l)(hn:Bd l.length):
  ah 162 #[s] w λe w'=>∃s':Sl,e=s'/\lS w w' s' l/\Ext w w':=by
 have kf:=ep.len hs;unfold Bd at hn;apply vz.vc;apply Br.mk<;>intro h
 ·have:l=[]:=by
   rcases tk l.length with h0|h0
   ·exact tu h0
   ·have:=RdK.isSome hs aa (i:=0) (by simpa using h0)
    cases hsa:s.a<;>simp [hsa] at h this
  subst this;exact ⟨⟨none,0,0⟩,rfl,aj.nil,Ext.bX w⟩
 ·rintro w0 rfl;have xa:=Ext.al w (.cells #[] fb);have hz:Go.Vc.Own w fb 2 (w.alloc (.cells #[] fb)) ⟨bu w.heap.size,0,0⟩ []:=.row w.heap.size 0 0 [] (ax _) (Row.new w [] fb) cx (ax _);have hf:(l.map rv).flatten.length=s.n*2:=by rw [bK hs.wd];simp [kf]
  have h1:One (l.map rv).flatten:=fi λr hr=>by obtain ⟨q,_,rfl⟩:=aS.1 hr;exact nO _ _ _ _
  obtain ⟨hp,hr⟩:=hz.append (bytes:=16) (m:=s.n) (news:=(l.map rv).flatten) xa.size hf h1 (by simp;omega) (by simp;omega);refine ⟨(l.map rv).flatten,RdK.flat (hs.ext xa) aa,hp,λs2 w3 aR=> ?_⟩;obtain ⟨ho,Ga,xb,_,_⟩:=hr s2 w3 aR;refine ⟨pB aR hf cx,s2,rfl,⟨by simpa using ho,hs.wd⟩,xa.trans xb⟩
def AE(s:Sl)(ss:List Sl)(cs:List (List Int))(w:World)(hs:RdK w s 1 (ss.map λt=> [.slice t.a t.n t.c]))(ed:ss.length=cs.length)
  (hr:∀(i:Nat)(t:Sl)(c:List Int),ss[i]? =some t->cs[i]? =some c->ep w t (cM c))(hb:Bd ss.length)(hn:Bd cs.flatten.length):
  ah 226 #[s] w λe w'=>∃s':Sl,e=s'/\lS w w' s' (cM cs.flatten)/\Ext w w':=by
 have kf:s.n=ss.length:=by have:=hs.n;simpa using this
 unfold Bd at hn hb;apply OB.vc;refine ⟨λn x o wr=>∃k:Nat,x=k/\k+n=ss.length/\Ext w wr/\lS w wr o (cM (cs.take k).flatten),⟨ss.length,0,rfl,by omega,Ext.bX w,aj.nil⟩,?_⟩;rintro n us x o wr ⟨k,rfl,hk,xr,ho⟩;have hw:=az (n:=(k:Int)+1) (by unfold inI;omega);apply Br.mk<;>intro h<;>simp at h
 ·obtain ⟨t,ht⟩:=aZ (l:=ss) (i:=k) aa;obtain ⟨c,hc⟩:=aZ (l:=cs) (i:=k) aa;have hrt:=hr k t c ht hc;have htn:=ep.len hrt;have hfl:(cs.take (k+1)).flatten=(cs.take k).flatten++c:=by rw [cm,hc];simp
  have hle:(cs.take k).flatten.length+c.length<=cs.flatten.length:=by have e:=congrArg List.length (congrArg List.flatten (jK (k+1) cs));rw [C4,hfl] at e;simp only [eP] at e;omega
  have P7:=j7 c;have mA:=hs.rd k [.slice t.a t.n t.c] (by rw [aV,ht];rfl) 0 _ rfl;refine ⟨RdK.fp hs aa aa aa,t,xr.ld (by simpa using mA),?_⟩;refine ⟨λn x o wr=>∃j:Nat,x=j/\j+n=(cM c).length/\Ext w wr/\lS w wr o (cM ((cs.take k).flatten++aX ((cM c).take j))),⟨(cM c).length,0,rfl,by omega,xr,by simpa [aX] using ho⟩,?_⟩;rintro n2 oB x2 o2 w2 ⟨j,rfl,hj,x2,Gc⟩;have yE:=az (n:=(j:Int)+1) (by unfold inI;omega);apply Br.mk<;>intro h2<;>simp at h2
  ·obtain ⟨r,NM⟩:=aZ (l:=cM c) (i:=j) aa;have hrm:=iK (bf NM);refine ⟨ep.fp hrt aa,_,_,ep.ll (hrt.ext x2) NM,?_⟩;rintro w9 rfl bL rfl;have bq:=((x2.tr (Ext.al _ (.cells #[af,af] fb))).setRow x2.size #[r.1,r.2]);have ho3:=aj.bM (w':=(w2.alloc (.cells #[af,af] fb)).setRow w2.heap.size #[r.1,r.2]) Gc (by
    intro g hg;have:=(Gc.own.lt hg).2;rw [setRow_other _ _ _ _ aa];exact (Ext.al _ _).heap this)
   have FQ:((cs.take k).flatten++aX ((cM c).take j)).length<=1099511627776:=by rw [eP];have h3:=fk (l:=cM c) (λq hq=>by have:=iK hq;omega) j;rw [iB,dz λq hq=>by have:=iK (kq hq);omega] at h3;omega
   refine (nY w o2 _ r _ bq.size ho3 FQ aa).mono ?_;rintro e w' ⟨s',rfl,ho',x',JV⟩;refine ⟨s',rfl,JV _ (λhb=>absurd (Gc.own.lt hb).2 (tA _)) (by simp [World.setRow]),n2-1,by omega,j+1,by omega,by omega,bq.trans x',?_⟩;rw [iJ NM,<-mX];exact ho'
  ·obtain rfl:j=(cM c).length:=by omega
   refine ⟨n-1,by omega,k+1,by omega,by omega,x2,?_⟩;rw [ko,jb] at Gc;rw [hfl];exact Gc
 ·obtain rfl:k=ss.length:=by omega
  rw [ed,ko] at ho;exact ⟨o,rfl,ho,xr⟩
end Go.Proofs.YtalpkjfpmdpbiaaGreatDoor
namespace Go.Proofs.YtalpkjfpmdpbiaaGreatDoor
open Go Go.Vc Go.RowKit Go.Proofs Go.bh
def A6(s:Sl)(c:List Int)(a b x:Int)(w:World)(hs:ep w s (cM c))(hn:Bd c.length)(ha:inI a)(hb:inI b):
  ah 192 #[s,a,b,x] w λe w'=>∃s':Sl,e=s'/\lS w w' s' (cM (if ba x then uj c a b x else c))/\Ext w w':=by
 have hl:Bd (cM c).length:=fA (j7 c) hn;have hp:∀r ∈ cM c,0<=r.1:=λr hr=>by have:=iK hr;omega
 have Bk:bg (cM c)<=1099511627776:=by rw [iB];unfold Bd at hn;omega
 unfold Bd at hn;unfold inI at ha hb;apply Oz.vc;refine (mK s _ w hs hl hp Bk).mono ?_;rintro e w1 ⟨rfl,x1⟩;rw [iB];refine ⟨_,rfl,(gX x w1).mono ?_⟩;rintro e w2 ⟨rfl,x2⟩;have bU:=x1.tr x2;have e1:(if ((c.length:Nat):Int)<(if 0>a then 0 else a) then ((c.length:Nat):Int) else (if 0>a then 0 else a))=min (max a 0) (c.length:Int):=by split<;>split<;>omega
 have e2:(if ((c.length:Nat):Int)<(if 0>b then 0 else b) then ((c.length:Nat):Int) else (if 0>b then 0 else b))=min (max b 0) (c.length:Int):=by split<;>split<;>omega
 rw [e1,e2];refine ⟨_,rfl,Br.mk (λh=> ?_) (λh=>Br.mk (λh2=> ?_) (λh2=> ?_))⟩
 ·simp at h;refine (jY s _ w2 (hs.ext bU) hl).mono ?_;rintro e w3 ⟨s',rfl,ho,x3⟩;refine ⟨s',rfl,s',rfl,?_,bU.tr x3⟩;rw [h];exact aj.low ho bU.size
 ·simp at h h2;refine (jY s _ w2 (hs.ext bU) hl).mono ?_;rintro e w3 ⟨s',rfl,ho,x3⟩;refine ⟨s',rfl,s',rfl,?_,bU.tr x3⟩;rw [h,if_pos rfl,LF c a b x aa];exact aj.low ho bU.size
 ·replace h2:=eX h2;have hm:ba x=true:=by simpa using h
  have hw:=az (n:=min (max b 0) (c.length:Int)-min (max a 0) (c.length:Int)) (by unfold inI;omega);rw [hw];refine (ru s _ 0 (min (max a 0) (c.length:Int)) w2 (hs.ext bU) hl hp Bk aa aa).mono ?_;rintro e w3 ⟨s1,rfl,o1,x3⟩;refine ⟨s1,rfl,(As (min (max b 0) (c.length:Int)-min (max a 0) (c.length:Int)) x w3 aa).mono ?_⟩;rintro e w4 ⟨s2,rfl,o2,x4⟩;refine ⟨s2,rfl,(ru s _ (min (max b 0) (c.length:Int)) c.length w4 (((hs.ext bU).ext x3).ext x4) hl hp Bk aa aa).mono ?_⟩;rintro e w5 ⟨s3,rfl,o3,x5⟩;refine ⟨s3,rfl,?_⟩;rintro w6 rfl;have x6:=Ext.al w5 (.cells #[s1,s2,s3] 106);rw [jb] at o1 o3;have jx:=Row.new w5 [s1,s2,s3] 106;have fq:RdK (w5.alloc (.cells #[s1,s2,s3] 106)) ⟨bu w5.heap.size,3,3⟩ 1 ([s1,s2,s3].map λt=> [.slice t.a t.n t.c]):=by
   refine ⟨rfl,by simp,λi r hi j v hj=> ?_⟩;show ld _ (ae (bu w5.heap.size) _)=_;rw [bZ,jx.ld];rcases i with _|_|_|i<;>simp at hi
   all_goals subst hi
   all_goals rcases j with _|j<;>simp at hj
   all_goals subst hj;rfl
  refine (AE _ [s1,s2,s3] [Co c 0 (min (max a 0) (c.length:Int)),List.replicate (min (max b 0) (c.length:Int)-min (max a 0) (c.length:Int)).toNat x,Co c (min (max b 0) (c.length:Int)) c.length] _ fq rfl ?_ cx ?_).mono ?_
  ·intro i t d ht hd;rcases i with _|_|_|i<;>simp at ht hd
   ·subst ht;subst hd;exact (((o1.ext x4).ext x5).ext x6).rd aa
   ·subst ht;subst hd;exact ((o2.ext x5).ext x6).rd aa
   ·subst ht;subst hd;exact (o3.ext x6).rd aa
  ·have e:=congrArg List.length (Ds c a b x aa);rw [Pn] at e;simp only [C6,List.flatten_nil,GJ,eP] at e ⊢;unfold Bd;omega
  ·rintro e w7 ⟨s',rfl,ho,x7⟩;have xx:=(((bU.tr x3).tr x4).tr x5).tr x6;refine ⟨s',rfl,s',rfl,?_,xx.tr x7⟩;rw [if_pos hm,Ds c a b x aa];have ho:=aj.low ho xx.size;simpa using ho
def rT(c:List Int)(i x:Int):List Int:=if ba x=true/\0<=i/\i<(c.length:Int) then c.set i.toNat x else c
def Cu(s:Sl)(c:List Int)(i x:Int)(w:World)(hs:ep w s (cM c))(hn:Bd c.length)(hi:inI i):
  ah 150 #[s,i,x] w λe w'=>∃s':Sl,e=s'/\lS w w' s' (cM (rT c i x))/\Ext w w':=by
 have hl:Bd (cM c).length:=fA (j7 c) hn;have hp:∀r ∈ cM c,0<=r.1:=λr hr=>by have:=iK hr;omega
 have Bk:bg (cM c)<=1099511627776:=by rw [iB];unfold Bd at hn;omega
 have hi':=hi;have hn':=hn;unfold Bd at hn';unfold inI at hi';apply R0.vc;apply Br.mk<;>intro h<;>simp at h
 ·refine (jY s _ w hs hl).mono ?_;rintro e w3 ⟨s',rfl,ho,x3⟩;refine ⟨s',rfl,s',rfl,?_,x3⟩;unfold rT;rw [if_neg aa];exact ho
 ·refine (mK s _ w hs hl hp Bk).mono ?_;rintro e w1 ⟨rfl,x1⟩;rw [iB];refine ⟨_,rfl,Br.mk (λh2=> ?_) (λh2=> ?_)⟩<;>simp at h2
  ·refine (jY s _ w1 (hs.ext x1) hl).mono ?_;rintro e w3 ⟨s',rfl,ho,x3⟩;refine ⟨s',rfl,s',rfl,?_,x1.tr x3⟩;unfold rT;rw [if_neg aa];exact aj.low ho x1.size
  ·have hw:=az (n:=i+1) (by unfold inI;omega);rw [hw];refine (A6 s c i (i+1) x w1 (hs.ext x1) hn hi (by unfold inI;omega)).mono ?_;rintro e w3 ⟨s',rfl,ho,x3⟩;refine ⟨s',rfl,s',rfl,?_,x1.tr x3⟩;unfold rT;have:=aj.low ho x1.size;rw [Pp c i x h h2] at this
   cases hm:ba x
   ·rw [hm] at this;rw [if_neg cx];exact this
   ·rw [hm] at this;rw [if_pos ⟨rfl,h,h2⟩];exact this
def TS(a b:Int):ai (ai a-b)=ai (a-b):=by unfold IntKind.wrap;simp only [IntKind.bits,IntKind.signed,re];split<;>split<;>split<;>simp_all<;>omega
def Fj(s:Sl)(l:List Rn)(i:Int)(w:World)(hs:ep w s l)(hn:Bd l.length)(hl:∀r ∈ l,0<=r.1)(Bk:bg l<=1099511627776)(hi:inI i):
  ah 130 #[s,i] w λe w'=>e=Value.int .i64 (OF (aX l) i)/\Ext w w':=by
 have kf:=ep.len hs;unfold Bd at hn;apply Wk.vc;refine ⟨λn x y wr=>∃k:Nat,x=k/\k+n=l.length/\Ext w wr/\y=ai (i-bg (l.take k))/\(i<0\/bg (l.take k)<=i),⟨l.length,0,rfl,by omega,Ext.bX w,?_,?_⟩,?_⟩
 ·rw [show bg (l.take 0)=0 from rfl,Int.sub_zero,az hi]
 ·rw [show bg (l.take 0)=0 from rfl];omega
 rintro n us x y wr ⟨k,rfl,hk,xr,rfl,lk⟩;have hw:=az (n:=(k:Int)+1) (by unfold inI;omega);unfold inI at hi;have hc:∀k,((aX (l.take k)).length:Int)=bg (l.take k):=λk=>(dz λq hq=>hl q (kq hq)).symm
 apply Br.mk<;>intro h<;>simp at h
 ·obtain ⟨r,hr⟩:=aZ (l:=l) (i:=k) aa;have e:=gR hr;have hr0:=hl r (bf hr);have b1:=fk hl k;have b2:=fk hl (k+1);refine ⟨ep.fp hs aa,_,_,ep.ll (hs.ext xr) hr,?_⟩;rintro w9 rfl bL rfl;have bq:=((xr.tr (Ext.al _ (.cells #[af,af] fb))).setRow xr.size #[r.1,r.2]);have hwi:=S9 (i-bg (l.take k));unfold inI at hwi;have XZ:i<0->(0<=ai (i-bg (l.take k))->ai (i-bg (l.take k))<r.1->False):=by intro h0 h1 h2;revert h1 h2;unfold IntKind.wrap;simp only [IntKind.bits,IntKind.signed,re];split<;>simp_all<;>omega
  have Mj:0<=i->bg (l.take k)<=i->ai (i-bg (l.take k))=i-bg (l.take k):=λ_ _=>wI
  have nx:(i<0\/bg (l.take (k+1))<=i)->∃n6,n6<n/\∃k_1:Nat,ai ((k:Int)+1)=k_1/\k_1+n6=l.length/\Ext w ((wr.alloc (.cells #[af,af] fb)).setRow wr.heap.size #[r.1,r.2])/\
    ai (ai (i-bg (l.take k))-r.1)=ai (i-bg (l.take k_1))/\(i<0\/bg (l.take k_1)<=i):=
   λhh=>⟨n-1,by omega,k+1,by omega,by omega,bq,by rw [TS,e,Int.sub_sub],hh⟩
  refine Br.mk (λh1=>Br.mk (λh2=> ?_) (λh2=> ?_)) (λh1=> ?_)<;>simp only [bA,bV] at*
  ·rcases oF i 0 with h0|h0
   ·exact (XZ h0 h1 h2).elim
   ·have hle:bg (l.take k)<=i:=by omega
    have:=Mj h0 hle;have ht:l=l.take k++ [r]++l.drop (k+1):=by have:=jK (k+1) l;rw [cm,hr] at this;exact this.symm
    refine ⟨?_,bq⟩;have hcell:aX l=aX (l.take k)++List.replicate r.1.toNat r.2++aX (l.drop (k+1)):=by rw [<-gY r,<-fm,<-fm,<-ht]
    rw [hcell,aaa _ _ _ _ _ (by rw [hc];exact hle) (by rw [hc];omega)]
  ·refine nx ?_;rcases oF i 0 with h0|h0
   ·exact .inl h0
   ·have:=Mj h0 aa;right;omega
  ·refine nx ?_;rcases oF i 0 with h0|h0
   ·exact .inl h0
   ·have:=Mj h0 aa;omega
 ·obtain rfl:k=l.length:=by omega
  refine ⟨?_,xr⟩;have:=hc l.length;rw [ko] at this lk;rw [WH _ _ aa]
def DG(may:Int->Bool)(prev:Option Int)(left:Int)(r:Rn)(t:List Rn):ma may prev left (r::t)=if r.1<1\/r.1>left\/may r.2=false\/prev=some r.2 then false else ma may (some r.2) (left-r.1) t:=rfl
def rC(s:Sl)(l:List Rn)(m:Int)(w:World)(hs:ep w s l)(hn:Bd l.length)(hm:inI m):
  ah 161 #[s,m] w λe w'=>e=Value.bool (ju ba l m)/\Ext w w':=by
 have kf:=ep.len hs;unfold Bd at hn;unfold inI at hm;apply R2.vc;have hprev:∀k,k<l.length->(l.take k).getLast? =if k=0 then none else l[k-1]? :=by
  intro k hk;rw [List.getLast?_eq_getElem?,mW,bF,Nat.min_eq_left aa];rcases tk k with rfl|h0
  ·simp
  ·rw [if_pos aa,if_neg aa]
 refine ⟨λn x y wr=>∃k:Nat,x=k/\k+n=l.length/\Ext w wr/\y<=max m 0/\(min m 0<=y)/\ma ba ((l.take k).getLast?.map (·.2)) y (l.drop k)=ma ba none m l,⟨l.length,0,rfl,by omega,Ext.bX w,by omega,by omega,rfl⟩,?_⟩;rintro n us x y wr ⟨k,rfl,hk,xr,hy,hy0,heq⟩;have hw:=az (n:=(k:Int)+1) (by unfold inI;omega);apply Br.mk<;>intro h<;>simp at h
 ·obtain ⟨r,hr⟩:=aZ (l:=l) (i:=k) aa;have hd:l.drop k=r::l.drop (k+1):=by
   rw [kW aa];rw [cy aa] at hr
   cases hr;rfl
  rw [hd] at heq;rw [DG] at heq;refine ⟨ep.fp hs aa,_,_,ep.ll (hs.ext xr) hr,?_⟩;rintro w9 rfl bL rfl;have bq:=((xr.tr (Ext.al _ (.cells #[af,af] fb))).setRow xr.size #[r.1,r.2]).drew;have fin:∀w',Ext w w'->(r.1<1\/r.1>y\/ba r.2=false\/(l.take k).getLast?.map (·.2)=some r.2)->Ending.returned (.bool false)=Value.bool (ju ba l m)/\Ext w w':=by intro w' x' hh;rw [if_pos hh] at heq;refine ⟨?_,x'⟩;unfold ju;rw [<-heq];simp
  refine Br.mk (λh1=> ?_) (λh1=>Br.mk (λh2=> ?_) (λh2=> ?_))<;>simp only [bA,bV] at*
  ·exact fin _ bq (.inl h1)
  ·exact fin _ bq (.inr (.inl h2))
  ·refine (gX r.2 _).mono ?_;rintro e w3 ⟨rfl,x3⟩;have x4:=bq.tr x3;have jx:Row ((wr.alloc (.cells #[af,af] fb)).setRow wr.heap.size #[r.1,r.2]).drew wr.heap.size [r.1,r.2] fb:=(Row.new wr [af,af] fb).set [r.1,r.2];have hrow3:=jx.ext x3;have hkeep:=x3.heap jx.lt;have NU:au w3 (bu wr.heap.size) 0 [r.1]:=by
    refine hrow3.aY (o:=0) λj hj=> ?_
    have:j=0:=by simpa using hj
    subst this;rfl
   have nx:((l.take k).getLast?.map (·.2)≠some r.2)->ba r.2=true->∃n6,n6<n/\∃k_1:Nat,ai ((k:Int)+1)=k_1/\k_1+n6=l.length/\Ext w w3/\ai (y-r.1)<=max m 0/\min m 0<=ai (y-r.1)/\ma ba ((l.take k_1).getLast?.map (·.2)) (ai (y-r.1)) (l.drop k_1)=ma ba none m l:=by
    intro dN hbm;have hwy:=az (n:=y-r.1) (by unfold inI;omega);refine ⟨n-1,by omega,k+1,by omega,by omega,x4,by omega,by omega,?_⟩;rw [hwy];rw [if_neg (by
     rintro (h|h|h|h)
     ·omega
     ·omega
     ·rw [hbm] at h;cases h
     ·exact dN h)] at heq
    rw [<-heq,cm,hr];simp
   refine ⟨_,rfl,hkeep,NU,NU,Br.mk (λh3=> ?_) (λh3=> ?_)⟩
   ·exact fin _ x4 (.inr (.inr (.inl (by simpa using h3))))
   ·have hbm:ba r.2=true:=by simpa using h3
    apply Br.mk<;>intro h4<;>simp at h4
    ·have BR:=az (n:=(k:Int)-1) (by unfold inI;omega);rw [BR];obtain ⟨q,hq⟩:=aZ (l:=l) (i:=k-1) aa;have cX:=ep.fp hs (i:=k-1) aa;rw [show ((k-1:Nat):Int)=(k:Int)-1 from by omega] at cX;have hcq:=ep.c1 (hs.ext x4) hq;have rD:=ep.some hs (i:=k-1) aa;rw [show ((k:Int)-1).toNat=k-1 from by omega];have hlast:=hprev k aa;rw [if_neg aa,hq] at hlast;refine ⟨cX,dW.2 ⟨rD,_,hcq,Br.mk (λh5=> ?_) (λh5=> ?_)⟩⟩
     ·exact fin _ x4 (.inr (.inr (.inr (by rw [hlast];simpa using h5))))
     ·exact nx (by rw [hlast];simpa using h5) hbm
    ·refine nx ?_ hbm;have:k=0:=by omega
     subst this;simp
 ·obtain rfl:k=l.length:=by omega
  rw [List.drop_length] at heq;apply Br.mk<;>intro h1<;>simp at h1
  ·refine ⟨?_,xr⟩;unfold ju;rw [<-heq,decide_eq_true h1];rfl
  ·refine ⟨?_,xr⟩;unfold ju;rw [decide_eq_false aa];rfl
end Go.Proofs.YtalpkjfpmdpbiaaGreatDoor
namespace Go.Proofs.YtalpkjfpmdpbiaaGreatDoor
open Go Go.Vc Go.RowKit Go.Proofs Go.bh
def vu(s:Sl)(l:List Rn)(w:World)(hs:ep w s l)(hn:Bd l.length)(hl:∀r ∈ l,0<=r.1)(Bk:bg l<=1099511627776):
  ah 224 #[s] w λe w'=>∃s':Sl,e=s'/\Vk w w' s' (aX l)/\Ext w w':=by
 have kf:=ep.len hs;unfold Bd at hn;apply GU.vc;refine ⟨λn x o wr=>∃k:Nat,x=k/\k+n=l.length/\Ext w wr/\Vk w wr o (aX (l.take k)),⟨l.length,0,rfl,by omega,Ext.bX w,aj.nil⟩,?_⟩;rintro n us x o wr ⟨k,rfl,hk,xr,ho⟩;have hw:=az (n:=(k:Int)+1) (by unfold inI;omega);apply Br.mk<;>intro h<;>simp at h
 ·obtain ⟨r,hr⟩:=aZ (l:=l) (i:=k) aa;have hr0:=hl r (bf hr);have b2:=fk hl (k+1);have b3:bg (l.take (k+1))=_:=dz λq hq=>hl q (kq hq)
  rw [iJ hr,eP,tE] at b3;refine ⟨λn x o wr=>∃j:Nat,x=j/\j+n=r.1.toNat/\Ext w wr/\Vk w wr o (aX (l.take k)++List.replicate j r.2),⟨r.1.toNat,0,rfl,by omega,xr,by simpa using ho⟩,?_⟩;rintro n2 oB x2 o2 w2 ⟨j,rfl,hj,x2,Gc⟩;have yE:=az (n:=(j:Int)+1) (by unfold inI;omega);have cX:=ep.fp hs (i:=k) aa;have rD:=ep.some hs (i:=k) aa;have BO:=xI.len Gc.Vl;rw [eP,tE] at BO;refine ⟨cX,dW.2 ⟨rD,_,ep.c0 (hs.ext x2) hr,Br.mk (λh2=> ?_) (λh2=> ?_)⟩⟩<;>simp only [bA,bV] at h2
  ·refine ⟨cX,dW.2 ⟨rD,_,ep.c1 (hs.ext x2) hr,?_⟩⟩;rintro cY rfl;obtain ⟨hp,aR⟩:=aj.kJ Gc (bytes:=8) (news:=iv r.2) (.cells #[r.2] qT) x2.size rfl (lF _ _) aa aa;refine ⟨hp,λgF dA hr'=> ?_⟩;obtain ⟨k1,ho',_,xb,_,_⟩:=aR gF dA hr';refine ⟨k1,n2-1,by omega,j+1,by omega,by omega,x2.trans xb,?_⟩;show aj _ _ 1 _ _ ((aX (l.take k)++List.replicate (j+1) r.2).map iv);rw [List.replicate_succ',<-mX,aT];exact ho'
  ·have:j=r.1.toNat:=by omega
   subst this;exact ⟨n-1,by omega,k+1,by omega,by omega,x2,by rw [iJ hr];exact Gc⟩
 ·obtain rfl:k=l.length:=by omega
  rw [ko] at ho;exact ⟨o,rfl,ho,xr⟩
def rj{c:List Int}{k:Nat}{b:Int}(hb:c[k]? =some b):cM (c.take (k+1))=gu (cM (c.take k)) (1,b):=by rw [cm,hb,tF];rfl
def Rx{c:List Int}{b:Int}:∃m q,cM (c++ [b])=m++ [q]/\q.2=b:=by
 have e:cM (c++ [b])=gu (cM c) (1,b):=by rw [tF];rfl
 rw [e];rcases nQ (cM c) with h|⟨m,q,h⟩
 ·rw [h,eD (l:=[]) (r:=(1,b)) (by show (1:Int)<=1;omega) cx];exact ⟨[],(1,b),rfl,rfl⟩
 ·rw [h];by_cases e:q.2=b
  ·rw [gi (r:=(1,b)) (by show (1:Int)<=1;omega) e];exact ⟨m,_,rfl,e⟩
  ·rw [eD (r:=(1,b)) (by show (1:Int)<=1;omega) (by intro p hp;simp at hp;subst hp;exact e)];exact ⟨m++ [q],(1,b),rfl,rfl⟩
def mF(s:Sl)(c:List Int)(w:World)(hs:xI w s c)(hn:Bd c.length):
  ah 176 #[s] w λe w'=>∃s':Sl,e=s'/\lS w w' s' (cM c)/\Ext w w':=by
 have kf:=xI.len hs;unfold Bd at hn;apply Ry.vc;refine ⟨λn x o wr=>∃k:Nat,x=k/\k+n=c.length/\Ext w wr/\lS w wr o (cM (c.take k)),⟨c.length,0,rfl,by omega,Ext.bX w,aj.nil⟩,?_⟩;rintro n us x o wr ⟨k,rfl,hk,xr,ho⟩;have hw:=az (n:=(k:Int)+1) (by unfold inI;omega);have xd:=xr.drew;have hod:=aj.ext ho (Ext.dr wr);have BO:=ep.len ho.rS;have yk:=j7 (c.take k);rw [bF] at yk;apply Br.mk<;>intro h<;>simp at h
 ·obtain ⟨b,hb⟩:=aZ (l:=c) (i:=k) aa;have cX:=xI.fp hs (i:=k) aa;have Ud:=xI.c0 (hs.ext xd) hb;have grow:(∀q,(cM (c.take k)).getLast? =some q->q.2≠b)->∀bS:World,bS=wr.drew.alloc (.cells #[(1:Int),b] fb)->
    aF 16 2 bS ⟨o.a,o.n,o.c⟩ 1 [(1:Int),b]/\∀(gl:Sl)(bY:World),aE fb 2 bS ⟨o.a,o.n,o.c⟩ 1 [(1:Int),b] gl bY->bY.heap[wr.drew.heap.size]? =bS.heap[wr.drew.heap.size]?/\
    ∃n6,n6<n/\∃k_1:Nat,ai ((k:Int)+1)=k_1/\k_1+n6=c.length/\Ext w bY/\lS w bY ⟨gl.a,gl.n,gl.c⟩ (cM (c.take k_1)):=by
   rintro dN bS rfl;obtain ⟨hp,aR⟩:=aj.kJ hod (bytes:=16) (news:=rv (1,b)) (.cells #[(1:Int),b] fb) xd.size rfl (nO _ _ _ _) aa aa;refine ⟨hp,λgF dA hr'=> ?_⟩;obtain ⟨k1,ho',_,xb,_,_⟩:=aR gF dA hr';refine ⟨k1,n-1,by omega,k+1,by omega,by omega,xd.trans xb,?_⟩;rw [rj hb,eD (r:=(1,b)) (by show (1:Int)<=1;omega) dN];show aj _ _ 2 _ _ ((cM (c.take k)++ [(1,b)]).map rv);rw [aT];exact ho'
  apply Br.mk<;>intro h1<;>simp at h1
  ·obtain ⟨a,ha⟩:=aZ (l:=c) (i:=k-1) aa;have BR:=az (n:=(k:Int)-1) (by unfold inI;omega);rw [BR];have hin2:=xI.fp hs (i:=k-1) aa;rw [show ((k-1:Nat):Int)=(k:Int)-1 from by omega] at hin2;have hca:=xI.c0 (hs.ext xd) ha;have Mi:c.take k=c.take (k-1)++ [a]:=by
    have:k=k-1+1:=by omega
    rw [this,cm,Nat.add_sub_cancel,ha];rfl
   obtain ⟨m,q,YL,hqa⟩:=Rx (c:=c.take (k-1)) (b:=a);rw [<-Mi] at YL;refine ⟨hin2,a,by rw [show ((k:Int)-1).toNat=k-1 from by omega];exact hca,cX,b,Ud,Br.mk (λh2=> ?_) (λh2=> ?_)⟩
   ·simp at h2;have JW:o.n=m.length+1:=by rw [BO,YL];simp
    have hwo:=az (n:=((o.n:Nat):Int)-1) (by unfold inI;omega);rw [hwo];have aaL:(((o.n:Nat):Int)-1).toNat=m.length:=by omega
    have hgq:(cM (c.take k))[m.length]? =some q:=by rw [YL];simp
    have hin3:=ep.fp ho.rS (i:=m.length) (by rw [YL];simp);rw [show ((m.length:Nat):Int)=((o.n:Nat):Int)-1 from by omega] at hin3;have rD:=ep.some ho.rS (i:=m.length) (by rw [YL];simp);rw [aaL];have hqm:=iK (bf hgq);rw [bF] at hqm;have hwq:=az (n:=q.1+1) (by unfold inI;omega);obtain ⟨q1,q2,q3,q4,q5⟩:=aj.set hod (i:=m.length) (j:=0) (r:=rv q) (v:=.int .i64 (q.1+1)) (by rw [aV,hgq];rfl) aa rfl xd.size;refine ⟨hin3,dW.2 ⟨rD,_,ep.c0 (lS.rS hod) hgq,hin3,dW.2 ⟨rD,⟨q1,q2⟩,?_⟩⟩⟩;rintro bL rfl;rw [hwq];refine ⟨n-1,by omega,k+1,by omega,by omega,xd.trans q4,?_⟩;rw [rj hb,YL,gi (r:=(1,b)) (by show (1:Int)<=1;omega) (hqa.trans h2)];show aj _ _ 2 _ _ ((m++ [(q.1+1,q.2)]).map rv);have e:((m++ [q]).map rv).set m.length ((rv q).set 0 (.int .i64 (q.1+1)))=(m++ [(q.1+1,q.2)]).map rv:=by rw [aT,aT,List.set_append_right _ _ cx];simp
    rw [<-e,<-YL];exact q3
   ·refine ⟨cX,b,Ud,grow ?_⟩;intro p hp;rw [YL] at hp;simp at hp;subst hp;rw [hqa];simpa using h2
  ·refine ⟨cX,b,Ud,grow ?_⟩;have:k=0:=by omega
   subst this;intro p hp;simp [cM] at hp
 ·obtain rfl:k=c.length:=by omega
  rw [ko] at ho;exact ⟨o,rfl,ho,xr⟩
def zP(s:Sl)(c:List Int)(i x:Int)(w:World)(hs:ep w s (cM c))(hn:Bd c.length):
  Calls Tryz.prog 189 #[.slice s.a s.n s.c,.int .i64 i,.int .i64 x] w λe w'=>∃s':Sl,e=.returned (.slice s'.a s'.n s'.c)/\lS w.heap.size w' s' (cM (rT c i x))/\Ext w w':=by
 have hl:Bd (cM c).length:=Nat.le_trans (j7 c) hn;apply Of.vc;refine (vu s _ w hs hl (λr hr=>by have:=iK hr;omega) (by rw [iB];unfold Bd at hn;omega)).mono ?_;rintro e w1 ⟨s1,rfl,o1,x1⟩;rw [jb] at o1;have hn1:=xI.len o1.Vl;refine ⟨s1,rfl,(gP x w1).mono ?_⟩;rintro e w2 ⟨rfl,rfl⟩;have same:rT c i x=c->Calls Tryz.prog 176 #[.slice s1.a s1.n s1.c] w2 (λe w7=>∃(s8:Sl),e=.returned (.slice s8.a s8.n s8.c)/\∃s':Sl,Ending.returned (.slice s8.a s8.n s8.c)=.returned (.slice s'.a s'.n s'.c)/\lS w.heap.size w7 s' (cM (rT c i x))/\Ext w w7):=by intro e;refine (mF s1 c w2 o1.Vl hn).mono ?_;rintro _ w3 ⟨s',rfl,ho,x3⟩;exact ⟨s',rfl,s',rfl,by rw [e];exact aj.low ho x1.size,x1.tr x3⟩
 refine ⟨_,rfl,Br.mk (λh1=>Br.mk (λh2=>Br.mk (λh3=> ?_) (λh3=> ?_)) (λh2=> ?_)) (λh1=> ?_)⟩<;>try simp only [decide_eq_true_eq,decide_eq_false_iff_not] at*
 ·obtain ⟨b,hb⟩:=aZ (l:=c) (i:=i.toNat) (by omega);have cX:=xI.fp o1.Vl (i:=i.toNat) (by omega);rw [show ((i.toNat:Nat):Int)=i from by omega] at cX;obtain ⟨q1,q2,q3,q4,q5⟩:=aj.set o1 (i:=i.toNat) (j:=0) (r:=iv b) (v:=.int .i64 x) (by rw [List.getElem?_map,hb];rfl) (by omega) rfl x1.size;have e0:ae (ae s1.a (i.toNat*1)) 0=ae s1.a (i.toNat*1):=by rw [eo];rfl
  rw [e0] at q1 q2 q3 q4 q5;refine ⟨cX,⟨q1,q2⟩,?_⟩;rintro w4 rfl;have e1:(c.map iv).set i.toNat ((iv b).set 0 (.int .i64 x))=(c.set i.toNat x).map iv:=by rw [List.map_set];rfl
  rw [e1] at q3;have q3':Vk w.heap.size _ s1 (c.set i.toNat x):=q3;refine (mF s1 _ _ q3'.Vl (by simpa using hn)).mono ?_;rintro _ w5 ⟨s',rfl,ho,x5⟩;have hx:Ext w (bc w2 (ae s1.a (i.toNat*1)) [.int .i64 x]):=x1.trans q4;refine ⟨s',rfl,s',rfl,?_,hx.tr x5⟩;unfold rT;rw [if_pos ⟨h1,h2,by omega⟩];exact aj.low ho hx.size
 ·exact same (by unfold rT;rw [if_neg (by omega)])
 ·exact same (by unfold rT;rw [if_neg (by omega)])
 ·exact same (by unfold rT;rw [if_neg (by rw [h1];simp)])
end Go.Proofs.YtalpkjfpmdpbiaaGreatDoor
namespace Go.Proofs.YtalpkjfpmdpbiaaGreatDoor
open Go Go.Vc Go.RowKit Go.Proofs Go.bh
def A5(s:Sl)(l:List Rn)(m:Int)(w:World)(hs:ep w s l)(hn:Bd l.length)(hm:inI m):
  ah 166 #[s,m] w λe w'=>e=Value.bool (ju ba l m)/\Ext w w':=by
 have kf:=ep.len hs;unfold Bd at hn;unfold inI at hm;apply Oy.vc;refine ⟨λn x y wr=>∃k:Nat,x=k/\k+n=l.length/\Ext w wr/\y<=max m 0/\(min m 0<=y)/\ma ba ((l.take k).getLast?.map (·.2)) y (l.drop k)=ma ba none m l,⟨l.length,0,rfl,by omega,Ext.bX w,by omega,by omega,rfl⟩,?_⟩;rintro n us x y wr ⟨k,rfl,hk,xr,hy,hy0,heq⟩;have hw:=az (n:=(k:Int)+1) (by unfold inI;omega);apply Br.mk<;>intro h<;>simp at h
 ·obtain ⟨r,hr⟩:=aZ (l:=l) (i:=k) aa;have hd:l.drop k=r::l.drop (k+1):=by
   rw [kW aa];rw [cy aa] at hr
   cases hr;rfl
  rw [hd,DG] at heq;have cX:=ep.fp hs (i:=k) aa;have rD:=ep.some hs (i:=k) aa;have xd:=xr.drew;have fin:∀w',Ext w w'->(r.1<1\/r.1>y\/ba r.2=false\/(l.take k).getLast?.map (·.2)=some r.2)->Ending.returned (.bool false)=Value.bool (ju ba l m)/\Ext w w':=by intro w' x' hh;rw [if_pos hh] at heq;refine ⟨?_,x'⟩;unfold ju;rw [<-heq];simp
  refine ⟨cX,dW.2 ⟨rD,_,ep.c1 (hs.ext xr) hr,(gP r.2 wr).mono ?_⟩⟩;rintro e w3 ⟨rfl,rfl⟩;refine ⟨_,rfl,Br.mk (λh0=> ?_) (λh0=> ?_)⟩
  ·exact fin _ xr (.inr (.inr (.inl (by simpa using h0))))
  have hbm:ba r.2=true:=by simpa using h0
  refine ⟨cX,dW.2 ⟨rD,_,ep.c0 (hs.ext xr) hr,Br.mk (λh1=> ?_) (λh1=>⟨cX,dW.2 ⟨rD,_,ep.c0 (hs.ext xr) hr,Br.mk (λh2=> ?_) (λh2=> ?_)⟩⟩)⟩⟩<;>simp only [bA,bV] at*
  ·exact fin _ xr (.inl h1)
  ·exact fin _ xr (.inr (.inl h2))
  ·have nx:((l.take k).getLast?.map (·.2)≠some r.2)->∃n6,n6<n/\∃k_1:Nat,ai ((k:Int)+1)=k_1/\k_1+n6=l.length/\Ext w w3.drew/\ai (y-r.1)<=max m 0/\min m 0<=ai (y-r.1)/\ma ba ((l.take k_1).getLast?.map (·.2)) (ai (y-r.1)) (l.drop k_1)=ma ba none m l:=by
    intro dN;have hwy:=az (n:=y-r.1) (by unfold inI;omega);refine ⟨n-1,by omega,k+1,by omega,by omega,xd,by omega,by omega,?_⟩;rw [hwy];rw [if_neg (by
     rintro (h|h|h|h)
     ·omega
     ·omega
     ·rw [hbm] at h;cases h
     ·exact dN h)] at heq
    rw [<-heq,cm,hr];simp
   apply Br.mk<;>intro h4<;>simp only [bA,bV] at h4
   ·have BR:=az (n:=(k:Int)-1) (by unfold inI;omega);rw [BR];obtain ⟨q,hq⟩:=aZ (l:=l) (i:=k-1) aa;have hin2:=ep.fp hs (i:=k-1) aa;rw [show ((k-1:Nat):Int)=(k:Int)-1 from by omega] at hin2;have hcq:=ep.c1 (hs.ext xd) hq;have hsm2:=ep.some hs (i:=k-1) aa;rw [show ((k:Int)-1).toNat=k-1 from by omega];have hlast:(l.take k).getLast? =some q:=by rw [List.getLast?_eq_getElem?,mW,bF,Nat.min_eq_left aa,if_pos aa,hq]
    refine ⟨cX,dW.2 ⟨rD,_,ep.c1 (hs.ext xd) hr,hin2,dW.2 ⟨hsm2,_,hcq,Br.mk (λh5=> ?_) (λh5=>⟨cX,dW.2 ⟨rD,_,ep.c0 (hs.ext xd) hr,?_⟩⟩)⟩⟩⟩
    ·refine fin _ xd (.inr (.inr (.inr ?_)));rw [hlast];simp at h5;simp [h5]
    ·refine nx ?_;rw [hlast];simp at h5;intro e;exact h5 (Option.some.inj e).symm
   ·refine ⟨cX,dW.2 ⟨rD,_,ep.c0 (hs.ext xd) hr,nx ?_⟩⟩;have:k=0:=by omega
    subst this;simp
 ·obtain rfl:k=l.length:=by omega
  rw [List.drop_length] at heq;apply Br.mk<;>intro h1<;>simp at h1
  ·refine ⟨?_,xr⟩;unfold ju;rw [<-heq,h1];simp [ma]
  ·refine ⟨?_,xr⟩;unfold ju;rw [<-heq];simp [ma,h1]
end Go.Proofs.YtalpkjfpmdpbiaaGreatDoor
namespace Go.Proofs.YtalpkjfpmdpbiaaGreatDoor
open Go Go.Vc Go.RowKit Go.Proofs Go.bh
def Sa{l:List Rn}{k:Nat}{r:Rn}(hr:l[k]? =some r){j:Nat}(hj:j<r.1.toNat):(aX l)[(aX (l.take k)).length+j]? =some r.2:=by
 have e:l=l.take k++r::l.drop (k+1):=by have:=jK k l;rw [kW (bH.1 hr).1] at this;rw [<-(bH.1 hr).2];exact this.symm
 have e2:aX l=aX (l.take k)++(List.replicate r.1.toNat r.2++aX (l.drop (k+1))):=by
  conv=>lhs;rw [e]
  rw [fm];simp [aX]
 rw [e2,mV aa,Nat.add_sub_cancel_left,kT (by rw [tE];exact hj),Ng,if_pos hj]
end Go.Proofs.YtalpkjfpmdpbiaaGreatDoor
namespace Go.Proofs.YtalpkjfpmdpbiaaGreatDoor
open Go Go.Vc Go.RowKit Go.Proofs Go.bh
end Go.Proofs.YtalpkjfpmdpbiaaGreatDoor
